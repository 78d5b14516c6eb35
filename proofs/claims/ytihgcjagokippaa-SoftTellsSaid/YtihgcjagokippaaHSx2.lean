/- What Go functions do, each as a plain Lean function with the same answers, and the proof of it, in every world: printed by the session's driver over the kit's print, with texts by hand. -/
import Derived.Test.YtihgcjagokippaaHSx0
import Derived.Test.YtihgcjagokippaaHSx1
import Derived.Test.YtihgcjagokippaaMini
namespace Go.Proofs.Ytihgcjagokippaa.HS
open Go.RowKit Go.Proofs.YtihgcjagokippaaW.PrintWords Go.Proofs.YtihgcjagokippaaW.PrintLast Go.Proofs.YtihgcjagokippaaW.PrintMore
attribute [local go_sem] max2_int min2_int max_two min_two max_three min_three max_four min_four   -- for this text's walks alone
open Go.Proofs.Ytihgcjagokippaa.Sp
attribute [local go_sem] Go.Proofs.Ytihgcjagokippaa.Sp.u64_not
set_option linter.unusedVariables false
set_option linter.unusedSimpArgs false

/-! ### linear_TellP: function 37 -/
def linear_TellP.f (l0 : List Int) (l1 : List Int) (a2 : Int) : Option (Int × Int) := (linear_Check.f (l1.length : Int) l0 (([(⟨l1, 0⟩ : S24)] : List (S24)))).bind fun t110 => (if t110 = 0 then (if 0 ≤ (l1.length : Int) then (if (l1.length : Int) ≤ (l0.length : Int) then ((vec_Dot.f (l0.take ((l1.length : Int) : Int).toNat) l1 a2).bind fun bt112 => (if bt112.2 = 0 then (if (l1.length : Int) < (l0.length : Int) then ((fix_Add.f bt112.1 (rd l0 (l1.length : Int))).bind fun bt115 => (some (bt115.1, bt115.2))) else (none)) else (some (0, bt112.2)))) else (none)) else (none)) else (some (0, t110)))
set_option maxHeartbeats 8000000 in
set_option maxRecDepth 100000 in
theorem linear_TellP.calls (A0 : Option Addr) (c0 : Nat) (l0 : List Int) (P1_ : Nat → Prop) (A1 : Option Addr) (c1 : Nat) (l1 : List Int) (a2 : Int) (r1 : Int) (r2 : Int) (w : World) (hr0 : Kd.C (Kd.int .i64) w A0 l0.length l0) (hc0 : l0.length ≤ c0) (hs1 : Kd.V (Kd.int .i64) 2 w w.heap.size (fun k_ => P1_ k_) (.slice A1 l1.length c1) l1) (h : linear_TellP.f l0 l1 a2 = some (r1, r2)) :
  Calls Try.prog 37 #[.slice A0 l0.length c0, .slice A1 l1.length c1, .int .i64 a2] w fun e w' => e = .returned (.tuple #[.int .i64 r1, .int .i64 r2]) ∧ Below w.heap.size w w' := by
 have hu24 := Try.underlying24
 have HR0 := ZM hr0
 have HC0 := ZM hc0
 clear hr0 hc0
 have HO1 := ZM (show Kd.V (Kd.int .i64) 2 w w.heap.size (fun k_ => (P1_ k_ ∨ w.heap.size ≤ k_)) (.slice A1 l1.length c1) l1 from Kd.V_mono hs1 (fun k_ hk => .inl hk))
 have HB := ZM (Below.refl w.heap.size w)
 have H : ((linear_Check.f (l1.length : Int) l0 (([(⟨l1, 0⟩ : S24)] : List (S24)))).bind fun t110 => (if t110 = 0 then (if 0 ≤ (l1.length : Int) then (if (l1.length : Int) ≤ (l0.length : Int) then ((vec_Dot.f (l0.take ((l1.length : Int) : Int).toNat) l1 a2).bind fun bt112 => (if bt112.2 = 0 then (if (l1.length : Int) < (l0.length : Int) then ((fix_Add.f bt112.1 (rd l0 (l1.length : Int))).bind fun bt115 => (some (bt115.1, bt115.2))) else (none)) else (some (0, bt112.2)))) else (none)) else (none)) else (some (0, t110)))) = some (r1, r2) := h
 clear h
 obtain ⟨y107, hy107⟩ : ∃ y_ : List (S24), y_ = (([(⟨l1, 0⟩ : S24)] : List (S24))) := ⟨_, rfl⟩
 replace H : ((linear_Check.f (l1.length : Int) l0 y107).bind fun t110 => (if t110 = 0 then (if 0 ≤ (l1.length : Int) then (if (l1.length : Int) ≤ (l0.length : Int) then ((vec_Dot.f (l0.take ((l1.length : Int) : Int).toNat) l1 a2).bind fun bt112 => (if bt112.2 = 0 then (if (l1.length : Int) < (l0.length : Int) then ((fix_Add.f bt112.1 (rd l0 (l1.length : Int))).bind fun bt115 => (some (bt115.1, bt115.2))) else (none)) else (some (0, bt112.2)))) else (none)) else (none)) else (some (0, t110)))) = some (r1, r2) := by first | (rw [hy107]; with_reducible exact H) | (have H2_ := (Option.bind_some _ _).symm.trans H; rw [hy107]; with_reducible exact H2_) | (have H2_ := (Option.bind_some _ _).symm.trans H; with_reducible exact H2_) | with_reducible exact H | (rw [hy107]; exact H) | exact H
 have Ny107 := ZM hy107
 clear hy107
 replace H := Option.bind_eq_some_iff.mp H
 obtain ⟨t110, A40, H⟩ := H
 replace H : (if t110 = 0 then (if 0 ≤ (l1.length : Int) then (if (l1.length : Int) ≤ (l0.length : Int) then ((vec_Dot.f (l0.take ((l1.length : Int) : Int).toNat) l1 a2).bind fun bt112 => (if bt112.2 = 0 then (if (l1.length : Int) < (l0.length : Int) then ((fix_Add.f bt112.1 (rd l0 (l1.length : Int))).bind fun bt115 => (some (bt115.1, bt115.2))) else (none)) else (some (0, bt112.2)))) else (none)) else (none)) else (some (0, t110))) = some (r1, r2) := H
 have A4 := ZM A40
 clear A40
 by_cases c5 : t110 = 0
 case neg =>
  rw [if_neg c5] at H
  have c5b0 : (t110 == 0) = false := beq_eq_false_iff_ne.mpr c5
  have c5b1 : (t110 != 0) = true := bne_iff_ne.mpr c5
  simp only [Option.some.injEq, Prod.mk.injEq] at H
  obtain ⟨rfl, rfl⟩ := H
  go_enter Try.func37, Try.ntmps37
  go_wp2_with (first | ((with_reducible refine gate_dst (N := 18) rfl ?_); refine Kd.N_lit k24 _ 24 ?hg (N' := 18) ?hd (xs := ([(⟨l1, 0⟩ : S24)] : List (S24))) (inner := [.slice A1 l1.length c1, .int .i64 0]) (ok := (fun k_ => (P1_ k_ ∨ w.heap.size ≤ k_))) (okp := (fun k_ => (P1_ k_ ∨ w.heap.size ≤ k_))) ?hr ?hp (fun _ hk => hk) ((show ∀ k_, w.heap.size ≤ k_ → (fun k_ => (P1_ k_ ∨ w.heap.size ≤ k_)) k_ from fun k_ hk => (.inr (Nat.le_trans (zzS Z1) hk))) _ (Nat.le_refl _)) (Below.refl _ _) (Nat.le_refl _) (by simp) ?_; (case hd => rfl); (case hg => rfl); (case hr => exact Z10); (case hp => exact (Reps.c2 (show Kd.FK k24 _ _ (⟨l1, 0⟩ : S24) [.slice A1 l1.length c1, .int .i64 0] from (k24_mkF _ _ (⟨l1, 0⟩ : S24) (Kd.V_reads' (Kd.V_mono (ok' := (fun k_ => (P1_ k_ ∨ w.heap.size ≤ k_))) (HO1.out) (fun k_ hk => hk))).2.1 (Kd.V_F (Kd.V_mono (ok' := (fun k_ => (P1_ k_ ∨ w.heap.size ≤ k_))) (HO1.out) (fun k_ hk => hk))))) (Reps.none _ _))); intro v108 w24 ho25 hb hg_ hnew_; clear hg_ hnew_; (first | rw [← Ny107.out] at ho25 | (simp only [Int.reduceToNat] at ho25; rw [← Ny107.out] at ho25)); replace HO1 := ZM (Kd.V_elder' Z11 (Kd.N_base ho25) hb); have HO109 := ZM (Kd.N_lower ho25 (zzS Z1)); replace HB := ZM (zzT Z1 hb); clear hb ho25; obtain ⟨Ao26, co26, eo26⟩ := Kd.N_slice HO109.out; subst eo26) | ((with_reducible refine gate_callee (f := 53) rfl ?_); refine goesL_ (some 19) rfl rfl Try.func53 (by kernel_rfl) rfl #[.int .i64 (l1.length : Int), .slice A0 l0.length c0, .slice Ao26 y107.length co26] rfl Z2 ?_; (with_reducible refine (linear_Check.calls (l1.length : Int) _ _ l0 _ _ y107 t110 _ ?side1 ?side2 ?side3 ?side4 A4.out).mono ?_); (case side1 => exact Z18); (case side2 => exact HC0.out); (case side3 => exact Z36); (case side4 => exact (Kd.N_reads' HO109.out).2.1); rintro e w27 ⟨rfl, hb⟩; refine ⟨_, rfl, ?_⟩; replace HO1 := ZM (Kd.V_below Z11 hb); replace HO109 := ZM (Kd.N_below Z32 hb); replace HB := ZM (zzT Z1 hb); (try clear hb); (try clear hb2); (try clear hk); (try clear hi)))
  go_ret2
  exact ⟨by first | rfl | (simp [errW_none, errW_some] <;> rfl) | (simp [*, errW_none, errW_some] <;> rfl), by repeat (first | (with_reducible first | exact HB.out | apply zzA | apply zzN | apply zzD) | exact HB.out)⟩
 rw [if_pos c5] at H
 have c5b0 : (t110 == 0) = true := beq_iff_eq.mpr c5
 have c5b1 : (t110 != 0) = false := bne_eq_false_iff_eq.mpr c5
 clear c5
 by_cases c6 : 0 ≤ (l1.length : Int)
 case neg =>
  rw [if_neg c6] at H
  exact absurd H (by simp)
 rw [if_pos c6] at H
 have c6b0 := eq_true c6
 have c6b1 : decide (0 ≤ (l1.length : Int)) = true := decide_eq_true c6
 clear c6
 by_cases c7 : (l1.length : Int) ≤ (l0.length : Int)
 case neg =>
  rw [if_neg c7] at H
  exact absurd H (by simp)
 rw [if_pos c7] at H
 have c7b0 := eq_true c7
 have c7b1 : decide ((l1.length : Int) ≤ (l0.length : Int)) = true := decide_eq_true c7
 clear c7
 replace H := Option.bind_eq_some_iff.mp H
 obtain ⟨⟨t112, t113⟩, A80, H⟩ := H
 replace H : (if t113 = 0 then (if (l1.length : Int) < (l0.length : Int) then ((fix_Add.f t112 (rd l0 (l1.length : Int))).bind fun bt115 => (some (bt115.1, bt115.2))) else (none)) else (some (0, t113))) = some (r1, r2) := H
 have A8 := ZM A80
 clear A80
 by_cases c9 : t113 = 0
 case neg =>
  rw [if_neg c9] at H
  have c9b0 : (t113 == 0) = false := beq_eq_false_iff_ne.mpr c9
  have c9b1 : (t113 != 0) = true := bne_iff_ne.mpr c9
  simp only [Option.some.injEq, Prod.mk.injEq] at H
  obtain ⟨rfl, rfl⟩ := H
  go_enter Try.func37, Try.ntmps37
  go_wp2_with (first | ((with_reducible refine gate_dst (N := 18) rfl ?_); refine Kd.N_lit k24 _ 24 ?hg (N' := 18) ?hd (xs := ([(⟨l1, 0⟩ : S24)] : List (S24))) (inner := [.slice A1 l1.length c1, .int .i64 0]) (ok := (fun k_ => (P1_ k_ ∨ w.heap.size ≤ k_))) (okp := (fun k_ => (P1_ k_ ∨ w.heap.size ≤ k_))) ?hr ?hp (fun _ hk => hk) ((show ∀ k_, w.heap.size ≤ k_ → (fun k_ => (P1_ k_ ∨ w.heap.size ≤ k_)) k_ from fun k_ hk => (.inr (Nat.le_trans (zzS Z1) hk))) _ (Nat.le_refl _)) (Below.refl _ _) (Nat.le_refl _) (by simp) ?_; (case hd => rfl); (case hg => rfl); (case hr => exact Z10); (case hp => exact (Reps.c2 (show Kd.FK k24 _ _ (⟨l1, 0⟩ : S24) [.slice A1 l1.length c1, .int .i64 0] from (k24_mkF _ _ (⟨l1, 0⟩ : S24) (Kd.V_reads' (Kd.V_mono (ok' := (fun k_ => (P1_ k_ ∨ w.heap.size ≤ k_))) (HO1.out) (fun k_ hk => hk))).2.1 (Kd.V_F (Kd.V_mono (ok' := (fun k_ => (P1_ k_ ∨ w.heap.size ≤ k_))) (HO1.out) (fun k_ hk => hk))))) (Reps.none _ _))); intro v108 w18 ho19 hb hg_ hnew_; clear hg_ hnew_; (first | rw [← Ny107.out] at ho19 | (simp only [Int.reduceToNat] at ho19; rw [← Ny107.out] at ho19)); replace HO1 := ZM (Kd.V_elder' Z11 (Kd.N_base ho19) hb); have HO109 := ZM (Kd.N_lower ho19 (zzS Z1)); replace HB := ZM (zzT Z1 hb); clear hb ho19; obtain ⟨Ao20, co20, eo20⟩ := Kd.N_slice HO109.out; subst eo20) | ((with_reducible refine gate_callee (f := 53) rfl ?_); refine goesL_ (some 19) rfl rfl Try.func53 (by kernel_rfl) rfl #[.int .i64 (l1.length : Int), .slice A0 l0.length c0, .slice Ao20 y107.length co20] rfl Z2 ?_; (with_reducible refine (linear_Check.calls (l1.length : Int) _ _ l0 _ _ y107 t110 _ ?side1 ?side2 ?side3 ?side4 A4.out).mono ?_); (case side1 => exact Z18); (case side2 => exact HC0.out); (case side3 => exact Z36); (case side4 => exact (Kd.N_reads' HO109.out).2.1); rintro e w21 ⟨rfl, hb⟩; refine ⟨_, rfl, ?_⟩; replace HO1 := ZM (Kd.V_below Z11 hb); replace HO109 := ZM (Kd.N_below Z32 hb); replace HB := ZM (zzT Z1 hb); (try clear hb); (try clear hb2); (try clear hk); (try clear hi); obtain ⟨i022, hi022, _, hsz22, _⟩ := info_parts info2; obtain ⟨hcut22, hA22, hC22⟩ := print_take_of (P := Try.prog) (Value.int .i64) 0 22 2 .i64 Try.underlying22 hi022 hsz22 A0 c0 l0 (l1.length : Int) (of_decide_eq_true Z3) (of_decide_eq_true Z3) HC0.out; have HR111 := ZM (Kd.C_of_reads (h1 := fun _ => rfl) (hA22 _ (Kd.reads_of_C HR0.out))); have HC111 := ZM hC22; clear hA22 hC22 hi022 hsz22) | ((with_reducible refine gate_callee (f := 54) rfl ?_); refine goesL_ (some 29) rfl rfl Try.func54 (by kernel_rfl) rfl #[.slice A0 (l0.take ((l1.length : Int) : Int).toNat).length c0, .slice A1 l1.length c1, .int .i64 a2] rfl Z13 ?_; (with_reducible refine (vec_Dot.calls _ _ (l0.take ((l1.length : Int) : Int).toNat) _ _ l1 a2 t112 t113 _ ?side1 ?side2 ?side3 ?side4 A8.out).mono ?_); (case side1 => exact Z46); (case side2 => exact HC111.out); (case side3 => exact Z31); (case side4 => exact (Kd.V_reads' HO1.out).2.1); rintro e w23 ⟨rfl, hb⟩; refine ⟨_, rfl, ?_⟩; replace HO1 := ZM (Kd.V_below Z11 hb); replace HO109 := ZM (Kd.N_below Z32 hb); replace HB := ZM (zzT Z1 hb); (try clear hb); (try clear hb2); (try clear hk); (try clear hi)))
  go_ret2
  exact ⟨by first | rfl | (simp [errW_none, errW_some] <;> rfl) | (simp [*, errW_none, errW_some] <;> rfl), by repeat (first | (with_reducible first | exact HB.out | apply zzA | apply zzN | apply zzD) | exact HB.out)⟩
 rw [if_pos c9] at H
 have c9b0 : (t113 == 0) = true := beq_iff_eq.mpr c9
 have c9b1 : (t113 != 0) = false := bne_eq_false_iff_eq.mpr c9
 clear c9
 by_cases c10 : (l1.length : Int) < (l0.length : Int)
 case neg =>
  rw [if_neg c10] at H
  exact absurd H (by simp)
 rw [if_pos c10] at H
 have c10b0 : decide ((l1.length : Int) < (l0.length : Int)) = true := decide_eq_true c10
 have c10b1 : decide (l1.length < l0.length) = true := decide_eq_true (Int.ofNat_lt.mp c10)
 clear c10
 replace H := Option.bind_eq_some_iff.mp H
 obtain ⟨⟨t115, t116⟩, A110, H⟩ := H
 replace H : (some (t115, t116)) = some (r1, r2) := H
 have A11 := ZM A110
 clear A110
 simp only [Option.some.injEq, Prod.mk.injEq] at H
 obtain ⟨rfl, rfl⟩ := H
 go_enter Try.func37, Try.ntmps37
 go_wp2_with (first | ((with_reducible refine gate_dst (N := 18) rfl ?_); refine Kd.N_lit k24 _ 24 ?hg (N' := 18) ?hd (xs := ([(⟨l1, 0⟩ : S24)] : List (S24))) (inner := [.slice A1 l1.length c1, .int .i64 0]) (ok := (fun k_ => (P1_ k_ ∨ w.heap.size ≤ k_))) (okp := (fun k_ => (P1_ k_ ∨ w.heap.size ≤ k_))) ?hr ?hp (fun _ hk => hk) ((show ∀ k_, w.heap.size ≤ k_ → (fun k_ => (P1_ k_ ∨ w.heap.size ≤ k_)) k_ from fun k_ hk => (.inr (Nat.le_trans (zzS Z1) hk))) _ (Nat.le_refl _)) (Below.refl _ _) (Nat.le_refl _) (by simp) ?_; (case hd => rfl); (case hg => rfl); (case hr => exact Z10); (case hp => exact (Reps.c2 (show Kd.FK k24 _ _ (⟨l1, 0⟩ : S24) [.slice A1 l1.length c1, .int .i64 0] from (k24_mkF _ _ (⟨l1, 0⟩ : S24) (Kd.V_reads' (Kd.V_mono (ok' := (fun k_ => (P1_ k_ ∨ w.heap.size ≤ k_))) (HO1.out) (fun k_ hk => hk))).2.1 (Kd.V_F (Kd.V_mono (ok' := (fun k_ => (P1_ k_ ∨ w.heap.size ≤ k_))) (HO1.out) (fun k_ hk => hk))))) (Reps.none _ _))); intro v108 w12 ho13 hb hg_ hnew_; clear hg_ hnew_; (first | rw [← Ny107.out] at ho13 | (simp only [Int.reduceToNat] at ho13; rw [← Ny107.out] at ho13)); replace HO1 := ZM (Kd.V_elder' Z11 (Kd.N_base ho13) hb); have HO109 := ZM (Kd.N_lower ho13 (zzS Z1)); replace HB := ZM (zzT Z1 hb); clear hb ho13; obtain ⟨Ao14, co14, eo14⟩ := Kd.N_slice HO109.out; subst eo14) | ((with_reducible refine gate_callee (f := 53) rfl ?_); refine goesL_ (some 19) rfl rfl Try.func53 (by kernel_rfl) rfl #[.int .i64 (l1.length : Int), .slice A0 l0.length c0, .slice Ao14 y107.length co14] rfl Z2 ?_; (with_reducible refine (linear_Check.calls (l1.length : Int) _ _ l0 _ _ y107 t110 _ ?side1 ?side2 ?side3 ?side4 A4.out).mono ?_); (case side1 => exact Z18); (case side2 => exact HC0.out); (case side3 => exact Z36); (case side4 => exact (Kd.N_reads' HO109.out).2.1); rintro e w15 ⟨rfl, hb⟩; refine ⟨_, rfl, ?_⟩; replace HO1 := ZM (Kd.V_below Z11 hb); replace HO109 := ZM (Kd.N_below Z32 hb); replace HB := ZM (zzT Z1 hb); (try clear hb); (try clear hb2); (try clear hk); (try clear hi); obtain ⟨i016, hi016, _, hsz16, _⟩ := info_parts info2; obtain ⟨hcut16, hA16, hC16⟩ := print_take_of (P := Try.prog) (Value.int .i64) 0 22 2 .i64 Try.underlying22 hi016 hsz16 A0 c0 l0 (l1.length : Int) (of_decide_eq_true Z3) (of_decide_eq_true Z3) HC0.out; have HR111 := ZM (Kd.C_of_reads (h1 := fun _ => rfl) (hA16 _ (Kd.reads_of_C HR0.out))); have HC111 := ZM hC16; clear hA16 hC16 hi016 hsz16) | ((with_reducible refine gate_callee (f := 54) rfl ?_); refine goesL_ (some 29) rfl rfl Try.func54 (by kernel_rfl) rfl #[.slice A0 (l0.take ((l1.length : Int) : Int).toNat).length c0, .slice A1 l1.length c1, .int .i64 a2] rfl Z13 ?_; (with_reducible refine (vec_Dot.calls _ _ (l0.take ((l1.length : Int) : Int).toNat) _ _ l1 a2 t112 t113 _ ?side1 ?side2 ?side3 ?side4 A8.out).mono ?_); (case side1 => exact Z46); (case side2 => exact HC111.out); (case side3 => exact Z31); (case side4 => exact (Kd.V_reads' HO1.out).2.1); rintro e w17 ⟨rfl, hb⟩; refine ⟨_, rfl, ?_⟩; replace HO1 := ZM (Kd.V_below Z11 hb); replace HO109 := ZM (Kd.N_below Z32 hb); replace HB := ZM (zzT Z1 hb); (try clear hb); (try clear hb2); (try clear hk); (try clear hi); have p114 : 0 ≤ ((l1.length : Int) : Int) := of_decide_eq_true Z3; have q114 : (l1.length : Int) < (l0.length : Int) := of_decide_eq_true Z3; obtain ⟨ad114, e114, hx114_0⟩ := Kd.at_int HR0.out (l1.length : Int) p114 q114; cases e114; replace hx114_0 := (HB.out.cell (World.block_lt_of_cell? w _ hx114_0)).trans hx114_0; (try simp only [Go.IntWalk.toNatUp] at hx114_0); replace p114 := eq_true p114; replace q114 := eq_true q114) | ((with_reducible refine gate_callee (f := 55) rfl ?_); refine goesL_ (some 40) rfl rfl Try.func55 (by kernel_rfl) rfl #[.int .i64 t112, .int .i64 (rd l0 (l1.length : Int))] rfl Z2 ?_; (with_reducible refine (fix_Add.calls t112 (rd l0 (l1.length : Int)) t115 t116 _ A11.out).mono ?_); rintro e w' ⟨rfl, ⟨nd, rfl⟩⟩; refine ⟨_, rfl, ?_⟩))
 go_ret2
 exact ⟨by first | rfl | (simp [errW_none, errW_some] <;> rfl) | (simp [*, errW_none, errW_some] <;> rfl), by repeat (first | (with_reducible first | exact HB.out | apply zzA | apply zzN | apply zzD) | exact HB.out)⟩
def linear_Tell.f (l0 l1 : List Int) (a2 : Int) : Option (Int × Int) := if V64 l0 ∧ V64 l1 then some (tellL l0 l1 a2) else none
theorem linear_Tell.of (l0 l1 : List Int) (a2 : Int)  (h_ : V64 l0 ∧ V64 l1) : linear_Tell.f l0 l1 a2 = some (tellL l0 l1 a2) := if_pos h_
theorem linear_TellP.is (l0 l1 : List Int) (a2 : Int) (h0 : V64 l0) (h1 : V64 l1) : linear_TellP.f l0 l1 a2 = some (tellL l0 l1 a2) := by
  unfold linear_TellP.f tellL linear_Check.f
  simp only [Option.bind_some, List.map_cons, List.map_nil, sm]
  by_cases c : checkL l1.length l0 [(l1, 0)] = 0
  · rw [if_pos c, if_pos c]
    obtain ⟨c1, c2, c3, -, -, -⟩ := checkL_len c
    rw [if_pos (by omega), if_pos (by omega), Int.toNat_natCast, vec_Dot.of _ _ _ ⟨fun x hx => h0 x (List.mem_of_mem_take hx), h1⟩]
    simp only [Option.bind_some]
    by_cases d : (dotV (l0.take l1.length) l1 a2).2 = 0
    · rw [if_pos d, if_pos d, if_pos (by omega), fix_Add.of _ _ ⟨dotV_i64 _ _ _, h0.rd _⟩]; rfl
    · rw [if_neg d, if_neg d]
  · rw [if_neg c, if_neg c]
theorem linear_Tell.calls (A0 : Option Addr) (c0 : Nat) (l0 : List Int) (P1_ : Nat → Prop) (A1 : Option Addr) (c1 : Nat) (l1 : List Int) (a2 : Int) (r1 : Int) (r2 : Int) (w : World) (hr0 : Kd.C (Kd.int .i64) w A0 l0.length l0) (hc0 : l0.length ≤ c0) (hs1 : Kd.V (Kd.int .i64) 2 w w.heap.size (fun k_ => P1_ k_) (.slice A1 l1.length c1) l1) (h : linear_Tell.f l0 l1 a2 = some (r1, r2)) :
    Calls Try.prog 37 #[.slice A0 l0.length c0, .slice A1 l1.length c1, .int .i64 a2] w fun e w' => e = .returned (.tuple #[.int .i64 r1, .int .i64 r2]) ∧ Below w.heap.size w w' := by
  unfold linear_Tell.f at h
  split at h
  case isFalse => cases h
  rename_i hv
  exact linear_TellP.calls A0 c0 l0 P1_ A1 c1 l1 a2 r1 r2 w hr0 hc0 hs1 ((linear_TellP.is l0 l1 a2 hv.1 hv.2).trans h)


/-! ### soft_linesP: function 21 -/
def soft_linesP.l0 : Nat → List Int → Int → List Int → List (List Int) → Int → Int → Option (List Int × Int)
 | 0, _, _, _, _, _, _ => none
 | k + 1, x2, x3, x12, x43, x44, x45 => if x45 < x44 then (if 0 ≤ x45 then (if x45 < (x43.length : Int) then ((linear_Tell.f (rd_L1 x43 x45) x2 x3).bind fun bt126 => (if x45 < (x12.length : Int) then (if bt126.2 = 0 then (soft_linesP.l0 k x2 x3 (x12.set (x45 : Int).toNat bt126.1) x43 x44 (wrap64 (x45 + 1))) else (some (([] : List Int), bt126.2))) else (none))) else (none)) else (none)) else (some (x12, 0))
def soft_linesP.f (k : Nat) (a0 : Int) (l1 : List Int) (l2 : List Int) (a3 : Int) : Option (List Int × Int) := (soft_Rows.f a0 l1).bind fun bt117 => (if bt117.2 = 0 then (if 0 < (bt117.1.length : Int) then (if (wrap64 (((rd_L1 bt117.1 0).length : Int) - 1)) = (l2.length : Int) then (if a3 < 0 then (some (([] : List Int), 1)) else (if a3 > 30 then (some (([] : List Int), 1)) else (if 0 ≤ a0 then (if (a0 : Int).toNat ≤ 35184372088832 then (soft_linesP.l0 k l2 a3 (List.replicate (a0 : Int).toNat 0) bt117.1 (bt117.1.length : Int) 0) else (none)) else (none)))) else (some (([] : List Int), 4))) else (none)) else (some (([] : List Int), bt117.2)))
theorem soft_linesP.mono_l : ∀ k, (∀ y0 y1 y2 y3 y4 y5, LeO (soft_linesP.l0 k y0 y1 y2 y3 y4 y5) (soft_linesP.l0 (k + 1) y0 y1 y2 y3 y4 y5))
 | 0 => fun _ _ _ _ _ _ r h => by simp [soft_linesP.l0] at h
 | k + 1 => by
  have ih0 := soft_linesP.mono_l k
  ·
   intro y0 y1 y2 y3 y4 y5
   unfold soft_linesP.l0
   repeat' first
   | (with_reducible exact ih0 _ _ _ _ _ _)
   | (with_reducible exact LeO.refl _)
   | (with_reducible exact LeO.none _)
   | (with_reducible refine LeO.ite ?_ ?_)
   | (with_reducible refine LeO.bind ?_ (fun _ => ?_))
theorem soft_linesP.mono : ∀ a0 a1 a2 a3 k, LeO (soft_linesP.f k a0 a1 a2 a3) (soft_linesP.f (k + 1) a0 a1 a2 a3) := by
 intro a0 a1 a2 a3 k
 have ih0 := soft_linesP.mono_l k
 unfold soft_linesP.f
 repeat' first
   | (with_reducible exact ih0 _ _ _ _ _ _)
   | (with_reducible exact LeO.refl _)
   | (with_reducible exact LeO.none _)
   | (with_reducible refine LeO.ite ?_ ?_)
   | (with_reducible refine LeO.bind ?_ (fun _ => ?_))
set_option maxHeartbeats 8000000 in
set_option maxRecDepth 100000 in
theorem soft_linesP.calls (k : Nat) (a0 : Int) (A1 : Option Addr) (c1 : Nat) (l1 : List Int) (A2 : Option Addr) (c2 : Nat) (l2 : List Int) (a3 : Int) (r1 : List Int) (r2 : Int) (w : World) (hr1 : Kd.C (Kd.int .i64) w A1 l1.length l1) (hc1 : l1.length ≤ c1) (hr2 : Kd.C (Kd.int .i64) w A2 l2.length l2) (hc2 : l2.length ≤ c2) (h : soft_linesP.f k a0 l1 l2 a3 = some (r1, r2)) :
  Calls Try.prog 21 #[.int .i64 a0, .slice A1 l1.length c1, .slice A2 l2.length c2, .int .i64 a3] w fun e w' => ∃ v0_ : Value, e = .returned (.tuple #[v0_, .int .i64 r2]) ∧ Kd.R (Kd.int .i64) 2 w' w.heap.size (fun _ => True) v0_ r1 ∧ Below w.heap.size w w' := by
 have HR1 := ZM hr1
 have HC1 := ZM hc1
 clear hr1 hc1
 have HR2 := ZM hr2
 have HC2 := ZM hc2
 clear hr2 hc2
 have HB := ZM (Below.refl w.heap.size w)
 have H : ((soft_Rows.f a0 l1).bind fun bt117 => (if bt117.2 = 0 then (if 0 < (bt117.1.length : Int) then (if (wrap64 (((rd_L1 bt117.1 0).length : Int) - 1)) = (l2.length : Int) then (if a3 < 0 then (some (([] : List Int), 1)) else (if a3 > 30 then (some (([] : List Int), 1)) else (if 0 ≤ a0 then (if (a0 : Int).toNat ≤ 35184372088832 then (soft_linesP.l0 k l2 a3 (List.replicate (a0 : Int).toNat 0) bt117.1 (bt117.1.length : Int) 0) else (none)) else (none)))) else (some (([] : List Int), 4))) else (none)) else (some (([] : List Int), bt117.2)))) = some (r1, r2) := h
 clear h
 replace H := Option.bind_eq_some_iff.mp H
 obtain ⟨⟨t117, t118⟩, A50, H⟩ := H
 replace H : (if t118 = 0 then (if 0 < (t117.length : Int) then (if (wrap64 (((rd_L1 t117 0).length : Int) - 1)) = (l2.length : Int) then (if a3 < 0 then (some (([] : List Int), 1)) else (if a3 > 30 then (some (([] : List Int), 1)) else (if 0 ≤ a0 then (if (a0 : Int).toNat ≤ 35184372088832 then (soft_linesP.l0 k l2 a3 (List.replicate (a0 : Int).toNat 0) t117 (t117.length : Int) 0) else (none)) else (none)))) else (some (([] : List Int), 4))) else (none)) else (some (([] : List Int), t118))) = some (r1, r2) := H
 have A5 := ZM A50
 clear A50
 by_cases c6 : t118 = 0
 case neg =>
  rw [if_neg c6] at H
  have c6b0 : (t118 == 0) = false := beq_eq_false_iff_ne.mpr c6
  have c6b1 : (t118 != 0) = true := bne_iff_ne.mpr c6
  simp only [Option.some.injEq, Prod.mk.injEq] at H
  obtain ⟨rfl, rfl⟩ := H
  go_enter Try.func21, Try.ntmps21
  go_wp2_with (first | ((with_reducible refine gate_callee (f := 12) rfl ?_); refine goesL_ (some 18) rfl rfl Try.func12 (by kernel_rfl) rfl #[.int .i64 a0, .slice A1 l1.length c1] rfl Z2 ?_; (with_reducible refine (soft_Rows.calls a0 _ _ l1 t117 t118 _ ?side1 ?side2 A5.out).mono ?_); (case side1 => exact Z6); (case side2 => exact HC1.out); rintro e w36 ⟨v119, rfl, ho0, hb⟩; refine ⟨_, rfl, ?_⟩; have HO120 := ZM (Kd.S_lower ho0 (zzS Z1)); replace HB := ZM (zzT Z1 hb); (try clear hb); (try clear hb2); (try clear hk); (try clear hi); (try clear ho0)))
  go_ret2
  exact ⟨_, by first | rfl | (simp [errW_none, errW_some] <;> rfl) | (simp [*, errW_none, errW_some] <;> rfl), by first | exact Kd.R_nil _ _ _ _ _ | exact Kd.N_nil _ _ _ _ _ | exact Kd.V_nil _ _ _ _ _ | exact Kd.Q_nil _ _ _ _ _ | exact Kd.S_nil _ _ _ _ _, by repeat (first | (with_reducible first | exact HB.out | apply zzA | apply zzN | apply zzD) | exact HB.out)⟩
 rw [if_pos c6] at H
 have c6b0 : (t118 == 0) = true := beq_iff_eq.mpr c6
 have c6b1 : (t118 != 0) = false := bne_eq_false_iff_eq.mpr c6
 clear c6
 by_cases c7 : 0 < (t117.length : Int)
 case neg =>
  rw [if_neg c7] at H
  exact absurd H (by simp)
 rw [if_pos c7] at H
 have c7b0 : decide (0 < (t117.length : Int)) = true := decide_eq_true c7
 have c7b1 : decide (0 < t117.length) = true := decide_eq_true (by omega)
 clear c7
 by_cases c8 : (wrap64 (((rd_L1 t117 0).length : Int) - 1)) = (l2.length : Int)
 case neg =>
  rw [if_neg c8] at H
  have c8b0 : ((wrap64 (((rd_L1 t117 0).length : Int) - 1)) == (l2.length : Int)) = false := beq_eq_false_iff_ne.mpr c8
  have c8b1 : ((wrap64 (((rd_L1 t117 0).length : Int) - 1)) != (l2.length : Int)) = true := bne_iff_ne.mpr c8
  simp only [Option.some.injEq, Prod.mk.injEq] at H
  obtain ⟨rfl, rfl⟩ := H
  go_enter Try.func21, Try.ntmps21
  go_wp2_with (first | ((with_reducible refine gate_callee (f := 12) rfl ?_); refine goesL_ (some 18) rfl rfl Try.func12 (by kernel_rfl) rfl #[.int .i64 a0, .slice A1 l1.length c1] rfl Z2 ?_; (with_reducible refine (soft_Rows.calls a0 _ _ l1 t117 t118 _ ?side1 ?side2 A5.out).mono ?_); (case side1 => exact Z6); (case side2 => exact HC1.out); rintro e w34 ⟨v119, rfl, ho0, hb⟩; refine ⟨_, rfl, ?_⟩; have HO120 := ZM (Kd.S_lower ho0 (zzS Z1)); replace HB := ZM (zzT Z1 hb); (try clear hb); (try clear hb2); (try clear hk); (try clear hi); (try clear ho0); obtain ⟨Ao35, co35, eo35⟩ := Kd.S_slice HO120.out; subst eo35; have p121 : 0 ≤ (0 : Int) := (by omega); have q121 : 0 < (t117.length : Int) := of_decide_eq_true Z3; obtain ⟨ad121, A121_0, c121_0, e121, hx121_0, hl121_0, hi121_0⟩ := at_L1 (Kd.S_reads' HO120.out).2.2 0 p121 q121; cases e121; obtain ⟨ce121, hce121, hMe121, hcc121⟩ := Kd.S_get HO120.out [] 0 p121 Z37; obtain ⟨ve121_0, rfl, ge121_0⟩ := hMe121; have hv121_0 := hcc121 0 _ rfl; rw [Nat.add_zero, show ((Kd.slice 2 (Kd.int .i64))).sz = 1 from rfl, Nat.mul_one] at hv121_0; replace hv121_0 := Option.some.inj (hv121_0.symm.trans hx121_0); rw [hv121_0] at ge121_0; have HL121_0 := ZM (show Kd.R (Kd.int .i64) 2 _ _ _ _ (rd_L1 t117 0) from ge121_0); clear hv121_0 ge121_0; clear hcc121 hce121; have qi121 : (0 < t117.length) = True := eq_true (by omega); (try rw [show ((0 : Int)).toNat = 0 from rfl] at hx121_0); (try rw [Addr.add_zero'] at hx121_0); have HR121_0 := ZM hi121_0; have HC121_0 := ZM hl121_0; clear hi121_0 hl121_0; replace p121 := eq_true p121; replace q121 := eq_true q121))
  go_ret2
  exact ⟨_, by first | rfl | (simp [errW_none, errW_some] <;> rfl) | (simp [*, errW_none, errW_some] <;> rfl), by first | exact Kd.R_nil _ _ _ _ _ | exact Kd.N_nil _ _ _ _ _ | exact Kd.V_nil _ _ _ _ _ | exact Kd.Q_nil _ _ _ _ _ | exact Kd.S_nil _ _ _ _ _, by repeat (first | (with_reducible first | exact HB.out | apply zzA | apply zzN | apply zzD) | exact HB.out)⟩
 rw [if_pos c8] at H
 have c8b0 : ((wrap64 (((rd_L1 t117 0).length : Int) - 1)) == (l2.length : Int)) = true := beq_iff_eq.mpr c8
 have c8b1 : ((wrap64 (((rd_L1 t117 0).length : Int) - 1)) != (l2.length : Int)) = false := bne_eq_false_iff_eq.mpr c8
 clear c8
 by_cases c9 : a3 < 0
 ·
  rw [if_pos c9] at H
  have c9b0 : decide (a3 < 0) = true := decide_eq_true c9
  clear c9
  simp only [Option.some.injEq, Prod.mk.injEq] at H
  obtain ⟨rfl, rfl⟩ := H
  go_enter Try.func21, Try.ntmps21
  go_wp2_with (first | ((with_reducible refine gate_callee (f := 12) rfl ?_); refine goesL_ (some 18) rfl rfl Try.func12 (by kernel_rfl) rfl #[.int .i64 a0, .slice A1 l1.length c1] rfl Z2 ?_; (with_reducible refine (soft_Rows.calls a0 _ _ l1 t117 t118 _ ?side1 ?side2 A5.out).mono ?_); (case side1 => exact Z6); (case side2 => exact HC1.out); rintro e w10 ⟨v119, rfl, ho0, hb⟩; refine ⟨_, rfl, ?_⟩; have HO120 := ZM (Kd.S_lower ho0 (zzS Z1)); replace HB := ZM (zzT Z1 hb); (try clear hb); (try clear hb2); (try clear hk); (try clear hi); (try clear ho0); obtain ⟨Ao11, co11, eo11⟩ := Kd.S_slice HO120.out; subst eo11; have p121 : 0 ≤ (0 : Int) := (by omega); have q121 : 0 < (t117.length : Int) := of_decide_eq_true Z3; obtain ⟨ad121, A121_0, c121_0, e121, hx121_0, hl121_0, hi121_0⟩ := at_L1 (Kd.S_reads' HO120.out).2.2 0 p121 q121; cases e121; obtain ⟨ce121, hce121, hMe121, hcc121⟩ := Kd.S_get HO120.out [] 0 p121 Z37; obtain ⟨ve121_0, rfl, ge121_0⟩ := hMe121; have hv121_0 := hcc121 0 _ rfl; rw [Nat.add_zero, show ((Kd.slice 2 (Kd.int .i64))).sz = 1 from rfl, Nat.mul_one] at hv121_0; replace hv121_0 := Option.some.inj (hv121_0.symm.trans hx121_0); rw [hv121_0] at ge121_0; have HL121_0 := ZM (show Kd.R (Kd.int .i64) 2 _ _ _ _ (rd_L1 t117 0) from ge121_0); clear hv121_0 ge121_0; clear hcc121 hce121; have qi121 : (0 < t117.length) = True := eq_true (by omega); (try rw [show ((0 : Int)).toNat = 0 from rfl] at hx121_0); (try rw [Addr.add_zero'] at hx121_0); have HR121_0 := ZM hi121_0; have HC121_0 := ZM hl121_0; clear hi121_0 hl121_0; replace p121 := eq_true p121; replace q121 := eq_true q121))
  go_ret2
  exact ⟨_, by first | rfl | (simp [errW_none, errW_some] <;> rfl) | (simp [*, errW_none, errW_some] <;> rfl), by first | exact Kd.R_nil _ _ _ _ _ | exact Kd.N_nil _ _ _ _ _ | exact Kd.V_nil _ _ _ _ _ | exact Kd.Q_nil _ _ _ _ _ | exact Kd.S_nil _ _ _ _ _, by repeat (first | (with_reducible first | exact HB.out | apply zzA | apply zzN | apply zzD) | exact HB.out)⟩
 rw [if_neg c9] at H
 have c9b0 : decide (a3 < 0) = false := decide_eq_false c9
 clear c9
 by_cases c12 : a3 > 30
 ·
  rw [if_pos c12] at H
  have c12b0 : decide (30 < a3) = true := decide_eq_true c12
  clear c12
  simp only [Option.some.injEq, Prod.mk.injEq] at H
  obtain ⟨rfl, rfl⟩ := H
  go_enter Try.func21, Try.ntmps21
  go_wp2_with (first | ((with_reducible refine gate_callee (f := 12) rfl ?_); refine goesL_ (some 18) rfl rfl Try.func12 (by kernel_rfl) rfl #[.int .i64 a0, .slice A1 l1.length c1] rfl Z2 ?_; (with_reducible refine (soft_Rows.calls a0 _ _ l1 t117 t118 _ ?side1 ?side2 A5.out).mono ?_); (case side1 => exact Z6); (case side2 => exact HC1.out); rintro e w13 ⟨v119, rfl, ho0, hb⟩; refine ⟨_, rfl, ?_⟩; have HO120 := ZM (Kd.S_lower ho0 (zzS Z1)); replace HB := ZM (zzT Z1 hb); (try clear hb); (try clear hb2); (try clear hk); (try clear hi); (try clear ho0); obtain ⟨Ao14, co14, eo14⟩ := Kd.S_slice HO120.out; subst eo14; have p121 : 0 ≤ (0 : Int) := (by omega); have q121 : 0 < (t117.length : Int) := of_decide_eq_true Z3; obtain ⟨ad121, A121_0, c121_0, e121, hx121_0, hl121_0, hi121_0⟩ := at_L1 (Kd.S_reads' HO120.out).2.2 0 p121 q121; cases e121; obtain ⟨ce121, hce121, hMe121, hcc121⟩ := Kd.S_get HO120.out [] 0 p121 Z37; obtain ⟨ve121_0, rfl, ge121_0⟩ := hMe121; have hv121_0 := hcc121 0 _ rfl; rw [Nat.add_zero, show ((Kd.slice 2 (Kd.int .i64))).sz = 1 from rfl, Nat.mul_one] at hv121_0; replace hv121_0 := Option.some.inj (hv121_0.symm.trans hx121_0); rw [hv121_0] at ge121_0; have HL121_0 := ZM (show Kd.R (Kd.int .i64) 2 _ _ _ _ (rd_L1 t117 0) from ge121_0); clear hv121_0 ge121_0; clear hcc121 hce121; have qi121 : (0 < t117.length) = True := eq_true (by omega); (try rw [show ((0 : Int)).toNat = 0 from rfl] at hx121_0); (try rw [Addr.add_zero'] at hx121_0); have HR121_0 := ZM hi121_0; have HC121_0 := ZM hl121_0; clear hi121_0 hl121_0; replace p121 := eq_true p121; replace q121 := eq_true q121))
  go_ret2
  exact ⟨_, by first | rfl | (simp [errW_none, errW_some] <;> rfl) | (simp [*, errW_none, errW_some] <;> rfl), by first | exact Kd.R_nil _ _ _ _ _ | exact Kd.N_nil _ _ _ _ _ | exact Kd.V_nil _ _ _ _ _ | exact Kd.Q_nil _ _ _ _ _ | exact Kd.S_nil _ _ _ _ _, by repeat (first | (with_reducible first | exact HB.out | apply zzA | apply zzN | apply zzD) | exact HB.out)⟩
 rw [if_neg c12] at H
 have c12b0 : decide (30 < a3) = false := decide_eq_false c12
 clear c12
 by_cases c15 : 0 ≤ a0
 case neg =>
  rw [if_neg c15] at H
  exact absurd H (by simp)
 rw [if_pos c15] at H
 have c15b0 := eq_true c15
 have c15b1 : decide (0 ≤ a0) = true := decide_eq_true c15
 clear c15
 by_cases c16 : (a0 : Int).toNat ≤ 35184372088832
 case neg =>
  rw [if_neg c16] at H
  exact absurd H (by simp)
 rw [if_pos c16] at H
 have c16b0 := eq_true c16
 have c16b1 : decide ((a0 : Int).toNat ≤ 35184372088832) = true := decide_eq_true c16
 clear c16
 obtain ⟨y122, hy122⟩ : ∃ y_ : List Int, y_ = (List.replicate (a0 : Int).toNat 0) := ⟨_, rfl⟩
 replace H : (soft_linesP.l0 k l2 a3 y122 t117 (t117.length : Int) 0) = some (r1, r2) := by first | (rw [hy122]; with_reducible exact H) | (have H2_ := (Option.bind_some _ _).symm.trans H; rw [hy122]; with_reducible exact H2_) | (have H2_ := (Option.bind_some _ _).symm.trans H; with_reducible exact H2_) | with_reducible exact H | (rw [hy122]; exact H) | exact H
 have Ny122 := ZM hy122
 clear hy122
 have H' := ZM H
 clear H
 go_enter Try.func21, Try.ntmps21
 go_wp2_with (first | ((with_reducible refine gate_callee (f := 12) rfl ?_); refine goesL_ (some 18) rfl rfl Try.func12 (by kernel_rfl) rfl #[.int .i64 a0, .slice A1 l1.length c1] rfl Z2 ?_; (with_reducible refine (soft_Rows.calls a0 _ _ l1 t117 t118 _ ?side1 ?side2 A5.out).mono ?_); (case side1 => exact Z6); (case side2 => exact HC1.out); rintro e w17 ⟨v119, rfl, ho0, hb⟩; refine ⟨_, rfl, ?_⟩; have HO120 := ZM (Kd.S_lower ho0 (zzS Z1)); replace HB := ZM (zzT Z1 hb); (try clear hb); (try clear hb2); (try clear hk); (try clear hi); (try clear ho0); obtain ⟨Ao18, co18, eo18⟩ := Kd.S_slice HO120.out; subst eo18; have p121 : 0 ≤ (0 : Int) := (by omega); have q121 : 0 < (t117.length : Int) := of_decide_eq_true Z3; obtain ⟨ad121, A121_0, c121_0, e121, hx121_0, hl121_0, hi121_0⟩ := at_L1 (Kd.S_reads' HO120.out).2.2 0 p121 q121; cases e121; obtain ⟨ce121, hce121, hMe121, hcc121⟩ := Kd.S_get HO120.out [] 0 p121 Z37; obtain ⟨ve121_0, rfl, ge121_0⟩ := hMe121; have hv121_0 := hcc121 0 _ rfl; rw [Nat.add_zero, show ((Kd.slice 2 (Kd.int .i64))).sz = 1 from rfl, Nat.mul_one] at hv121_0; replace hv121_0 := Option.some.inj (hv121_0.symm.trans hx121_0); rw [hv121_0] at ge121_0; have HL121_0 := ZM (show Kd.R (Kd.int .i64) 2 _ _ _ _ (rd_L1 t117 0) from ge121_0); clear hv121_0 ge121_0; clear hcc121 hce121; have qi121 : (0 < t117.length) = True := eq_true (by omega); (try rw [show ((0 : Int)).toNat = 0 from rfl] at hx121_0); (try rw [Addr.add_zero'] at hx121_0); have HR121_0 := ZM hi121_0; have HC121_0 := ZM hl121_0; clear hi121_0 hl121_0; replace p121 := eq_true p121; replace q121 := eq_true q121) | ((with_reducible refine gate_dst (N := 42) rfl ?_); refine Kd.R_make (Kd.int .i64) _ 2 rfl (N := 42) rfl 22 _ _ rfl a0 rfl rfl Try.underlying22 (.int .i64 0) 8 info2 rfl (by decide) (by omega) 0 (ok := fun _ => True) (okp := fun _ => True) rfl (fun _ hk => hk) trivial (of_decide_eq_true Z3) (Nat.le_trans (Nat.mul_le_mul_right _ (of_decide_eq_true Z3 : a0.toNat ≤ 35184372088832)) (by omega)) (Below.refl _ _) (Nat.le_refl _) ?_; intro v123 w19 ho20 hb hg_ hnew_; clear hg_ hnew_; (first | rw [← Ny122.out] at ho20 | (simp only [Int.reduceToNat] at ho20; rw [← Ny122.out] at ho20)); have n0_ := ZM (Kd.S_elder' (by (with_reducible repeat (first | apply Kd.S_alloc | apply Kd.S_drewN | apply Kd.S_drew)); exact HO120.out) (Kd.R_base ho20) hb); have n1_ := ZM (Kd.R_elder' (Zr HL121_0) (Kd.R_base ho20) hb); have n2_ := ZM (Kd.R_lower (Kd.R_new' ho20 (Kd.R_lt (Zr HL121_0))) (zzS Z1)); have n3_ := ZM (Kd.C_below (by repeat (first | (with_reducible exact HR121_0.out) | (with_reducible refine ccA ?_ _) | (with_reducible refine ccN ?_ _) | (with_reducible refine ccD ?_) | exact HR121_0.out)) hb); have n4_ := ZM (zzT Z1 hb); clear HO120; clear HL121_0; clear HR121_0; clear HB; have HO120 := n0_; have HL121_0 := n1_; have HO124 := n2_; have HR121_0 := n3_; have HB := n4_; clear n0_ n1_ n2_ n3_ n4_; clear hb ho20))
 go_loopg [45] k (fun kq v45 w' => ∃ (x12_1 : List Int) (x45_1 : Int), v45 = .int .i64 x45_1 ∧ Aside0 (soft_linesP.l0 kq l2 a3 x12_1 t117 (t117.length : Int) x45_1 = some (r1, r2)) ∧ Aside0 (kq ≤ k) ∧ Aside0 (Kd.R (Kd.int .i64) 2 w' w.heap.size (fun _ => True) v123 x12_1) ∧ Aside0 (Kd.S (Kd.slice 2 (Kd.int .i64)) 22 w' w.heap.size (fun k_ => some k_ ≠ (v123 : Value).ownBlock) (.slice (some ad121) t117.length co18) t117) ∧ Aside0 (Below w.heap.size w w'))
 case atStart => exact ⟨(y122), (0), Z5, H', ⟨Nat.le_refl _⟩, ⟨by (with_reducible repeat (first | apply rrA | apply rrN | apply rrD)); exact Kd.R_mono HO124.out (fun _ hk => trivial)⟩, ⟨by (with_reducible repeat (first | apply Kd.S_alloc | apply Kd.S_drewN | apply Kd.S_drew)); exact Kd.S_mono HO120.out (fun _ hk => hk.2)⟩, ⟨by repeat (first | (with_reducible first | exact HB.out | apply zzA | apply zzN | apply zzD) | exact HB.out)⟩⟩
 case round =>
  clear H'
  try clear c1
  try clear c2
  try clear c6
  try clear c6b0
  try clear c6b1
  try clear c7
  try clear c7b0
  try clear c7b1
  try clear c8
  try clear c8b0
  try clear c8b1
  try clear c9
  try clear c9b0
  try clear c12
  try clear c12b0
  try clear c15
  try clear c15b0
  try clear c15b1
  try clear c16
  try clear c16b0
  try clear c16b1
  try clear hx121_0
  try clear p121
  try clear q121
  obtain ⟨x12_1, x45_1, rfl, HA, HK1, HO_12, HO_43, HB⟩ := hrel
  cases gk with
  | zero => exact absurd HA.out (by simp [soft_linesP.l0])
  | succ k1 =>
   have H := HA.out
   clear HA
   simp only [soft_linesP.l0] at H
   by_cases c21 : x45_1 < (t117.length : Int)
   case neg =>
    rw [if_neg c21] at H
    have c21b0 : decide (x45_1 < (t117.length : Int)) = false := decide_eq_false c21
    clear c21
    simp only [Option.some.injEq, Prod.mk.injEq] at H
    obtain ⟨rfl, rfl⟩ := H
    go_wp2
    go_ret2
    exact ⟨_, by first | rfl | (simp [errW_none, errW_some] <;> rfl) | (simp [*, errW_none, errW_some] <;> rfl), by (with_reducible repeat (first | apply rrA | apply rrN | apply rrD)); exact HO_12.out, by repeat (first | (with_reducible first | exact HB.out | apply zzA | apply zzN | apply zzD) | exact HB.out)⟩
   rw [if_pos c21] at H
   have c21b0 : decide (x45_1 < (t117.length : Int)) = true := decide_eq_true c21
   clear c21
   by_cases c22 : 0 ≤ x45_1
   case neg =>
    rw [if_neg c22] at H
    exact absurd H (by simp)
   rw [if_pos c22] at H
   have c22b0 : decide (0 ≤ x45_1) = true := decide_eq_true c22
   clear c22
   by_cases c23 : x45_1 < (t117.length : Int)
   case neg =>
    rw [if_neg c23] at H
    exact absurd H (by simp)
   rw [if_pos c23] at H
   have c23b0 : decide (x45_1 < (t117.length : Int)) = true := decide_eq_true c23
   clear c23
   replace H := Option.bind_eq_some_iff.mp H
   obtain ⟨⟨t126, t127⟩, A240, H⟩ := H
   replace H : (if x45_1 < (x12_1.length : Int) then (if t127 = 0 then (soft_linesP.l0 k1 l2 a3 (x12_1.set (x45_1 : Int).toNat t126) t117 (t117.length : Int) (wrap64 (x45_1 + 1))) else (some (([] : List Int), t127))) else (none)) = some (r1, r2) := H
   have A24 := ZM A240
   clear A240
   by_cases c25 : x45_1 < (x12_1.length : Int)
   case neg =>
    rw [if_neg c25] at H
    exact absurd H (by simp)
   rw [if_pos c25] at H
   have c25b0 : decide (x45_1 < (x12_1.length : Int)) = true := decide_eq_true c25
   clear c25
   obtain ⟨y128, hy128⟩ : ∃ y_ : List Int, y_ = (x12_1.set (x45_1 : Int).toNat t126) := ⟨_, rfl⟩
   replace H : (if t127 = 0 then (soft_linesP.l0 k1 l2 a3 y128 t117 (t117.length : Int) (wrap64 (x45_1 + 1))) else (some (([] : List Int), t127))) = some (r1, r2) := by first | (rw [hy128]; with_reducible exact H) | (have H2_ := (Option.bind_some _ _).symm.trans H; rw [hy128]; with_reducible exact H2_) | (have H2_ := (Option.bind_some _ _).symm.trans H; with_reducible exact H2_) | with_reducible exact H | (rw [hy128]; exact H) | exact H
   have Ny128 := ZM hy128
   clear hy128
   by_cases c27 : t127 = 0
   case neg =>
    rw [if_neg c27] at H
    have c27b0 : (t127 == 0) = false := beq_eq_false_iff_ne.mpr c27
    have c27b1 : (t127 != 0) = true := bne_iff_ne.mpr c27
    simp only [Option.some.injEq, Prod.mk.injEq] at H
    obtain ⟨rfl, rfl⟩ := H
    have p125 : 0 ≤ (x45_1 : Int) := of_decide_eq_true Z3
    have q125 : x45_1 < (t117.length : Int) := of_decide_eq_true Z3
    obtain ⟨ad125, A125_0, c125_0, e125, hx125_0, hl125_0, hi125_0⟩ := at_L1 (Kd.S_reads' HO_43.out).2.2 x45_1 p125 q125
    obtain rfl : ad121 = ad125 := (by injection e125)
    obtain ⟨ce125, hce125, hMe125, hcc125⟩ := Kd.S_get HO_43.out [] x45_1 p125 (by first | exact q125 | exact of_decide_eq_true Z3 | (have e_ := (Kd.S_reads' HO_43.out).1; omega))
    obtain ⟨ve125_0, rfl, ge125_0⟩ := hMe125
    have hv125_0 := hcc125 0 _ rfl
    rw [Nat.add_zero, show ((Kd.slice 2 (Kd.int .i64))).sz = 1 from rfl, Nat.mul_one] at hv125_0
    replace hv125_0 := Option.some.inj (hv125_0.symm.trans hx125_0)
    rw [hv125_0] at ge125_0
    have HL125_0 := ZM (show Kd.R (Kd.int .i64) 2 _ _ _ _ (rd_L1 t117 x45_1) from ge125_0)
    clear hv125_0 ge125_0
    clear hcc125 hce125
    have HR125_0 := ZM hi125_0
    have HC125_0 := ZM hl125_0
    clear hi125_0 hl125_0
    replace p125 := eq_true p125
    replace q125 := eq_true q125
    go_wp2_with (first | ((with_reducible refine gate_callee (f := 37) rfl ?_); refine goesL_ (some 56) rfl rfl Try.func37 (by kernel_rfl) rfl #[.slice A125_0 (rd_L1 t117 x45_1).length c125_0, .slice A2 l2.length c2, .int .i64 a3] rfl Z2 ?_; (with_reducible refine (linear_Tell.calls _ _ (rd_L1 t117 x45_1) (fun k_ => k_ < w.heap.size) _ _ l2 a3 t126 t127 _ ?side1 ?side2 ?side3 A24.out).mono ?_); (case side1 => exact Z53); (case side2 => exact HC125_0.out); (case side3 => exact Kd.V_mk HC2.out (Kd.F_below (Kd.C_F (Kd.heap_int .i64) HR2.out) Z1)); rintro e w31 ⟨rfl, hb⟩; refine ⟨_, rfl, ?_⟩; replace HO_12 := ZM (Kd.R_below (Zr HO_12) hb); replace HO_43 := ZM (Kd.S_below (by (with_reducible repeat (first | apply Kd.S_alloc | apply Kd.S_drewN | apply Kd.S_drew)); exact HO_43.out) hb); replace HL125_0 := ZM (Kd.R_below (Zr HL125_0) hb); replace HR125_0 := ZM (Kd.C_below Z30 hb); replace HB := ZM (zzT Z1 hb); (try clear hb); (try clear hb2); (try clear hk); (try clear hi); have p26 : 0 ≤ (x45_1 : Int) := of_decide_eq_true Z3; have q26 : (x45_1 : Int) < ((x12_1.length : Int) : Int) := of_decide_eq_true Z3; obtain ⟨go26, co26, eo26, gb26, gl26, cl26, HG26⟩ := Kd.R_form HO_12.out (by omega); (first | cases eo26 | (injection eo26 with ea_ en_ ec_; (first | subst ea_ | (injection ea_ with ea_; subst ea_)); subst ec_; clear en_)); have GB26 := ZM gb26; have GG26 := ZM HG26; clear gb26 gl26 HG26; obtain ⟨hx26_0, hf26_0⟩ := Kd.R_celln 0 HO_12.out (x45_1 : Int) p26 q26; replace p26 := eq_true p26; replace q26 := eq_true q26; obtain ⟨hy32_, hz32_⟩ := Kd.R_celln 0 HO_12.out (x45_1 : Int) (of_decide_eq_true Z3) (of_decide_eq_true Z3); have HP32 := Kd.R_putg HO_12.out (x45_1 : Int) t126) | ((with_reducible refine gate_store (t := 2) (p := 59) rfl ?_); refine store_event (t := 2) (p := 59) (v := ?vo_w33) (w1 := (w31.setCell ⟨go26, (x45_1 : Int).toNat, none⟩ (.int .i64 t126))) ?hg ?ho ?hn ?hr ?_; (case ho => rfl); (case hg => rfl); (case hn => rfl); (case hr => exact Z10); intro w33 hw; have hg : w31.grownBy w33 (some go26) := (by rw [hw]; exact HP32.2); have hp_ : Kd.R (Kd.int .i64) 2 w33 w.heap.size (fun _ => True) (.slice (some ⟨go26, 0, none⟩) x12_1.length co26) y128 := (by rw [hw, Ny128.out]; exact HP32.1); clear HP32; replace HO_12 := ZM (hp_); replace HO_43 := ZM (Kd.S_after (v := (.slice (some ⟨go26, 0, none⟩) x12_1.length co26)) (v1 := (.slice (some ⟨go26, 0, none⟩) x12_1.length co26)) (ok := (fun _ => True)) Z50 hg (.inl rfl)); replace HL125_0 := ZM (Kd.R_after (v := (.slice (some ⟨go26, 0, none⟩) x12_1.length co26)) (v1 := (.slice (some ⟨go26, 0, none⟩) x12_1.length co26)) (ok := (fun k_ => some k_ ≠ (.slice (some ad121) t117.length co18 : Value).ownBlock)) Z55 hg (.inl rfl)); replace HB := ZM ((by rw [hw]; exact below_set (HB.out) GB26.out : Below w.heap.size w w33)); clear hg hw hp_))
    go_ret2
    exact ⟨_, by first | rfl | (simp [errW_none, errW_some] <;> rfl) | (simp [*, errW_none, errW_some] <;> rfl), by first | exact Kd.R_nil _ _ _ _ _ | exact Kd.N_nil _ _ _ _ _ | exact Kd.V_nil _ _ _ _ _ | exact Kd.Q_nil _ _ _ _ _ | exact Kd.S_nil _ _ _ _ _, by repeat (first | (with_reducible first | exact HB.out | apply zzA | apply zzN | apply zzD) | exact HB.out)⟩
   rw [if_pos c27] at H
   have c27b0 : (t127 == 0) = true := beq_iff_eq.mpr c27
   have c27b1 : (t127 != 0) = false := bne_eq_false_iff_eq.mpr c27
   clear c27
   have H' := ZM H
   clear H
   have p125 : 0 ≤ (x45_1 : Int) := of_decide_eq_true Z3
   have q125 : x45_1 < (t117.length : Int) := of_decide_eq_true Z3
   obtain ⟨ad125, A125_0, c125_0, e125, hx125_0, hl125_0, hi125_0⟩ := at_L1 (Kd.S_reads' HO_43.out).2.2 x45_1 p125 q125
   obtain rfl : ad121 = ad125 := (by injection e125)
   obtain ⟨ce125, hce125, hMe125, hcc125⟩ := Kd.S_get HO_43.out [] x45_1 p125 (by first | exact q125 | exact of_decide_eq_true Z3 | (have e_ := (Kd.S_reads' HO_43.out).1; omega))
   obtain ⟨ve125_0, rfl, ge125_0⟩ := hMe125
   have hv125_0 := hcc125 0 _ rfl
   rw [Nat.add_zero, show ((Kd.slice 2 (Kd.int .i64))).sz = 1 from rfl, Nat.mul_one] at hv125_0
   replace hv125_0 := Option.some.inj (hv125_0.symm.trans hx125_0)
   rw [hv125_0] at ge125_0
   have HL125_0 := ZM (show Kd.R (Kd.int .i64) 2 _ _ _ _ (rd_L1 t117 x45_1) from ge125_0)
   clear hv125_0 ge125_0
   clear hcc125 hce125
   have HR125_0 := ZM hi125_0
   have HC125_0 := ZM hl125_0
   clear hi125_0 hl125_0
   replace p125 := eq_true p125
   replace q125 := eq_true q125
   go_wp2_with (first | ((with_reducible refine gate_callee (f := 37) rfl ?_); refine goesL_ (some 56) rfl rfl Try.func37 (by kernel_rfl) rfl #[.slice A125_0 (rd_L1 t117 x45_1).length c125_0, .slice A2 l2.length c2, .int .i64 a3] rfl Z2 ?_; (with_reducible refine (linear_Tell.calls _ _ (rd_L1 t117 x45_1) (fun k_ => k_ < w.heap.size) _ _ l2 a3 t126 t127 _ ?side1 ?side2 ?side3 A24.out).mono ?_); (case side1 => exact Z53); (case side2 => exact HC125_0.out); (case side3 => exact Kd.V_mk HC2.out (Kd.F_below (Kd.C_F (Kd.heap_int .i64) HR2.out) Z1)); rintro e w28 ⟨rfl, hb⟩; refine ⟨_, rfl, ?_⟩; replace HO_12 := ZM (Kd.R_below (Zr HO_12) hb); replace HO_43 := ZM (Kd.S_below (by (with_reducible repeat (first | apply Kd.S_alloc | apply Kd.S_drewN | apply Kd.S_drew)); exact HO_43.out) hb); replace HL125_0 := ZM (Kd.R_below (Zr HL125_0) hb); replace HR125_0 := ZM (Kd.C_below Z30 hb); replace HB := ZM (zzT Z1 hb); (try clear hb); (try clear hb2); (try clear hk); (try clear hi); have p26 : 0 ≤ (x45_1 : Int) := of_decide_eq_true Z3; have q26 : (x45_1 : Int) < ((x12_1.length : Int) : Int) := of_decide_eq_true Z3; obtain ⟨go26, co26, eo26, gb26, gl26, cl26, HG26⟩ := Kd.R_form HO_12.out (by omega); (first | cases eo26 | (injection eo26 with ea_ en_ ec_; (first | subst ea_ | (injection ea_ with ea_; subst ea_)); subst ec_; clear en_)); have GB26 := ZM gb26; have GG26 := ZM HG26; clear gb26 gl26 HG26; obtain ⟨hx26_0, hf26_0⟩ := Kd.R_celln 0 HO_12.out (x45_1 : Int) p26 q26; replace p26 := eq_true p26; replace q26 := eq_true q26; obtain ⟨hy29_, hz29_⟩ := Kd.R_celln 0 HO_12.out (x45_1 : Int) (of_decide_eq_true Z3) (of_decide_eq_true Z3); have HP29 := Kd.R_putg HO_12.out (x45_1 : Int) t126) | ((with_reducible refine gate_store (t := 2) (p := 59) rfl ?_); refine store_event (t := 2) (p := 59) (v := ?vo_w30) (w1 := (w28.setCell ⟨go26, (x45_1 : Int).toNat, none⟩ (.int .i64 t126))) ?hg ?ho ?hn ?hr ?_; (case ho => rfl); (case hg => rfl); (case hn => rfl); (case hr => exact Z10); intro w30 hw; have hg : w28.grownBy w30 (some go26) := (by rw [hw]; exact HP29.2); have hp_ : Kd.R (Kd.int .i64) 2 w30 w.heap.size (fun _ => True) (.slice (some ⟨go26, 0, none⟩) x12_1.length co26) y128 := (by rw [hw, Ny128.out]; exact HP29.1); clear HP29; replace HO_12 := ZM (hp_); replace HO_43 := ZM (Kd.S_after (v := (.slice (some ⟨go26, 0, none⟩) x12_1.length co26)) (v1 := (.slice (some ⟨go26, 0, none⟩) x12_1.length co26)) (ok := (fun _ => True)) Z50 hg (.inl rfl)); replace HL125_0 := ZM (Kd.R_after (v := (.slice (some ⟨go26, 0, none⟩) x12_1.length co26)) (v1 := (.slice (some ⟨go26, 0, none⟩) x12_1.length co26)) (ok := (fun k_ => some k_ ≠ (.slice (some ad121) t117.length co18 : Value).ownBlock)) Z55 hg (.inl rfl)); replace HB := ZM ((by rw [hw]; exact below_set (HB.out) GB26.out : Below w.heap.size w w30)); clear hg hw hp_))
   go_roundg k1
   case measure => have := HK1.out; omega
   case rel => exact ⟨(y128), (wrap64 (x45_1 + 1)), Z5, H', ⟨by have := HK1.out; omega⟩, ⟨by (with_reducible repeat (first | apply rrA | apply rrN | apply rrD)); exact HO_12.out⟩, ⟨by (with_reducible repeat (first | apply Kd.S_alloc | apply Kd.S_drewN | apply Kd.S_drew)); exact Kd.S_mono HO_43.out (fun _ hk => hk.2)⟩, ⟨by repeat (first | (with_reducible first | exact HB.out | apply zzA | apply zzN | apply zzD) | exact HB.out)⟩⟩
def soft_lines.f (a0 : Int) (l1 l2 : List Int) (a3 : Int) : Option (List Int × Int) := if V64 l1 ∧ V64 l2 then some (linesS a0 l1 l2 a3) else none
theorem soft_lines.of (a0 : Int) (l1 l2 : List Int) (a3 : Int)  (h_ : V64 l1 ∧ V64 l2) : soft_lines.f a0 l1 l2 a3 = some (linesS a0 l1 l2 a3) := if_pos h_
theorem soft_linesP.loop (x : List Int) (f : Int) (rows : List (List Int)) (hx : V64 x) (hrv : ∀ r ∈ rows, V64 r) (hb : rows.length ≤ 9223372036854775806) : ∀ (d i : Nat) (acc : List Int), d + i = rows.length → acc.length = rows.length →
    soft_linesP.l0 (d + 1) x f acc rows (rows.length : Int) (i : Int) = some (if (seqV ((rows.drop i).map fun row => tellL row x f)).2 = 0 then (acc.take i ++ (seqV ((rows.drop i).map fun row => tellL row x f)).1, 0) else ([], (seqV ((rows.drop i).map fun row => tellL row x f)).2)) := by
  intro d
  induction d with
  | zero =>
    intro i acc hd ha
    rw [soft_linesP.l0, if_neg (by omega), List.drop_eq_nil_of_le (by omega)]
    simp only [List.map_nil, seqV, if_true, List.append_nil]
    rw [List.take_of_length_le (by omega)]
  | succ d ih =>
    intro i acc hd ha
    have hi : i < rows.length := by omega
    have hrd : rd_L1 rows (i : Int) = rows[i] := by unfold rd_L1; rw [Int.toNat_natCast, List.getD_eq_getElem?_getD, List.getElem?_eq_getElem hi, Option.getD_some]
    rw [soft_linesP.l0, if_pos (by omega), if_pos (by omega), if_pos (by omega), hrd, linear_Tell.of _ _ _ ⟨hrv _ (List.getElem_mem hi), hx⟩, Option.bind_some, if_pos (by omega), List.drop_eq_getElem_cons hi, List.map_cons]
    obtain ⟨⟨t, e⟩, hp⟩ : ∃ p, tellL rows[i] x f = p := ⟨_, rfl⟩
    rw [hp]
    simp only [seqV]
    by_cases c : e = 0
    · rw [if_pos c, if_pos c, wrap64_of (by unfold I64; omega), show (i : Int) + 1 = ((i + 1 : Nat) : Int) by omega, Int.toNat_natCast, ih (i + 1) _ (by omega) (by rw [List.length_set]; exact ha)]
      obtain ⟨⟨ys, e2⟩, hq⟩ : ∃ p, seqV ((rows.drop (i + 1)).map fun row => tellL row x f) = p := ⟨_, rfl⟩
      rw [hq]
      simp only []
      by_cases c2 : e2 = 0
      · rw [if_pos c2, if_pos c2, if_pos rfl]
        have ht : (acc.set i t).take (i + 1) = acc.take i ++ [t] := by
          rw [List.take_add_one, List.getElem?_set_self (by omega), List.take_set_of_le (Nat.le_refl _)]; rfl
        rw [ht, List.append_assoc]; rfl
      · rw [if_neg c2, if_neg c2, if_neg c2]
    · rw [if_neg c, if_neg c, if_neg c]
theorem soft_linesP.is (o : Int) (w x : List Int) (f : Int) (hw : V64 w) (hx : V64 x) : soft_linesP.f ((rowsS o w).1.length + 1) o w x f = some (linesS o w x f) := by
  unfold soft_linesP.f linesS soft_Rows.f
  rw [Option.bind_some]
  by_cases c : (rowsS o w).2 = 0
  · rw [if_pos c, if_neg (not_not_intro c)]
    obtain ⟨k, m, rfl, hk2, hk8, hm2, hm17, hmk, hr⟩ := rowsS_good c
    have hlen : (rowsS (k : Int) w).1.length = k := by rw [hr, chunksS_length]
    have hhd : ((rowsS (k : Int) w).1.getD 0 []).length = m := by rw [hr]; exact chunks_head hmk (by omega)
    have hrd : rd_L1 (rowsS (k : Int) w).1 0 = (rowsS (k : Int) w).1.getD 0 [] := rfl
    rw [if_pos (by omega), hrd, hhd, wrap64_of (by unfold I64; omega)]
    by_cases c2 : (m : Int) - 1 = x.length
    · rw [if_pos c2, if_neg (not_not_intro c2)]
      by_cases c3 : f < 0
      · rw [if_pos c3, if_pos (.inl c3)]
      · rw [if_neg c3]
        by_cases c4 : f > 30
        · rw [if_pos c4, if_pos (.inr c4)]
        · rw [if_neg c4, if_neg (show ¬ (f < 0 ∨ f > 30) by omega), if_pos (by omega), if_pos (by omega)]
          have := soft_linesP.loop x f (rowsS (k : Int) w).1 hx (by rw [hr]; exact fun r h => chunks_v64 hmk hw h) (by omega) (rowsS (k : Int) w).1.length 0 (List.replicate ((k : Int)).toNat 0) (by omega) (by rw [List.length_replicate, hlen, Int.toNat_natCast])
          rw [show ((0 : Nat) : Int) = 0 from rfl] at this
          rw [this, List.drop_zero, List.take_zero, List.nil_append]
          obtain ⟨⟨ys, e2⟩, hq⟩ : ∃ p, seqV ((rowsS (k : Int) w).1.map fun row => tellL row x f) = p := ⟨_, rfl⟩
          have he := seqV_nil_of ((rowsS (k : Int) w).1.map fun row => tellL row x f)
          rw [hq] at he ⊢
          simp only [] at he ⊢
          by_cases c5 : e2 = 0
          · rw [if_pos c5, c5]
          · rw [if_neg c5, he c5]
    · rw [if_neg c2, if_pos c2]
  · rw [if_neg c, if_pos c]
theorem soft_lines.calls (a0 : Int) (A1 : Option Addr) (c1 : Nat) (l1 : List Int) (A2 : Option Addr) (c2 : Nat) (l2 : List Int) (a3 : Int) (r1 : List Int) (r2 : Int) (w : World) (hr1 : Kd.C (Kd.int .i64) w A1 l1.length l1) (hc1 : l1.length ≤ c1) (hr2 : Kd.C (Kd.int .i64) w A2 l2.length l2) (hc2 : l2.length ≤ c2) (h : soft_lines.f a0 l1 l2 a3 = some (r1, r2)) :
    Calls Try.prog 21 #[.int .i64 a0, .slice A1 l1.length c1, .slice A2 l2.length c2, .int .i64 a3] w fun e w' => ∃ v0_ : Value, e = .returned (.tuple #[v0_, .int .i64 r2]) ∧ Kd.R (Kd.int .i64) 2 w' w.heap.size (fun _ => True) v0_ r1 ∧ Below w.heap.size w w' := by
  unfold soft_lines.f at h
  split at h
  case isFalse => cases h
  rename_i hv
  exact soft_linesP.calls ((rowsS a0 l1).1.length + 1) a0 A1 c1 l1 A2 c2 l2 a3 r1 r2 w hr1 hc1 hr2 hc2 ((soft_linesP.is a0 l1 l2 a3 hv.1 hv.2).trans h)


/-! ### vec_Check: function 45 -/
def vec_Check.f (l0 : List Int) : Option (Int) := if (l0.length : Int) > 4096 then (some 3) else (some 0)
set_option maxHeartbeats 8000000 in
set_option maxRecDepth 100000 in
theorem vec_Check.calls (A0 : Option Addr) (c0 : Nat) (l0 : List Int) (r : Int) (w : World) (hr0 : Kd.C (Kd.int .i64) w A0 l0.length l0) (hc0 : l0.length ≤ c0) (h : vec_Check.f l0 = some r) :
  Calls Try.prog 45 #[.slice A0 l0.length c0] w fun e w' => e = .returned (.int .i64 r) ∧ Drawn0 w w' := by
 have HR0 := ZM hr0
 have HC0 := ZM hc0
 clear hr0 hc0
 have H : (if (l0.length : Int) > 4096 then (some 3) else (some 0)) = some r := h
 clear h
 by_cases c2 : (l0.length : Int) > 4096
 case neg =>
  rw [if_neg c2] at H
  have c2b0 : decide (4096 < (l0.length : Int)) = false := decide_eq_false c2
  have c2b1 : decide (4096 < l0.length) = false := decide_eq_false (by omega)
  clear c2
  obtain rfl := Option.some.inj H
  go_enter Try.func45, Try.ntmps45
  go_wp2
  go_ret
  exact ⟨by first | rfl | (simp; done) | (simp [*]; done), by repeat (first | exact ddR _ | apply ddS)⟩
 rw [if_pos c2] at H
 have c2b0 : decide (4096 < (l0.length : Int)) = true := decide_eq_true c2
 have c2b1 : decide (4096 < l0.length) = true := decide_eq_true (by omega)
 clear c2
 obtain rfl := Option.some.inj H
 go_enter Try.func45, Try.ntmps45
 go_wp2
 go_ret
 exact ⟨by first | rfl | (simp; done) | (simp [*]; done), by repeat (first | exact ddR _ | apply ddS)⟩
theorem vec_Check.of (l0 : List Int) : vec_Check.f l0 = some (checkE l0) := by
  unfold vec_Check.f checkE
  by_cases c : l0.length > 4096
  · rw [if_pos (by omega), if_pos c]
  · rw [if_neg (by omega), if_neg c]


/-! ### slices_Index_int64_int64P: function 46 -/
def slices_Index_int64_int64P.l0 : Nat → List Int → Int → Int → Int → Option (Int)
 | 0, _, _, _, _ => none
 | k + 1, x0, x1, x7, x8 => if x8 < x7 then (if 0 ≤ x8 then (if x8 < (x0.length : Int) then (if x1 = (rd x0 x8) then (some x8) else (slices_Index_int64_int64P.l0 k x0 x1 x7 (wrap64 (x8 + 1)))) else (none)) else (none)) else (some (-1))
def slices_Index_int64_int64P.f (k : Nat) (l0 : List Int) (a1 : Int) : Option (Int) := slices_Index_int64_int64P.l0 k l0 a1 (l0.length : Int) 0
theorem slices_Index_int64_int64P.mono_l : ∀ k, (∀ y0 y1 y2 y3, LeO (slices_Index_int64_int64P.l0 k y0 y1 y2 y3) (slices_Index_int64_int64P.l0 (k + 1) y0 y1 y2 y3))
 | 0 => fun _ _ _ _ r h => by simp [slices_Index_int64_int64P.l0] at h
 | k + 1 => by
  have ih0 := slices_Index_int64_int64P.mono_l k
  ·
   intro y0 y1 y2 y3
   unfold slices_Index_int64_int64P.l0
   repeat' first
   | (with_reducible exact ih0 _ _ _ _)
   | (with_reducible exact LeO.refl _)
   | (with_reducible exact LeO.none _)
   | (with_reducible refine LeO.ite ?_ ?_)
   | (with_reducible refine LeO.bind ?_ (fun _ => ?_))
theorem slices_Index_int64_int64P.mono : ∀ a0 a1 k, LeO (slices_Index_int64_int64P.f k a0 a1) (slices_Index_int64_int64P.f (k + 1) a0 a1) := by
 intro a0 a1 k
 have ih0 := slices_Index_int64_int64P.mono_l k
 unfold slices_Index_int64_int64P.f
 repeat' first
   | (with_reducible exact ih0 _ _ _ _)
   | (with_reducible exact LeO.refl _)
   | (with_reducible exact LeO.none _)
   | (with_reducible refine LeO.ite ?_ ?_)
   | (with_reducible refine LeO.bind ?_ (fun _ => ?_))
set_option maxHeartbeats 8000000 in
set_option maxRecDepth 100000 in
theorem slices_Index_int64_int64P.calls (k : Nat) (A0 : Option Addr) (c0 : Nat) (l0 : List Int) (a1 : Int) (r : Int) (w : World) (hr0 : Kd.C (Kd.int .i64) w A0 l0.length l0) (hc0 : l0.length ≤ c0) (h : slices_Index_int64_int64P.f k l0 a1 = some r) :
  Calls Try.prog 46 #[.slice A0 l0.length c0, .int .i64 a1] w fun e w' => e = .returned (.int .i64 r) ∧ Drawn0 w w' := by
 have HR0 := ZM hr0
 have HC0 := ZM hc0
 clear hr0 hc0
 have H : (slices_Index_int64_int64P.l0 k l0 a1 (l0.length : Int) 0) = some r := h
 clear h
 have H' := ZM H
 clear H
 go_enter Try.func46, Try.ntmps46
 go_wp2
 go_loopg [8] k (fun kq v8 w' => ∃ (x8_1 : Int), v8 = .int .i64 x8_1 ∧ Aside0 (slices_Index_int64_int64P.l0 kq l0 a1 (l0.length : Int) x8_1 = some r) ∧ Aside0 (kq ≤ k) ∧ Drawn0 w w')
 case atStart => exact ⟨(0), Z5, H', ⟨Nat.le_refl _⟩, by repeat (first | exact ddR _ | apply ddS)⟩
 case round =>
  clear H'
  obtain ⟨x8_1, rfl, HA, HK1, ⟨m1, rfl⟩⟩ := hrel
  cases gk with
  | zero => exact absurd HA.out (by simp [slices_Index_int64_int64P.l0])
  | succ k1 =>
   have H := HA.out
   clear HA
   simp only [slices_Index_int64_int64P.l0] at H
   by_cases c3 : x8_1 < (l0.length : Int)
   case neg =>
    rw [if_neg c3] at H
    have c3b0 : decide (x8_1 < (l0.length : Int)) = false := decide_eq_false c3
    clear c3
    obtain rfl := Option.some.inj H
    go_wp2
    go_ret
    exact ⟨by first | rfl | (simp; done) | (simp [*]; done), by repeat (first | exact ddR _ | apply ddS)⟩
   rw [if_pos c3] at H
   have c3b0 : decide (x8_1 < (l0.length : Int)) = true := decide_eq_true c3
   clear c3
   by_cases c4 : 0 ≤ x8_1
   case neg =>
    rw [if_neg c4] at H
    exact absurd H (by simp)
   rw [if_pos c4] at H
   have c4b0 : decide (0 ≤ x8_1) = true := decide_eq_true c4
   clear c4
   by_cases c5 : x8_1 < (l0.length : Int)
   case neg =>
    rw [if_neg c5] at H
    exact absurd H (by simp)
   rw [if_pos c5] at H
   have c5b0 : decide (x8_1 < (l0.length : Int)) = true := decide_eq_true c5
   clear c5
   by_cases c6 : a1 = (rd l0 x8_1)
   ·
    rw [if_pos c6] at H
    have c6b0 : (a1 == (rd l0 x8_1)) = true := beq_iff_eq.mpr c6
    have c6b1 : (a1 != (rd l0 x8_1)) = false := bne_eq_false_iff_eq.mpr c6
    clear c6
    obtain rfl := Option.some.inj H
    have p129 : 0 ≤ (x8_1 : Int) := of_decide_eq_true Z3
    have q129 : x8_1 < (l0.length : Int) := of_decide_eq_true Z3
    obtain ⟨ad129, e129, hx129_0⟩ := Kd.at_int HR0.out x8_1 p129 q129
    cases e129
    replace p129 := eq_true p129
    replace q129 := eq_true q129
    go_wp2
    go_ret
    exact ⟨by first | rfl | (simp; done) | (simp [*]; done), by repeat (first | exact ddR _ | apply ddS)⟩
   rw [if_neg c6] at H
   have c6b0 : (a1 == (rd l0 x8_1)) = false := beq_eq_false_iff_ne.mpr c6
   have c6b1 : (a1 != (rd l0 x8_1)) = true := bne_iff_ne.mpr c6
   have H' := ZM H
   clear H
   have p129 : 0 ≤ (x8_1 : Int) := of_decide_eq_true Z3
   have q129 : x8_1 < (l0.length : Int) := of_decide_eq_true Z3
   obtain ⟨ad129, e129, hx129_0⟩ := Kd.at_int HR0.out x8_1 p129 q129
   cases e129
   replace p129 := eq_true p129
   replace q129 := eq_true q129
   go_wp2
   go_roundg k1
   case measure => have := HK1.out; omega
   case rel => exact ⟨(wrap64 (x8_1 + 1)), Z5, H', ⟨by have := HK1.out; omega⟩, by repeat (first | exact ddR _ | apply ddS)⟩
theorem slices_Index_int64_int64P.loop (x0 : List Int) (v : Int) (hb : x0.length ≤ 9223372036854775807) : ∀ (d i : Nat), d + i = x0.length →
    slices_Index_int64_int64P.l0 (d + 1) x0 v (x0.length : Int) (i : Int) = some (idxGo (x0.drop i) v i) := by
  intro d
  induction d with
  | zero =>
    intro i hd
    rw [slices_Index_int64_int64P.l0, if_neg (by omega), List.drop_eq_nil_of_le (by omega)]; rfl
  | succ d ih =>
    intro i hd
    have hi : i < x0.length := by omega
    rw [slices_Index_int64_int64P.l0, if_pos (by omega), if_pos (by omega), if_pos (by omega), show rd x0 (i : Int) = x0[i] from rd_nat hi, List.drop_eq_getElem_cons hi, idxGo]
    by_cases c : v = x0[i]
    · rw [if_pos c, if_pos c]
    · rw [if_neg c, if_neg c, wrap64_of (by unfold I64; omega), show (i : Int) + 1 = ((i + 1 : Nat) : Int) by omega, ih (i + 1) (by omega)]
def slices_Index_int64_int64.f (l0 : List Int) (a1 : Int) : Option Int := some (idxGo l0 a1 0)
theorem slices_Index_int64_int64.calls (A0 : Option Addr) (c0 : Nat) (l0 : List Int) (a1 : Int) (r : Int) (w : World) (hr0 : Kd.C (Kd.int .i64) w A0 l0.length l0) (hc0 : l0.length ≤ c0) (h : slices_Index_int64_int64.f l0 a1 = some r) :
    Calls Try.prog 46 #[.slice A0 l0.length c0, .int .i64 a1] w fun e w' => e = .returned (.int .i64 r) ∧ Drawn0 w w' := by
  refine slices_Index_int64_int64P.calls (l0.length + 1) A0 c0 l0 a1 r w hr0 hc0 (Eq.trans ?_ h)
  have hm := Kd.C_max hr0
  exact slices_Index_int64_int64P.loop l0 a1 hm l0.length 0 (by omega)


/-! ### slices_Max_int64_int64P: function 47 -/
def slices_Max_int64_int64P.l0 : Nat → List Int → Int → Int → Option (Int)
 | 0, _, _, _ => none
 | k + 1, x0, x3, x4 => if x4 < (x0.length : Int) then (if 0 ≤ x4 then (slices_Max_int64_int64P.l0 k x0 (mx x3 (rd x0 x4)) (wrap64 (x4 + 1))) else (none)) else (some x3)
def slices_Max_int64_int64P.f (k : Nat) (l0 : List Int) : Option (Int) := if (l0.length : Int) < 1 then (none) else (if 0 < (l0.length : Int) then (slices_Max_int64_int64P.l0 k l0 (rd l0 0) 1) else (none))
theorem slices_Max_int64_int64P.mono_l : ∀ k, (∀ y0 y1 y2, LeO (slices_Max_int64_int64P.l0 k y0 y1 y2) (slices_Max_int64_int64P.l0 (k + 1) y0 y1 y2))
 | 0 => fun _ _ _ r h => by simp [slices_Max_int64_int64P.l0] at h
 | k + 1 => by
  have ih0 := slices_Max_int64_int64P.mono_l k
  ·
   intro y0 y1 y2
   unfold slices_Max_int64_int64P.l0
   repeat' first
   | (with_reducible exact ih0 _ _ _)
   | (with_reducible exact LeO.refl _)
   | (with_reducible exact LeO.none _)
   | (with_reducible refine LeO.ite ?_ ?_)
   | (with_reducible refine LeO.bind ?_ (fun _ => ?_))
theorem slices_Max_int64_int64P.mono : ∀ a0 k, LeO (slices_Max_int64_int64P.f k a0) (slices_Max_int64_int64P.f (k + 1) a0) := by
 intro a0 k
 have ih0 := slices_Max_int64_int64P.mono_l k
 unfold slices_Max_int64_int64P.f
 repeat' first
   | (with_reducible exact ih0 _ _ _)
   | (with_reducible exact LeO.refl _)
   | (with_reducible exact LeO.none _)
   | (with_reducible refine LeO.ite ?_ ?_)
   | (with_reducible refine LeO.bind ?_ (fun _ => ?_))
set_option maxHeartbeats 8000000 in
set_option maxRecDepth 100000 in
theorem slices_Max_int64_int64P.calls (k : Nat) (A0 : Option Addr) (c0 : Nat) (l0 : List Int) (r : Int) (w : World) (hr0 : Kd.C (Kd.int .i64) w A0 l0.length l0) (hc0 : l0.length ≤ c0) (h : slices_Max_int64_int64P.f k l0 = some r) :
  Calls Try.prog 47 #[.slice A0 l0.length c0] w fun e w' => e = .returned (.int .i64 r) ∧ Below w.heap.size w w' := by
 have HR0 := ZM hr0
 have HC0 := ZM hc0
 clear hr0 hc0
 have HB := ZM (Below.refl w.heap.size w)
 have H : (if (l0.length : Int) < 1 then (none) else (if 0 < (l0.length : Int) then (slices_Max_int64_int64P.l0 k l0 (rd l0 0) 1) else (none))) = some r := h
 clear h
 by_cases c2 : (l0.length : Int) < 1
 ·
  rw [if_pos c2] at H
  exact absurd H (by simp)
 rw [if_neg c2] at H
 have c2b0 : decide ((l0.length : Int) < 1) = false := decide_eq_false c2
 have c2b1 : decide (l0.length < 1) = false := decide_eq_false (by omega)
 clear c2
 by_cases c3 : 0 < (l0.length : Int)
 case neg =>
  rw [if_neg c3] at H
  exact absurd H (by simp)
 rw [if_pos c3] at H
 have c3b0 : decide (0 < (l0.length : Int)) = true := decide_eq_true c3
 have c3b1 : decide (0 < l0.length) = true := decide_eq_true (by omega)
 clear c3
 have H' := ZM H
 clear H
 have p130 : 0 ≤ (0 : Int) := (by omega)
 have q130 : 0 < (l0.length : Int) := of_decide_eq_true Z3
 obtain ⟨ad130, e130, hx130_0⟩ := Kd.at_int HR0.out 0 p130 q130
 cases e130
 have qi130 : (0 < l0.length) = True := eq_true (by omega)
 (try rw [show ((0 : Int)).toNat = 0 from rfl] at hx130_0)
 (try rw [Addr.add_zero'] at hx130_0)
 replace p130 := eq_true p130
 replace q130 := eq_true q130
 go_enter Try.func47, Try.ntmps47
 go_wp2
 go_loopg [3, 4] k (fun kq v3 v4 w' => ∃ (x3_1 : Int) (x4_1 : Int), v3 = .int .i64 x3_1 ∧ v4 = .int .i64 x4_1 ∧ Aside0 (slices_Max_int64_int64P.l0 kq l0 x3_1 x4_1 = some r) ∧ Aside0 (kq ≤ k) ∧ Aside0 (Below w.heap.size w w'))
 case atStart => exact ⟨(rd l0 0), (1), Z5, Z5, H', ⟨Nat.le_refl _⟩, ⟨by repeat (first | (with_reducible first | exact HB.out | apply zzA | apply zzN | apply zzD) | exact HB.out)⟩⟩
 case round =>
  clear H'
  try clear c2
  try clear c2b0
  try clear c2b1
  try clear c3
  try clear c3b0
  try clear c3b1
  try clear hx130_0
  try clear p130
  try clear q130
  obtain ⟨x3_1, x4_1, rfl, rfl, HA, HK1, HB⟩ := hrel
  cases gk with
  | zero => exact absurd HA.out (by simp [slices_Max_int64_int64P.l0])
  | succ k1 =>
   have H := HA.out
   clear HA
   simp only [slices_Max_int64_int64P.l0] at H
   by_cases c4 : x4_1 < (l0.length : Int)
   case neg =>
    rw [if_neg c4] at H
    have c4b0 : decide (x4_1 < (l0.length : Int)) = false := decide_eq_false c4
    clear c4
    obtain rfl := Option.some.inj H
    go_wp2
    go_ret
    exact ⟨by first | rfl | (simp [errW_none, errW_some] <;> rfl) | (simp [*, errW_none, errW_some] <;> rfl), by repeat (first | (with_reducible first | exact HB.out | apply zzA | apply zzN | apply zzD) | exact HB.out)⟩
   rw [if_pos c4] at H
   have c4b0 : decide (x4_1 < (l0.length : Int)) = true := decide_eq_true c4
   clear c4
   by_cases c5 : 0 ≤ x4_1
   case neg =>
    rw [if_neg c5] at H
    exact absurd H (by simp)
   rw [if_pos c5] at H
   have c5b0 : decide (0 ≤ x4_1) = true := decide_eq_true c5
   clear c5
   obtain ⟨ji6, hji6⟩ : ∃ j_ : Int, (mx x3_1 (rd l0 x4_1)) = j_ := ⟨_, rfl⟩
   replace H : (slices_Max_int64_int64P.l0 k1 l0 ji6 (wrap64 (x4_1 + 1))) = some r := by first | (rw [hji6] at H; exact H) | (simp only [hji6] at H ⊢; exact H)
   have hji6_ : (if x3_1 < (rd l0 x4_1) then (rd l0 x4_1) else x3_1) = ji6 := hji6
   have H' := ZM H
   clear H
   have p131 : 0 ≤ (x4_1 : Int) := of_decide_eq_true Z3
   have q131 : x4_1 < (l0.length : Int) := of_decide_eq_true Z3
   obtain ⟨ad131, e131, hx131_0⟩ := Kd.at_int HR0.out x4_1 p131 q131
   obtain rfl : ad130 = ad131 := (by injection e131)
   replace hx131_0 := (HB.out.cell (World.block_lt_of_cell? w _ hx131_0)).trans hx131_0
   replace p131 := eq_true p131
   replace q131 := eq_true q131
   go_wp2
   go_roundg k1
   case measure => have := HK1.out; omega
   case rel => exact ⟨(ji6), (wrap64 (x4_1 + 1)), (by first | rfl | (simp; done) | (simp only [← hji6] <;> (first | rfl | simp)) | (simp [*]; done)), Z5, H', ⟨by have := HK1.out; omega⟩, ⟨by repeat (first | (with_reducible first | exact HB.out | apply zzA | apply zzN | apply zzD) | exact HB.out)⟩⟩
theorem slices_Max_int64_int64P.loop (x0 : List Int) (hb : x0.length ≤ 9223372036854775807) : ∀ (d i : Nat) (m : Int), d + i = x0.length →
    slices_Max_int64_int64P.l0 (d + 1) x0 m (i : Int) = some (maxGo (x0.drop i) m) := by
  intro d
  induction d with
  | zero =>
    intro i m hd
    rw [slices_Max_int64_int64P.l0, if_neg (by omega), List.drop_eq_nil_of_le (by omega)]; rfl
  | succ d ih =>
    intro i m hd
    have hi : i < x0.length := by omega
    rw [slices_Max_int64_int64P.l0, if_pos (by omega), if_pos (by omega), show rd x0 (i : Int) = x0[i] from rd_nat hi, wrap64_of (by unfold I64; omega), show (i : Int) + 1 = ((i + 1 : Nat) : Int) by omega, ih (i + 1) _ (by omega), List.drop_eq_getElem_cons hi]
    rfl
def slices_Max_int64_int64.f (l0 : List Int) : Option Int := if 0 < l0.length then some (maxGo (l0.drop 1) (rd l0 0)) else none
theorem slices_Max_int64_int64.of (l0 : List Int)  (h_ : 0 < l0.length) : slices_Max_int64_int64.f l0 = some (maxGo (l0.drop 1) (rd l0 0)) := if_pos h_
theorem slices_Max_int64_int64.calls (A0 : Option Addr) (c0 : Nat) (l0 : List Int) (r : Int) (w : World) (hr0 : Kd.C (Kd.int .i64) w A0 l0.length l0) (hc0 : l0.length ≤ c0) (h : slices_Max_int64_int64.f l0 = some r) :
    Calls Try.prog 47 #[.slice A0 l0.length c0] w fun e w' => e = .returned (.int .i64 r) ∧ Below w.heap.size w w' := by
  unfold slices_Max_int64_int64.f at h
  split at h
  case isFalse => cases h
  rename_i hl
  refine slices_Max_int64_int64P.calls (l0.length + 1) A0 c0 l0 r w hr0 hc0 (Eq.trans ?_ h)
  have hm := Kd.C_max hr0
  unfold slices_Max_int64_int64P.f
  rw [if_neg (by omega), if_pos (by omega), show (1 : Int) = ((1 : Nat) : Int) from rfl]
  obtain ⟨d, hd⟩ : ∃ d, l0.length = d + 1 := ⟨l0.length - 1, by omega⟩
  have := slices_Max_int64_int64P.loop l0 hm d 1 (rd l0 0) (by omega)
  exact slices_Max_int64_int64P.mono_l _ _ _ _ _ (by rw [hd]; exact this)


/-! ### table_BestP: function 25 -/
def table_BestP.f (l0 : List Int) : Option (Int × Int) := if (l0.length : Int) = 0 then (some (0, 1)) else ((vec_Check.f l0).bind fun t132 => (if t132 = 0 then ((slices_Max_int64_int64.f l0).bind fun t133 => ((slices_Index_int64_int64.f l0 t133).bind fun t134 => (some (t134, 0)))) else (some (0, t132))))
set_option maxHeartbeats 8000000 in
set_option maxRecDepth 100000 in
theorem table_BestP.calls (A0 : Option Addr) (c0 : Nat) (l0 : List Int) (r1 : Int) (r2 : Int) (w : World) (hr0 : Kd.C (Kd.int .i64) w A0 l0.length l0) (hc0 : l0.length ≤ c0) (h : table_BestP.f l0 = some (r1, r2)) :
  Calls Try.prog 25 #[.slice A0 l0.length c0] w fun e w' => e = .returned (.tuple #[.int .i64 r1, .int .i64 r2]) ∧ Below w.heap.size w w' := by
 have HR0 := ZM hr0
 have HC0 := ZM hc0
 clear hr0 hc0
 have HB := ZM (Below.refl w.heap.size w)
 have H : (if (l0.length : Int) = 0 then (some (0, 1)) else ((vec_Check.f l0).bind fun t132 => (if t132 = 0 then ((slices_Max_int64_int64.f l0).bind fun t133 => ((slices_Index_int64_int64.f l0 t133).bind fun t134 => (some (t134, 0)))) else (some (0, t132))))) = some (r1, r2) := h
 clear h
 by_cases c2 : (l0.length : Int) = 0
 ·
  rw [if_pos c2] at H
  have c2b0 : ((l0.length : Int) == 0) = true := beq_iff_eq.mpr c2
  have c2b1 : ((l0.length : Int) != 0) = false := bne_eq_false_iff_eq.mpr c2
  clear c2
  simp only [Option.some.injEq, Prod.mk.injEq] at H
  obtain ⟨rfl, rfl⟩ := H
  go_enter Try.func25, Try.ntmps25
  go_wp2
  go_ret2
  exact ⟨by first | rfl | (simp [errW_none, errW_some] <;> rfl) | (simp [*, errW_none, errW_some] <;> rfl), by repeat (first | (with_reducible first | exact HB.out | apply zzA | apply zzN | apply zzD) | exact HB.out)⟩
 rw [if_neg c2] at H
 have c2b0 : ((l0.length : Int) == 0) = false := beq_eq_false_iff_ne.mpr c2
 have c2b1 : ((l0.length : Int) != 0) = true := bne_iff_ne.mpr c2
 have c2b2 : ¬ (l0 = []) := fun h_ => c2 (by rw [h_]; rfl)
 replace H := Option.bind_eq_some_iff.mp H
 obtain ⟨t132, A30, H⟩ := H
 replace H : (if t132 = 0 then ((slices_Max_int64_int64.f l0).bind fun t133 => ((slices_Index_int64_int64.f l0 t133).bind fun t134 => (some (t134, 0)))) else (some (0, t132))) = some (r1, r2) := H
 have A3 := ZM A30
 clear A30
 by_cases c4 : t132 = 0
 case neg =>
  rw [if_neg c4] at H
  have c4b0 : (t132 == 0) = false := beq_eq_false_iff_ne.mpr c4
  have c4b1 : (t132 != 0) = true := bne_iff_ne.mpr c4
  simp only [Option.some.injEq, Prod.mk.injEq] at H
  obtain ⟨rfl, rfl⟩ := H
  go_enter Try.func25, Try.ntmps25
  go_wp2_with (first | ((with_reducible refine gate_callee (f := 45) rfl ?_); refine goesL_ (some 9) rfl rfl Try.func45 (by kernel_rfl) rfl #[.slice A0 l0.length c0] rfl Z2 ?_; (with_reducible refine (vec_Check.calls _ _ l0 t132 _ ?side1 ?side2 A3.out).mono ?_); (case side1 => exact Z14); (case side2 => exact HC0.out); rintro e w' ⟨rfl, ⟨nd, rfl⟩⟩; refine ⟨_, rfl, ?_⟩))
  go_ret2
  exact ⟨by first | rfl | (simp [errW_none, errW_some] <;> rfl) | (simp [*, errW_none, errW_some] <;> rfl), by repeat (first | (with_reducible first | exact HB.out | apply zzA | apply zzN | apply zzD) | exact HB.out)⟩
 rw [if_pos c4] at H
 have c4b0 : (t132 == 0) = true := beq_iff_eq.mpr c4
 have c4b1 : (t132 != 0) = false := bne_eq_false_iff_eq.mpr c4
 clear c4
 replace H := Option.bind_eq_some_iff.mp H
 obtain ⟨t133, A50, H⟩ := H
 replace H : ((slices_Index_int64_int64.f l0 t133).bind fun t134 => (some (t134, 0))) = some (r1, r2) := H
 have A5 := ZM A50
 clear A50
 replace H := Option.bind_eq_some_iff.mp H
 obtain ⟨t134, A60, H⟩ := H
 replace H : (some (t134, 0)) = some (r1, r2) := H
 have A6 := ZM A60
 clear A60
 simp only [Option.some.injEq, Prod.mk.injEq] at H
 obtain ⟨rfl, rfl⟩ := H
 go_enter Try.func25, Try.ntmps25
 go_wp2_with (first | ((with_reducible refine gate_callee (f := 45) rfl ?_); refine goesL_ (some 9) rfl rfl Try.func45 (by kernel_rfl) rfl #[.slice A0 l0.length c0] rfl Z2 ?_; (with_reducible refine (vec_Check.calls _ _ l0 t132 _ ?side1 ?side2 A3.out).mono ?_); (case side1 => exact Z14); (case side2 => exact HC0.out); rintro e w' ⟨rfl, ⟨nd, rfl⟩⟩; refine ⟨_, rfl, ?_⟩) | ((with_reducible refine gate_callee (f := 47) rfl ?_); refine goesL_ (some 15) rfl rfl Try.func47 (by kernel_rfl) rfl #[.slice A0 l0.length c0] rfl Z2 ?_; (with_reducible refine (slices_Max_int64_int64.calls _ _ l0 t133 _ ?side1 ?side2 A5.out).mono ?_); (case side1 => exact Z14); (case side2 => exact HC0.out); rintro e w7 ⟨rfl, hb⟩; refine ⟨_, rfl, ?_⟩; replace HB := ZM (zzT Z1 hb); (try clear hb); (try clear hb2); (try clear hk); (try clear hi)) | ((with_reducible refine gate_callee (f := 46) rfl ?_); refine goesL_ (some 16) rfl rfl Try.func46 (by kernel_rfl) rfl #[.slice A0 l0.length c0, .int .i64 t133] rfl Z2 ?_; (with_reducible refine (slices_Index_int64_int64.calls _ _ l0 t133 t134 _ ?side1 ?side2 A6.out).mono ?_); (case side1 => exact Z18); (case side2 => exact HC0.out); rintro e w' ⟨rfl, ⟨nd, rfl⟩⟩; refine ⟨_, rfl, ?_⟩))
 go_ret2
 exact ⟨by first | rfl | (simp [errW_none, errW_some] <;> rfl) | (simp [*, errW_none, errW_some] <;> rfl), by repeat (first | (with_reducible first | exact HB.out | apply zzA | apply zzN | apply zzD) | exact HB.out)⟩
def table_Best.f (l0 : List Int) : Option (Int × Int) := some (bestF l0)
theorem table_Best.calls (A0 : Option Addr) (c0 : Nat) (l0 : List Int) (r1 : Int) (r2 : Int) (w : World) (hr0 : Kd.C (Kd.int .i64) w A0 l0.length l0) (hc0 : l0.length ≤ c0) (h : table_Best.f l0 = some (r1, r2)) :
    Calls Try.prog 25 #[.slice A0 l0.length c0] w fun e w' => e = .returned (.tuple #[.int .i64 r1, .int .i64 r2]) ∧ Below w.heap.size w w' := by
  refine table_BestP.calls A0 c0 l0 r1 r2 w hr0 hc0 (Eq.trans ?_ h)
  unfold table_BestP.f table_Best.f bestF
  rw [vec_Check.of]
  simp only [Option.bind_some, checkE]
  by_cases c : l0.length = 0
  · rw [if_pos (by omega), if_pos c]
  · rw [if_neg (by omega), if_neg c]
    by_cases c2 : l0.length > 4096
    · rw [if_pos c2, if_neg (by decide), if_pos c2]
    · rw [if_neg c2, if_pos rfl, if_neg c2]
      unfold slices_Max_int64_int64.f slices_Index_int64_int64.f
      rw [if_pos (by omega)]
      simp only [Option.bind_some]
      rw [idx_max l0 (by omega)]


/-! ### fix_SubP: function 38 -/
def fix_SubP.f (a0 : Int) (a1 : Int) : Option (Int × Int) := if (Go.bits .and .i64 (Go.bits .xor .i64 a0 a1) (Go.bits .xor .i64 a0 (wrap64 (a0 - a1)))) < 0 then (some (0, 2)) else (some (wrap64 (a0 - a1), 0))
set_option maxHeartbeats 8000000 in
set_option maxRecDepth 100000 in
theorem fix_SubP.calls (a0 : Int) (a1 : Int) (r1 : Int) (r2 : Int) (w : World) (h : fix_SubP.f a0 a1 = some (r1, r2)) :
  Calls Try.prog 38 #[.int .i64 a0, .int .i64 a1] w fun e w' => e = .returned (.tuple #[.int .i64 r1, .int .i64 r2]) ∧ Drawn0 w w' := by
 have H : (if (Go.bits .and .i64 (Go.bits .xor .i64 a0 a1) (Go.bits .xor .i64 a0 (wrap64 (a0 - a1)))) < 0 then (some (0, 2)) else (some (wrap64 (a0 - a1), 0))) = some (r1, r2) := h
 clear h
 by_cases c3 : (Go.bits .and .i64 (Go.bits .xor .i64 a0 a1) (Go.bits .xor .i64 a0 (wrap64 (a0 - a1)))) < 0
 case neg =>
  rw [if_neg c3] at H
  have c3b0 : decide ((Go.bits .and .i64 (Go.bits .xor .i64 a0 a1) (Go.bits .xor .i64 a0 (wrap64 (a0 - a1)))) < 0) = false := decide_eq_false c3
  clear c3
  simp only [Option.some.injEq, Prod.mk.injEq] at H
  obtain ⟨rfl, rfl⟩ := H
  go_enter Try.func38, Try.ntmps38
  go_wp2
  go_ret2
  exact ⟨by first | rfl | (simp; done) | (simp [*]; done), by repeat (first | exact ddR _ | apply ddS)⟩
 rw [if_pos c3] at H
 have c3b0 : decide ((Go.bits .and .i64 (Go.bits .xor .i64 a0 a1) (Go.bits .xor .i64 a0 (wrap64 (a0 - a1)))) < 0) = true := decide_eq_true c3
 clear c3
 simp only [Option.some.injEq, Prod.mk.injEq] at H
 obtain ⟨rfl, rfl⟩ := H
 go_enter Try.func38, Try.ntmps38
 go_wp2
 go_ret2
 exact ⟨by first | rfl | (simp; done) | (simp [*]; done), by repeat (first | exact ddR _ | apply ddS)⟩
def fix_Sub.f (a0 a1 : Int) : Option (Int × Int) := if I64 a0 ∧ I64 a1 then some (res (a0 - a1)) else none
theorem fix_Sub.of (a0 a1 : Int)  (h_ : I64 a0 ∧ I64 a1) : fix_Sub.f a0 a1 = some (res (a0 - a1)) := if_pos h_
theorem fix_Sub.calls (a0 : Int) (a1 : Int) (r1 : Int) (r2 : Int) (w : World) (h : fix_Sub.f a0 a1 = some (r1, r2)) :
    Calls Try.prog 38 #[.int .i64 a0, .int .i64 a1] w fun e w' => e = .returned (.tuple #[.int .i64 r1, .int .i64 r2]) ∧ Drawn0 w w' := by
  unfold fix_Sub.f at h
  split at h
  · rename_i hu
    refine fix_SubP.calls a0 a1 r1 r2 w (Eq.trans ?_ h)
    unfold fix_SubP.f
    have hw := wrap64_i64 (a0 - a1)
    have t := and_neg (xor_i64_i64 a0 a1) (xor_i64_i64 a0 (wrap64 (a0 - a1)))
    rw [xor_neg hu.1 hu.2, xor_neg hu.1 hw] at t
    obtain ⟨h0, h1⟩ := hu
    by_cases c : I64 (a0 - a1)
    · rw [res_of c, wrap64_of c] at *
      rw [if_neg (by rw [t]; omega)]
    · rw [res_not c]
      unfold I64 at h0 h1 c
      rw [if_pos (by rw [t, wrap64_def]; omega)]
  · cases h


/-! ### fix_NegP: function 56 -/
def fix_NegP.f (a0 : Int) : Option (Int × Int) := (fix_Sub.f 0 a0).bind fun bt135 => (some (bt135.1, bt135.2))
set_option maxHeartbeats 8000000 in
set_option maxRecDepth 100000 in
theorem fix_NegP.calls (a0 : Int) (r1 : Int) (r2 : Int) (w : World) (h : fix_NegP.f a0 = some (r1, r2)) :
  Calls Try.prog 56 #[.int .i64 a0] w fun e w' => e = .returned (.tuple #[.int .i64 r1, .int .i64 r2]) ∧ Drawn0 w w' := by
 have H : ((fix_Sub.f 0 a0).bind fun bt135 => (some (bt135.1, bt135.2))) = some (r1, r2) := h
 clear h
 replace H := Option.bind_eq_some_iff.mp H
 obtain ⟨⟨t135, t136⟩, A20, H⟩ := H
 replace H : (some (t135, t136)) = some (r1, r2) := H
 have A2 := ZM A20
 clear A20
 simp only [Option.some.injEq, Prod.mk.injEq] at H
 obtain ⟨rfl, rfl⟩ := H
 go_enter Try.func56, Try.ntmps56
 go_wp2_with (first | ((with_reducible refine gate_callee (f := 38) rfl ?_); refine goesL_ (some 5) rfl rfl Try.func38 (by kernel_rfl) rfl #[.int .i64 0, .int .i64 a0] rfl Z2 ?_; (with_reducible refine (fix_Sub.calls 0 a0 t135 t136 _ A2.out).mono ?_); rintro e w' ⟨rfl, ⟨nd, rfl⟩⟩; refine ⟨_, rfl, ?_⟩))
 go_ret2
 exact ⟨by first | rfl | (simp; done) | (simp [*]; done), by repeat (first | exact ddR _ | apply ddS)⟩
def fix_Neg.f (a0 : Int) : Option (Int × Int) := if I64 a0 then some (res (-a0)) else none
theorem fix_Neg.of (a0 : Int)  (h_ : I64 a0) : fix_Neg.f a0 = some (res (-a0)) := if_pos h_
theorem fix_Neg.calls (a0 : Int) (r1 : Int) (r2 : Int) (w : World) (h : fix_Neg.f a0 = some (r1, r2)) :
    Calls Try.prog 56 #[.int .i64 a0] w fun e w' => e = .returned (.tuple #[.int .i64 r1, .int .i64 r2]) ∧ Drawn0 w w' := by
  unfold fix_Neg.f at h
  split at h
  · rename_i hu
    refine fix_NegP.calls a0 r1 r2 w (Eq.trans ?_ h)
    unfold fix_NegP.f fix_Sub.f
    rw [if_pos ⟨i64_zero, hu⟩]; simp
  · cases h


-- NOT PRINTED: function 91 (math_sqrt)

/-! ### math_Sqrt: function 88 -/
theorem sqrt_enters (x : Nat) (w : World) : ∃ (r m : Nat), (callFunc 91 #[.float .f64 x]).run Try.prog w = .ok (.value (.float .f64 r)) (w.drewN m) :=
  run_sqrt Try.func91 rfl rfl (by kernel_rfl) (by kernel_rfl) x w
set_option maxHeartbeats 2000000 in
set_option maxRecDepth 100000 in
theorem math_Sqrt.calls (x : Nat) (w : World) : Calls Try.prog 88 #[.float .f64 x] w fun e w' => (∃ r : Nat, e = .returned (.float .f64 r)) ∧ Drawn0 w w' := by
 obtain ⟨r, m, hs⟩ := sqrt_enters x w
 go_enter Try.func88, Try.ntmps88
 go_wp2
 go_ret
 exact ⟨⟨r, rfl⟩, ⟨_, rfl⟩⟩
end Go.Proofs.Ytihgcjagokippaa.HS
