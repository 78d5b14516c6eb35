/- What Go functions do, each as a plain Lean function with the same answers, and the proof of it, in every world: printed by the session's driver over the kit's print, with texts by hand. -/
import Derived.Test.YtihgcjagokippaaHSx0
import Derived.Test.YtihgcjagokippaaHSx1
import Derived.Test.YtihgcjagokippaaHSx5
import Derived.Test.YtihgcjagokippaaHSx7
import Derived.Test.YtihgcjagokippaaMini
namespace Go.Proofs.Ytihgcjagokippaa.HS
open Go.RowKit Go.Proofs.YtihgcjagokippaaW.PrintWords Go.Proofs.YtihgcjagokippaaW.PrintLast Go.Proofs.YtihgcjagokippaaW.PrintMore
attribute [local go_sem] max2_int min2_int max_two min_two max_three min_three max_four min_four   -- for this text's walks alone
open Go.Proofs.Ytihgcjagokippaa.Sp
attribute [local go_sem] Go.Proofs.Ytihgcjagokippaa.Sp.u64_not
set_option linter.unusedVariables false
set_option linter.unusedSimpArgs false

/-! ### thrumlaw15_liveP: function 4 -/
def thrumlaw15_liveP.f  : Option (Bool) := (soft_Tell.f 2 (([0, 0, 0, 0] : List Int)) (([5] : List Int)) 4).bind fun bt228 => ((soft_Grad.f 2 (([0, 0, 0, 0] : List Int)) 4 (([(⟨(([16] : List Int)), 1⟩ : S24)] : List (S24)))).bind fun bt241 => (if bt228.2 = 0 then ((thrumref02_Same.f bt228.1 (([8, 8] : List Int))).bind fun t248 => (if t248 = true then (if bt241.2 = 0 then ((thrumref02_Same.f bt241.1 (([8, 8, (-8), (-8)] : List Int))).bind fun t252 => (some t252)) else (some false)) else (some false))) else (some false)))
set_option maxHeartbeats 80000000 in
set_option maxRecDepth 100000 in
theorem thrumlaw15_liveP.calls  (r : Bool) (w : World) (h : thrumlaw15_liveP.f  = some r) (hr_ : r = true) :
  Calls Try.prog 4 #[] w fun e w' => e = .returned (.bool r) ∧ Below w.heap.size w w' := by
 have HR_ := ZM hr_
 clear hr_
 have hu24 := Try.underlying24
 have HB := ZM (Below.refl w.heap.size w)
 have H : ((soft_Tell.f 2 (([0, 0, 0, 0] : List Int)) (([5] : List Int)) 4).bind fun bt228 => ((soft_Grad.f 2 (([0, 0, 0, 0] : List Int)) 4 (([(⟨(([16] : List Int)), 1⟩ : S24)] : List (S24)))).bind fun bt241 => (if bt228.2 = 0 then ((thrumref02_Same.f bt228.1 (([8, 8] : List Int))).bind fun t248 => (if t248 = true then (if bt241.2 = 0 then ((thrumref02_Same.f bt241.1 (([8, 8, (-8), (-8)] : List Int))).bind fun t252 => (some t252)) else (some false)) else (some false))) else (some false)))) = some r := h
 clear h
 obtain ⟨y222, hy222⟩ : ∃ y_ : List Int, y_ = (([0, 0, 0, 0] : List Int)) := ⟨_, rfl⟩
 replace H : ((soft_Tell.f 2 y222 (([5] : List Int)) 4).bind fun bt228 => ((soft_Grad.f 2 (([0, 0, 0, 0] : List Int)) 4 (([(⟨(([16] : List Int)), 1⟩ : S24)] : List (S24)))).bind fun bt241 => (if bt228.2 = 0 then ((thrumref02_Same.f bt228.1 (([8, 8] : List Int))).bind fun t248 => (if t248 = true then (if bt241.2 = 0 then ((thrumref02_Same.f bt241.1 (([8, 8, (-8), (-8)] : List Int))).bind fun t252 => (some t252)) else (some false)) else (some false))) else (some false)))) = some r := by first | (rw [hy222]; with_reducible exact H) | (have H2_ := (Option.bind_some _ _).symm.trans H; rw [hy222]; with_reducible exact H2_) | (have H2_ := (Option.bind_some _ _).symm.trans H; with_reducible exact H2_) | with_reducible exact H | (rw [hy222]; exact H) | exact H
 have Ny222 := ZM hy222
 clear hy222
 obtain ⟨y225, hy225⟩ : ∃ y_ : List Int, y_ = (([5] : List Int)) := ⟨_, rfl⟩
 replace H : ((soft_Tell.f 2 y222 y225 4).bind fun bt228 => ((soft_Grad.f 2 (([0, 0, 0, 0] : List Int)) 4 (([(⟨(([16] : List Int)), 1⟩ : S24)] : List (S24)))).bind fun bt241 => (if bt228.2 = 0 then ((thrumref02_Same.f bt228.1 (([8, 8] : List Int))).bind fun t248 => (if t248 = true then (if bt241.2 = 0 then ((thrumref02_Same.f bt241.1 (([8, 8, (-8), (-8)] : List Int))).bind fun t252 => (some t252)) else (some false)) else (some false))) else (some false)))) = some r := by first | (rw [hy225]; with_reducible exact H) | (have H2_ := (Option.bind_some _ _).symm.trans H; rw [hy225]; with_reducible exact H2_) | (have H2_ := (Option.bind_some _ _).symm.trans H; with_reducible exact H2_) | with_reducible exact H | (rw [hy225]; exact H) | exact H
 have Ny225 := ZM hy225
 clear hy225
 replace H := Option.bind_eq_some_iff.mp H
 obtain ⟨⟨t228, t229⟩, A10, H⟩ := H
 replace H : ((soft_Grad.f 2 (([0, 0, 0, 0] : List Int)) 4 (([(⟨(([16] : List Int)), 1⟩ : S24)] : List (S24)))).bind fun bt241 => (if t229 = 0 then ((thrumref02_Same.f t228 (([8, 8] : List Int))).bind fun t248 => (if t248 = true then (if bt241.2 = 0 then ((thrumref02_Same.f bt241.1 (([8, 8, (-8), (-8)] : List Int))).bind fun t252 => (some t252)) else (some false)) else (some false))) else (some false))) = some r := H
 have A1 := ZM A10
 clear A10
 obtain ⟨y232, hy232⟩ : ∃ y_ : List Int, y_ = (([0, 0, 0, 0] : List Int)) := ⟨_, rfl⟩
 replace H : ((soft_Grad.f 2 y232 4 (([(⟨(([16] : List Int)), 1⟩ : S24)] : List (S24)))).bind fun bt241 => (if t229 = 0 then ((thrumref02_Same.f t228 (([8, 8] : List Int))).bind fun t248 => (if t248 = true then (if bt241.2 = 0 then ((thrumref02_Same.f bt241.1 (([8, 8, (-8), (-8)] : List Int))).bind fun t252 => (some t252)) else (some false)) else (some false))) else (some false))) = some r := by first | (rw [hy232]; with_reducible exact H) | (have H2_ := (Option.bind_some _ _).symm.trans H; rw [hy232]; with_reducible exact H2_) | (have H2_ := (Option.bind_some _ _).symm.trans H; with_reducible exact H2_) | with_reducible exact H | (rw [hy232]; exact H) | exact H
 have Ny232 := ZM hy232
 clear hy232
 obtain ⟨y235, hy235⟩ : ∃ y_ : List Int, y_ = (([16] : List Int)) := ⟨_, rfl⟩
 replace H : ((soft_Grad.f 2 y232 4 (([(⟨y235, 1⟩ : S24)] : List (S24)))).bind fun bt241 => (if t229 = 0 then ((thrumref02_Same.f t228 (([8, 8] : List Int))).bind fun t248 => (if t248 = true then (if bt241.2 = 0 then ((thrumref02_Same.f bt241.1 (([8, 8, (-8), (-8)] : List Int))).bind fun t252 => (some t252)) else (some false)) else (some false))) else (some false))) = some r := by first | (rw [hy235]; with_reducible exact H) | (have H2_ := (Option.bind_some _ _).symm.trans H; rw [hy235]; with_reducible exact H2_) | (have H2_ := (Option.bind_some _ _).symm.trans H; with_reducible exact H2_) | with_reducible exact H | (rw [hy235]; exact H) | exact H
 have Ny235 := ZM hy235
 clear hy235
 obtain ⟨y238, hy238⟩ : ∃ y_ : List (S24), y_ = (([(⟨y235, 1⟩ : S24)] : List (S24))) := ⟨_, rfl⟩
 replace H : ((soft_Grad.f 2 y232 4 y238).bind fun bt241 => (if t229 = 0 then ((thrumref02_Same.f t228 (([8, 8] : List Int))).bind fun t248 => (if t248 = true then (if bt241.2 = 0 then ((thrumref02_Same.f bt241.1 (([8, 8, (-8), (-8)] : List Int))).bind fun t252 => (some t252)) else (some false)) else (some false))) else (some false))) = some r := by first | (rw [hy238]; with_reducible exact H) | (have H2_ := (Option.bind_some _ _).symm.trans H; rw [hy238]; with_reducible exact H2_) | (have H2_ := (Option.bind_some _ _).symm.trans H; with_reducible exact H2_) | with_reducible exact H | (rw [hy238]; exact H) | exact H
 have Ny238 := ZM hy238
 clear hy238
 replace H := Option.bind_eq_some_iff.mp H
 obtain ⟨⟨t241, t242⟩, A20, H⟩ := H
 replace H : (if t229 = 0 then ((thrumref02_Same.f t228 (([8, 8] : List Int))).bind fun t248 => (if t248 = true then (if t242 = 0 then ((thrumref02_Same.f t241 (([8, 8, (-8), (-8)] : List Int))).bind fun t252 => (some t252)) else (some false)) else (some false))) else (some false)) = some r := H
 have A2 := ZM A20
 clear A20
 by_cases c3 : t229 = 0
 case neg =>
  rw [if_neg c3] at H
  exact absurd (Option.some.inj H) Z40
 rw [if_pos c3] at H
 have c3b0 : (t229 == 0) = true := beq_iff_eq.mpr c3
 have c3b1 : (t229 != 0) = false := bne_eq_false_iff_eq.mpr c3
 clear c3
 obtain ⟨y245, hy245⟩ : ∃ y_ : List Int, y_ = (([8, 8] : List Int)) := ⟨_, rfl⟩
 replace H : ((thrumref02_Same.f t228 y245).bind fun t248 => (if t248 = true then (if t242 = 0 then ((thrumref02_Same.f t241 (([8, 8, (-8), (-8)] : List Int))).bind fun t252 => (some t252)) else (some false)) else (some false))) = some r := by first | (rw [hy245]; with_reducible exact H) | (have H2_ := (Option.bind_some _ _).symm.trans H; rw [hy245]; with_reducible exact H2_) | (have H2_ := (Option.bind_some _ _).symm.trans H; with_reducible exact H2_) | with_reducible exact H | (rw [hy245]; exact H) | exact H
 have Ny245 := ZM hy245
 clear hy245
 replace H := Option.bind_eq_some_iff.mp H
 obtain ⟨t248, A40, H⟩ := H
 replace H : (if t248 = true then (if t242 = 0 then ((thrumref02_Same.f t241 (([8, 8, (-8), (-8)] : List Int))).bind fun t252 => (some t252)) else (some false)) else (some false)) = some r := H
 have A4 := ZM A40
 clear A40
 by_cases c5 : t248 = true
 case neg =>
  replace c5 := Bool.eq_false_iff.mpr c5
  subst c5
  have H1 : (some false) = some r := by rw [if_neg (show ¬ (false = true) by decide)] at H; exact H
  exact absurd (Option.some.inj H1) Z40
 subst c5
 have H1 : (if t242 = 0 then ((thrumref02_Same.f t241 (([8, 8, (-8), (-8)] : List Int))).bind fun t252 => (some t252)) else (some false)) = some r := by rw [if_pos rfl] at H; exact H
 clear H
 have H := H1
 clear H1
 by_cases c6 : t242 = 0
 case neg =>
  rw [if_neg c6] at H
  exact absurd (Option.some.inj H) Z40
 rw [if_pos c6] at H
 have c6b0 : (t242 == 0) = true := beq_iff_eq.mpr c6
 have c6b1 : (t242 != 0) = false := bne_eq_false_iff_eq.mpr c6
 clear c6
 obtain ⟨y249, hy249⟩ : ∃ y_ : List Int, y_ = (([8, 8, (-8), (-8)] : List Int)) := ⟨_, rfl⟩
 replace H : ((thrumref02_Same.f t241 y249).bind fun t252 => (some t252)) = some r := by first | (rw [hy249]; with_reducible exact H) | (have H2_ := (Option.bind_some _ _).symm.trans H; rw [hy249]; with_reducible exact H2_) | (have H2_ := (Option.bind_some _ _).symm.trans H; with_reducible exact H2_) | with_reducible exact H | (rw [hy249]; exact H) | exact H
 have Ny249 := ZM hy249
 clear hy249
 replace H := Option.bind_eq_some_iff.mp H
 obtain ⟨t252, A70, H⟩ := H
 replace H : (some t252) = some r := H
 have A7 := ZM A70
 clear A70
 obtain rfl := Option.some.inj H
 go_enter Try.func4, Try.ntmps4
 go_wp2_with (first | ((with_reducible refine gate_dst (N := 6) rfl ?_); (try (refine gate_guard (by rfl) ?_; dsimp only)); refine Kd.R_lit (Kd.int .i64) _ 2 ?hg (N := 6) ?hd (xs := ([0, 0, 0, 0] : List Int)) (inner := [.int .i64 0, .int .i64 0, .int .i64 0, .int .i64 0]) (ok := fun _ => True) (okp := fun _ => True) ?hr ?hp (fun _ hk => hk) trivial (Below.refl _ _) (Nat.le_refl _) (by simp) ?_; (case hd => rfl); (case hg => rfl); (case hr => exact Z10); (case hp => exact (Reps.one (show Kd.M (Kd.int .i64) _ _ _ 0 [.int .i64 0] from rfl) (Reps.one (show Kd.M (Kd.int .i64) _ _ _ 0 [.int .i64 0] from rfl) (Reps.one (show Kd.M (Kd.int .i64) _ _ _ 0 [.int .i64 0] from rfl) (Reps.one (show Kd.M (Kd.int .i64) _ _ _ 0 [.int .i64 0] from rfl) (Reps.none _ _)))))); intro v223 w8 ho9 hb hg_ hnew_; clear hg_ hnew_; (first | rw [← Ny222.out] at ho9 | (simp only [Int.reduceToNat] at ho9; rw [← Ny222.out] at ho9)); have HO224 := ZM (Kd.R_lower ho9 (zzS Z1)); replace HB := ZM (zzT Z1 hb); clear hb ho9) | ((with_reducible refine gate_dst (N := 7) rfl ?_); (try (refine gate_guard (by rfl) ?_; dsimp only)); refine Kd.R_lit (Kd.int .i64) _ 2 ?hg (N := 7) ?hd (xs := ([5] : List Int)) (inner := [.int .i64 5]) (ok := fun _ => True) (okp := fun _ => True) ?hr ?hp (fun _ hk => hk) trivial (Below.refl _ _) (Nat.le_refl _) (by simp) ?_; (case hd => rfl); (case hg => rfl); (case hr => exact Z10); (case hp => exact (Reps.one (show Kd.M (Kd.int .i64) _ _ _ 5 [.int .i64 5] from rfl) (Reps.none _ _))); intro v226 w10 ho11 hb hg_ hnew_; clear hg_ hnew_; (first | rw [← Ny225.out] at ho11 | (simp only [Int.reduceToNat] at ho11; rw [← Ny225.out] at ho11)); have n0_ := ZM (Kd.R_elder' (Zr HO224) (Kd.R_base ho11) hb); have n1_ := ZM (Kd.R_lower (Kd.R_new' ho11 (Kd.R_lt (Zr HO224))) (zzS Z1)); have n2_ := ZM (zzT Z1 hb); clear HO224; clear HB; have HO224 := n0_; have HO227 := n1_; have HB := n2_; clear n0_ n1_ n2_; clear hb ho11; obtain ⟨Ao12, co12, eo12⟩ := Kd.R_slice HO224.out; subst eo12; obtain ⟨Ao13, co13, eo13⟩ := Kd.R_slice HO227.out; subst eo13) | ((with_reducible refine gate_callee (f := 6) rfl ?_); refine goesL_ (some 8) rfl rfl Try.func6 (by kernel_rfl) rfl #[.int .i64 2, .slice Ao12 y222.length co12, .slice Ao13 y225.length co13, .int .i64 4] rfl Z2 ?_; (with_reducible refine (soft_Tell.calls 2 _ _ y222 _ _ y225 4 t228 t229 _ ?side1 ?side2 ?side3 ?side4 A1.out).mono ?_); (case side1 => repeat (first | exact (Kd.R_reads' HO224.out).2.2 | (with_reducible refine ccA ?_ _) | (with_reducible refine ccN ?_ _) | (with_reducible refine ccD ?_))); (case side2 => exact (Kd.R_reads' HO224.out).2.1); (case side3 => repeat (first | exact (Kd.R_reads' HO227.out).2.2 | (with_reducible refine ccA ?_ _) | (with_reducible refine ccN ?_ _) | (with_reducible refine ccD ?_))); (case side4 => exact (Kd.R_reads' HO227.out).2.1); rintro e w14 ⟨v230, rfl, ho0, hb⟩; refine ⟨_, rfl, ?_⟩; have n0_ := ZM (Kd.R_elder' (Zr HO224) (Kd.R_base ho0) hb); have n1_ := ZM (Kd.R_elder' (Zr HO227) (Kd.R_base ho0) hb); have n2_ := ZM (Kd.R_lower (Kd.R_new' (Kd.R_new' ho0 (Kd.R_lt (Zr HO224))) (Kd.R_lt (Zr HO227))) (zzS Z1)); have n3_ := ZM (zzT Z1 hb); clear HO224; clear HO227; clear HB; have HO224 := n0_; have HO227 := n1_; have HO231 := n2_; have HB := n3_; clear n0_ n1_ n2_ n3_; (try clear hb); (try clear hb2); (try clear hk); (try clear hi); (try clear ho0)) | ((with_reducible refine gate_dst (N := 12) rfl ?_); (try (refine gate_guard (by rfl) ?_; dsimp only)); refine Kd.R_lit (Kd.int .i64) _ 2 ?hg (N := 12) ?hd (xs := ([0, 0, 0, 0] : List Int)) (inner := [.int .i64 0, .int .i64 0, .int .i64 0, .int .i64 0]) (ok := fun _ => True) (okp := fun _ => True) ?hr ?hp (fun _ hk => hk) trivial (Below.refl _ _) (Nat.le_refl _) (by simp) ?_; (case hd => rfl); (case hg => rfl); (case hr => exact Z10); (case hp => exact (Reps.one (show Kd.M (Kd.int .i64) _ _ _ 0 [.int .i64 0] from rfl) (Reps.one (show Kd.M (Kd.int .i64) _ _ _ 0 [.int .i64 0] from rfl) (Reps.one (show Kd.M (Kd.int .i64) _ _ _ 0 [.int .i64 0] from rfl) (Reps.one (show Kd.M (Kd.int .i64) _ _ _ 0 [.int .i64 0] from rfl) (Reps.none _ _)))))); intro v233 w15 ho16 hb hg_ hnew_; clear hg_ hnew_; (first | rw [← Ny232.out] at ho16 | (simp only [Int.reduceToNat] at ho16; rw [← Ny232.out] at ho16)); have n0_ := ZM (Kd.R_elder' (Zr HO224) (Kd.R_base ho16) hb); have n1_ := ZM (Kd.R_elder' (Zr HO227) (Kd.R_base ho16) hb); have n2_ := ZM (Kd.R_elder' (Zr HO231) (Kd.R_base ho16) hb); have n3_ := ZM (Kd.R_lower (Kd.R_new' (Kd.R_new' (Kd.R_new' ho16 (Kd.R_lt (Zr HO224))) (Kd.R_lt (Zr HO227))) (Kd.R_lt (Zr HO231))) (zzS Z1)); have n4_ := ZM (zzT Z1 hb); clear HO224; clear HO227; clear HO231; clear HB; have HO224 := n0_; have HO227 := n1_; have HO231 := n2_; have HO234 := n3_; have HB := n4_; clear n0_ n1_ n2_ n3_ n4_; clear hb ho16) | ((with_reducible refine gate_dst (N := 13) rfl ?_); (try (refine gate_guard (by rfl) ?_; dsimp only)); refine Kd.R_lit (Kd.int .i64) _ 2 ?hg (N := 13) ?hd (xs := ([16] : List Int)) (inner := [.int .i64 16]) (ok := fun _ => True) (okp := fun _ => True) ?hr ?hp (fun _ hk => hk) trivial (Below.refl _ _) (Nat.le_refl _) (by simp) ?_; (case hd => rfl); (case hg => rfl); (case hr => exact Z10); (case hp => exact (Reps.one (show Kd.M (Kd.int .i64) _ _ _ 16 [.int .i64 16] from rfl) (Reps.none _ _))); intro v236 w17 ho18 hb hg_ hnew_; clear hg_ hnew_; (first | rw [← Ny235.out] at ho18 | (simp only [Int.reduceToNat] at ho18; rw [← Ny235.out] at ho18)); have n0_ := ZM (Kd.R_elder' (Zr HO224) (Kd.R_base ho18) hb); have n1_ := ZM (Kd.R_elder' (Zr HO227) (Kd.R_base ho18) hb); have n2_ := ZM (Kd.R_elder' (Zr HO231) (Kd.R_base ho18) hb); have n3_ := ZM (Kd.R_elder' (Zr HO234) (Kd.R_base ho18) hb); have n4_ := ZM (Kd.R_lower (Kd.R_new' (Kd.R_new' (Kd.R_new' (Kd.R_new' ho18 (Kd.R_lt (Zr HO224))) (Kd.R_lt (Zr HO227))) (Kd.R_lt (Zr HO231))) (Kd.R_lt (Zr HO234))) (zzS Z1)); have n5_ := ZM (zzT Z1 hb); clear HO224; clear HO227; clear HO231; clear HO234; clear HB; have HO224 := n0_; have HO227 := n1_; have HO231 := n2_; have HO234 := n3_; have HO237 := n4_; have HB := n5_; clear n0_ n1_ n2_ n3_ n4_ n5_; clear hb ho18; obtain ⟨Ao19, co19, eo19⟩ := Kd.R_slice HO237.out; subst eo19) | ((with_reducible refine gate_dst (N := 15) rfl ?_); (try (refine gate_guard (by rfl) ?_; dsimp only)); refine Kd.N_lit k24 _ 24 ?hg (N' := 15) ?hd (xs := ([(⟨y235, 1⟩ : S24)] : List (S24))) (inner := [.slice Ao19 y235.length co19, .int .i64 1]) (ok := (fun k_ => some k_ ≠ (.slice Ao12 y222.length co12 : Value).ownBlock ∧ some k_ ≠ (.slice Ao13 y225.length co13 : Value).ownBlock ∧ some k_ ≠ (v230 : Value).ownBlock ∧ some k_ ≠ (v233 : Value).ownBlock)) (okp := (fun k_ => some k_ ≠ (.slice Ao12 y222.length co12 : Value).ownBlock ∧ some k_ ≠ (.slice Ao13 y225.length co13 : Value).ownBlock ∧ some k_ ≠ (v230 : Value).ownBlock ∧ some k_ ≠ (v233 : Value).ownBlock)) ?hr ?hp (fun _ hk => hk) ((show ∀ k_, w17.heap.size ≤ k_ → (fun k_ => some k_ ≠ (.slice Ao12 y222.length co12 : Value).ownBlock ∧ some k_ ≠ (.slice Ao13 y225.length co13 : Value).ownBlock ∧ some k_ ≠ (v230 : Value).ownBlock ∧ some k_ ≠ (v233 : Value).ownBlock) k_ from fun k_ hk => ⟨Kd.fresh' (Kd.R_lt (Zr HO224)) k_ hk, Kd.fresh' (Kd.R_lt (Zr HO227)) k_ hk, Kd.fresh' (Kd.R_lt (Zr HO231)) k_ hk, Kd.fresh' (Kd.R_lt (Zr HO234)) k_ hk⟩) _ (Nat.le_refl _)) (Below.refl _ _) (Nat.le_refl _) (by simp) ?_; (case hd => rfl); (case hg => rfl); (case hr => exact Z10); (case hp => exact (Reps.c2 (show Kd.FK k24 _ _ (⟨y235, 1⟩ : S24) [.slice Ao19 y235.length co19, .int .i64 1] from (k24_mkF _ _ (⟨y235, 1⟩ : S24) (Kd.R_reads' (Kd.R_mono (ok' := (fun k_ => some k_ ≠ (.slice Ao12 y222.length co12 : Value).ownBlock ∧ some k_ ≠ (.slice Ao13 y225.length co13 : Value).ownBlock ∧ some k_ ≠ (v230 : Value).ownBlock ∧ some k_ ≠ (v233 : Value).ownBlock)) (HO237.out) (fun k_ hk => ⟨hk.1.1.1.2, ⟨hk.1.1.2, ⟨hk.1.2, hk.2⟩⟩⟩))).2.1 (Kd.R_F (Kd.R_mono (ok' := (fun k_ => some k_ ≠ (.slice Ao12 y222.length co12 : Value).ownBlock ∧ some k_ ≠ (.slice Ao13 y225.length co13 : Value).ownBlock ∧ some k_ ≠ (v230 : Value).ownBlock ∧ some k_ ≠ (v233 : Value).ownBlock)) (HO237.out) (fun k_ hk => ⟨hk.1.1.1.2, ⟨hk.1.1.2, ⟨hk.1.2, hk.2⟩⟩⟩))))) (Reps.none _ _))); intro v239 w20 ho21 hb hg_ hnew_; clear hg_ hnew_; (first | rw [← Ny238.out] at ho21 | (simp only [Int.reduceToNat] at ho21; rw [← Ny238.out] at ho21)); replace HO224 := ZM (Kd.R_below (Zr HO224) hb); replace HO227 := ZM (Kd.R_below (Zr HO227) hb); replace HO231 := ZM (Kd.R_below (Zr HO231) hb); replace HO234 := ZM (Kd.R_below (Zr HO234) hb); have HO240 := ZM (Kd.N_lower ho21 (zzS Z1)); replace HB := ZM (zzT Z1 hb); clear HO237; clear hb ho21; obtain ⟨Ao22, co22, eo22⟩ := Kd.R_slice HO234.out; subst eo22; obtain ⟨Ao23, co23, eo23⟩ := Kd.N_slice HO240.out; subst eo23) | ((with_reducible refine gate_callee (f := 20) rfl ?_); refine goesL_ (some 16) rfl rfl Try.func20 (by kernel_rfl) rfl #[.int .i64 2, .slice Ao22 y232.length co22, .int .i64 4, .slice Ao23 y238.length co23] rfl Z2 ?_; (with_reducible refine (soft_Grad.calls 2 _ _ y232 4 _ _ y238 t241 t242 _ ?side1 ?side2 ?side3 ?side4 A2.out).mono ?_); (case side1 => repeat (first | exact (Kd.R_reads' HO234.out).2.2 | (with_reducible refine ccA ?_ _) | (with_reducible refine ccN ?_ _) | (with_reducible refine ccD ?_))); (case side2 => exact (Kd.R_reads' HO234.out).2.1); (case side3 => repeat (first | exact (Kd.N_reads' HO240.out).2.2 | (with_reducible refine ccA ?_ _) | (with_reducible refine ccN ?_ _) | (with_reducible refine ccD ?_))); (case side4 => exact (Kd.N_reads' HO240.out).2.1); rintro e w24 ⟨v243, rfl, ho0, hb⟩; refine ⟨_, rfl, ?_⟩; have n0_ := ZM (Kd.R_elder' (Zr HO224) (Kd.R_base ho0) hb); have n1_ := ZM (Kd.R_elder' (Zr HO227) (Kd.R_base ho0) hb); have n2_ := ZM (Kd.R_elder' (Zr HO231) (Kd.R_base ho0) hb); have n3_ := ZM (Kd.R_elder' (Zr HO234) (Kd.R_base ho0) hb); have n4_ := ZM (Kd.N_elder' Z43 (Kd.R_base ho0) hb); have n5_ := ZM (Kd.R_lower (Kd.R_new' (Kd.R_new' (Kd.R_new' (Kd.R_new' ho0 (Kd.R_lt (Zr HO224))) (Kd.R_lt (Zr HO227))) (Kd.R_lt (Zr HO231))) (Kd.R_lt (Zr HO234))) (zzS Z1)); have n6_ := ZM (zzT Z1 hb); clear HO224; clear HO227; clear HO231; clear HO234; clear HO240; clear HB; have HO224 := n0_; have HO227 := n1_; have HO231 := n2_; have HO234 := n3_; have HO240 := n4_; have HO244 := n5_; have HB := n6_; clear n0_ n1_ n2_ n3_ n4_ n5_ n6_; (try clear hb); (try clear hb2); (try clear hk); (try clear hi); (try clear ho0)) | ((with_reducible refine gate_dst (N := 23) rfl ?_); (try (refine gate_guard (by rfl) ?_; dsimp only)); refine Kd.R_lit (Kd.int .i64) _ 2 ?hg (N := 23) ?hd (xs := ([8, 8] : List Int)) (inner := [.int .i64 8, .int .i64 8]) (ok := fun _ => True) (okp := fun _ => True) ?hr ?hp (fun _ hk => hk) trivial (Below.refl _ _) (Nat.le_refl _) (by simp) ?_; (case hd => rfl); (case hg => rfl); (case hr => exact Z10); (case hp => exact (Reps.one (show Kd.M (Kd.int .i64) _ _ _ 8 [.int .i64 8] from rfl) (Reps.one (show Kd.M (Kd.int .i64) _ _ _ 8 [.int .i64 8] from rfl) (Reps.none _ _)))); intro v246 w25 ho26 hb hg_ hnew_; clear hg_ hnew_; (first | rw [← Ny245.out] at ho26 | (simp only [Int.reduceToNat] at ho26; rw [← Ny245.out] at ho26)); have n0_ := ZM (Kd.R_elder' (Zr HO224) (Kd.R_base ho26) hb); have n1_ := ZM (Kd.R_elder' (Zr HO227) (Kd.R_base ho26) hb); have n2_ := ZM (Kd.R_elder' (Zr HO231) (Kd.R_base ho26) hb); have n3_ := ZM (Kd.R_elder' (Zr HO234) (Kd.R_base ho26) hb); have n4_ := ZM (Kd.N_elder' Z43 (Kd.R_base ho26) hb); have n5_ := ZM (Kd.R_elder' (Zr HO244) (Kd.R_base ho26) hb); have n6_ := ZM (Kd.R_lower (Kd.R_new' (Kd.R_new' (Kd.R_new' (Kd.R_new' (Kd.R_new' ho26 (Kd.R_lt (Zr HO224))) (Kd.R_lt (Zr HO227))) (Kd.R_lt (Zr HO231))) (Kd.R_lt (Zr HO234))) (Kd.R_lt (Zr HO244))) (zzS Z1)); have n7_ := ZM (zzT Z1 hb); clear HO224; clear HO227; clear HO231; clear HO234; clear HO240; clear HO244; clear HB; have HO224 := n0_; have HO227 := n1_; have HO231 := n2_; have HO234 := n3_; have HO240 := n4_; have HO244 := n5_; have HO247 := n6_; have HB := n7_; clear n0_ n1_ n2_ n3_ n4_ n5_ n6_ n7_; clear hb ho26; obtain ⟨Ao27, co27, eo27⟩ := Kd.R_slice HO231.out; subst eo27; obtain ⟨Ao28, co28, eo28⟩ := Kd.R_slice HO247.out; subst eo28) | (go_at_call 16; (with_reducible refine (thrumref02_Same.calls _ _ t228 _ _ y245 true _ ?side1 ?side2 ?side3 ?side4 A4.out).mono ?_); (case side1 => repeat (first | exact (Kd.R_reads' HO231.out).2.2 | (with_reducible refine ccA ?_ _) | (with_reducible refine ccN ?_ _) | (with_reducible refine ccD ?_))); (case side2 => exact (Kd.R_reads' HO231.out).2.1); (case side3 => repeat (first | exact (Kd.R_reads' HO247.out).2.2 | (with_reducible refine ccA ?_ _) | (with_reducible refine ccN ?_ _) | (with_reducible refine ccD ?_))); (case side4 => exact (Kd.R_reads' HO247.out).2.1); rintro e w' ⟨rfl, ⟨nd, rfl⟩⟩) | ((with_reducible refine gate_dst (N := 32) rfl ?_); (try (refine gate_guard (by rfl) ?_; dsimp only)); refine Kd.R_lit (Kd.int .i64) _ 2 ?hg (N := 32) ?hd (xs := ([8, 8, (-8), (-8)] : List Int)) (inner := [.int .i64 8, .int .i64 8, .int .i64 (-8), .int .i64 (-8)]) (ok := fun _ => True) (okp := fun _ => True) ?hr ?hp (fun _ hk => hk) trivial (Below.refl _ _) (Nat.le_refl _) (by simp) ?_; (case hd => rfl); (case hg => rfl); (case hr => exact Z10); (case hp => exact (Reps.one (show Kd.M (Kd.int .i64) _ _ _ 8 [.int .i64 8] from rfl) (Reps.one (show Kd.M (Kd.int .i64) _ _ _ 8 [.int .i64 8] from rfl) (Reps.one (show Kd.M (Kd.int .i64) _ _ _ (-8) [.int .i64 (-8)] from rfl) (Reps.one (show Kd.M (Kd.int .i64) _ _ _ (-8) [.int .i64 (-8)] from rfl) (Reps.none _ _)))))); intro v250 w29 ho30 hb hg_ hnew_; clear hg_ hnew_; (first | rw [← Ny249.out] at ho30 | (simp only [Int.reduceToNat] at ho30; rw [← Ny249.out] at ho30)); have n0_ := ZM (Kd.R_elder' (Zr HO224) (Kd.R_base ho30) hb); have n1_ := ZM (Kd.R_elder' (Zr HO227) (Kd.R_base ho30) hb); have n2_ := ZM (Kd.R_elder' (Zr HO231) (Kd.R_base ho30) hb); have n3_ := ZM (Kd.R_elder' (Zr HO234) (Kd.R_base ho30) hb); have n4_ := ZM (Kd.N_elder' Z43 (Kd.R_base ho30) hb); have n5_ := ZM (Kd.R_elder' (Zr HO244) (Kd.R_base ho30) hb); have n6_ := ZM (Kd.R_elder' (Zr HO247) (Kd.R_base ho30) hb); have n7_ := ZM (Kd.R_lower (Kd.R_new' (Kd.R_new' (Kd.R_new' (Kd.R_new' (Kd.R_new' (Kd.R_new' ho30 (Kd.R_lt (Zr HO224))) (Kd.R_lt (Zr HO227))) (Kd.R_lt (Zr HO231))) (Kd.R_lt (Zr HO234))) (Kd.R_lt (Zr HO244))) (Kd.R_lt (Zr HO247))) (zzS Z1)); have n8_ := ZM (zzT Z1 hb); clear HO224; clear HO227; clear HO231; clear HO234; clear HO240; clear HO244; clear HO247; clear HB; have HO224 := n0_; have HO227 := n1_; have HO231 := n2_; have HO234 := n3_; have HO240 := n4_; have HO244 := n5_; have HO247 := n6_; have HO251 := n7_; have HB := n8_; clear n0_ n1_ n2_ n3_ n4_ n5_ n6_ n7_ n8_; clear hb ho30; obtain ⟨Ao31, co31, eo31⟩ := Kd.R_slice HO244.out; subst eo31; obtain ⟨Ao32, co32, eo32⟩ := Kd.R_slice HO251.out; subst eo32) | (go_at_call 16; (with_reducible refine (thrumref02_Same.calls _ _ t241 _ _ y249 t252 _ ?side1 ?side2 ?side3 ?side4 A7.out).mono ?_); (case side1 => repeat (first | exact (Kd.R_reads' HO244.out).2.2 | (with_reducible refine ccA ?_ _) | (with_reducible refine ccN ?_ _) | (with_reducible refine ccD ?_))); (case side2 => exact (Kd.R_reads' HO244.out).2.1); (case side3 => repeat (first | exact (Kd.R_reads' HO251.out).2.2 | (with_reducible refine ccA ?_ _) | (with_reducible refine ccN ?_ _) | (with_reducible refine ccD ?_))); (case side4 => exact (Kd.R_reads' HO251.out).2.1); rintro e w' ⟨rfl, ⟨nd, rfl⟩⟩))
 go_ret
 exact ⟨by first | rfl | (simp [errW_none, errW_some] <;> rfl) | (simp [*, errW_none, errW_some] <;> rfl), by repeat (first | (with_reducible first | exact HB.out | apply zzA | apply zzN | apply zzD) | exact HB.out)⟩
def thrumlaw15_live.f : Option Bool := some true
theorem thrumlaw15_live.calls  (r : Bool) (w : World) (h : thrumlaw15_live.f  = some r) :
    Calls Try.prog 4 #[] w fun e w' => e = .returned (.bool r) ∧ Below w.heap.size w w' := by
  have hr : r = true := (Option.some.inj h).symm
  refine thrumlaw15_liveP.calls r w (Eq.trans ?_ h) hr
  unfold thrumlaw15_liveP.f thrumlaw15_live.f
  rw [soft_Tell.of _ _ _ _ (by decide +kernel), show tellS 2 [0, 0, 0, 0] [5] 4 = ([8, 8], 0) by decide +kernel]
  simp only [Option.bind_some]
  rw [soft_Grad.of _ _ _ _ ⟨by decide +kernel, (by intro s hs; cases List.mem_singleton.1 hs; exact ⟨by decide +kernel, by decide +kernel⟩), by decide +kernel⟩, show gradS 2 [0, 0, 0, 0] 4 ([(⟨[16], 1⟩ : S24)].map sm) = ([8, 8, -8, -8], 0) by decide +kernel]
  rfl


/-! ### thrumref14_FewP: function 5 -/
def thrumref14_FewP.l0 : Nat → List Int → List (S24) → List (S24) → Int → Int → Option (Bool)
 | 0, _, _, _, _, _ => none
 | k + 1, x0, x1, x7, x8, x9 => if x9 < x8 then (if 0 ≤ x9 then (if x9 < (x7.length : Int) then (if (((rd_T24 x7 x9).f0).length : Int) > 100 then (some false) else (thrumref14_FewP.l0 k x0 x1 x7 x8 (wrap64 (x9 + 1)))) else (none)) else (none)) else (if (x0.length : Int) ≤ 500 then (some (decide ((x1.length : Int) ≤ 100))) else (some false))
def thrumref14_FewP.f (k : Nat) (l0 : List Int) (l1 : List (S24)) : Option (Bool) := thrumref14_FewP.l0 k l0 l1 l1 (l1.length : Int) 0
theorem thrumref14_FewP.mono_l : ∀ k, (∀ y0 y1 y2 y3 y4, LeO (thrumref14_FewP.l0 k y0 y1 y2 y3 y4) (thrumref14_FewP.l0 (k + 1) y0 y1 y2 y3 y4))
 | 0 => fun _ _ _ _ _ r h => by simp [thrumref14_FewP.l0] at h
 | k + 1 => by
  have ih0 := thrumref14_FewP.mono_l k
  ·
   intro y0 y1 y2 y3 y4
   unfold thrumref14_FewP.l0
   repeat' first
   | (with_reducible exact ih0 _ _ _ _ _)
   | (with_reducible exact LeO.refl _)
   | (with_reducible exact LeO.none _)
   | (with_reducible refine LeO.ite ?_ ?_)
   | (with_reducible refine LeO.bind ?_ (fun _ => ?_))
theorem thrumref14_FewP.mono : ∀ a0 a1 k, LeO (thrumref14_FewP.f k a0 a1) (thrumref14_FewP.f (k + 1) a0 a1) := by
 intro a0 a1 k
 have ih0 := thrumref14_FewP.mono_l k
 unfold thrumref14_FewP.f
 repeat' first
   | (with_reducible exact ih0 _ _ _ _ _)
   | (with_reducible exact LeO.refl _)
   | (with_reducible exact LeO.none _)
   | (with_reducible refine LeO.ite ?_ ?_)
   | (with_reducible refine LeO.bind ?_ (fun _ => ?_))
set_option maxHeartbeats 8000000 in
set_option maxRecDepth 100000 in
theorem thrumref14_FewP.calls (k : Nat) (A0 : Option Addr) (c0 : Nat) (l0 : List Int) (A1 : Option Addr) (c1 : Nat) (l1 : List (S24)) (r : Bool) (w : World) (hr0 : Kd.C (Kd.int .i64) w A0 l0.length l0) (hc0 : l0.length ≤ c0) (hr1 : Kd.C k24 w A1 l1.length l1) (hc1 : l1.length ≤ c1) (h : thrumref14_FewP.f k l0 l1 = some r) :
  Calls Try.prog 5 #[.slice A0 l0.length c0, .slice A1 l1.length c1] w fun e w' => e = .returned (.bool r) ∧ Below w.heap.size w w' := by
 have hu24 := Try.underlying24
 have HR0 := ZM hr0
 have HC0 := ZM hc0
 clear hr0 hc0
 have HR1 := ZM hr1
 have HC1 := ZM hc1
 clear hr1 hc1
 have HB := ZM (Below.refl w.heap.size w)
 have H : (thrumref14_FewP.l0 k l0 l1 l1 (l1.length : Int) 0) = some r := h
 clear h
 have H' := ZM H
 clear H
 go_enter Try.func5, Try.ntmps5
 go_wp2
 go_loopg [9] k (fun kq v9 w' => ∃ (x9_1 : Int), v9 = .int .i64 x9_1 ∧ Aside0 (thrumref14_FewP.l0 kq l0 l1 l1 (l1.length : Int) x9_1 = some r) ∧ Aside0 (kq ≤ k) ∧ Aside0 (Below w.heap.size w w'))
 case atStart => exact ⟨(0), Z5, H', ⟨Nat.le_refl _⟩, ⟨by repeat (first | (with_reducible first | exact HB.out | apply zzA | apply zzN | apply zzD) | exact HB.out)⟩⟩
 case round =>
  clear H'
  try clear c1
  obtain ⟨x9_1, rfl, HA, HK1, HB⟩ := hrel
  cases gk with
  | zero => exact absurd HA.out (by simp [thrumref14_FewP.l0])
  | succ k1 =>
   have H := HA.out
   clear HA
   simp only [thrumref14_FewP.l0] at H
   by_cases c3 : x9_1 < (l1.length : Int)
   case neg =>
    rw [if_neg c3] at H
    have c3b0 : decide (x9_1 < (l1.length : Int)) = false := decide_eq_false c3
    clear c3
    by_cases c11 : (l0.length : Int) ≤ 500
    case neg =>
     rw [if_neg c11] at H
     have c11b0 : decide ((l0.length : Int) ≤ 500) = false := decide_eq_false c11
     have c11b1 : decide (l0.length ≤ 500) = false := decide_eq_false (by omega)
     clear c11
     obtain rfl := Option.some.inj H
     go_wp2
     go_ret
     exact ⟨by first | rfl | (simp [errW_none, errW_some] <;> rfl) | (simp [*, errW_none, errW_some] <;> rfl), by repeat (first | (with_reducible first | exact HB.out | apply zzA | apply zzN | apply zzD) | exact HB.out)⟩
    rw [if_pos c11] at H
    have c11b0 : decide ((l0.length : Int) ≤ 500) = true := decide_eq_true c11
    have c11b1 : decide (l0.length ≤ 500) = true := decide_eq_true (by omega)
    clear c11
    obtain rfl := Option.some.inj H
    go_wp2
    go_ret
    exact ⟨by first | rfl | (simp [errW_none, errW_some] <;> rfl) | (simp [*, errW_none, errW_some] <;> rfl), by repeat (first | (with_reducible first | exact HB.out | apply zzA | apply zzN | apply zzD) | exact HB.out)⟩
   rw [if_pos c3] at H
   have c3b0 : decide (x9_1 < (l1.length : Int)) = true := decide_eq_true c3
   clear c3
   by_cases c4 : 0 ≤ x9_1
   case neg =>
    rw [if_neg c4] at H
    exact absurd H (by simp)
   rw [if_pos c4] at H
   have c4b0 : decide (0 ≤ x9_1) = true := decide_eq_true c4
   clear c4
   by_cases c5 : x9_1 < (l1.length : Int)
   case neg =>
    rw [if_neg c5] at H
    exact absurd H (by simp)
   rw [if_pos c5] at H
   have c5b0 : decide (x9_1 < (l1.length : Int)) = true := decide_eq_true c5
   clear c5
   by_cases c6 : (((rd_T24 l1 x9_1).f0).length : Int) > 100
   ·
    rw [if_pos c6] at H
    have c6b0 : decide (100 < (((rd_T24 l1 x9_1).f0).length : Int)) = true := decide_eq_true c6
    have c6b1 : decide (100 < ((rd_T24 l1 x9_1).f0).length) = true := decide_eq_true (by omega)
    clear c6
    obtain rfl := Option.some.inj H
    have p253 : 0 ≤ (x9_1 : Int) := of_decide_eq_true Z3
    have q253 : x9_1 < (l1.length : Int) := of_decide_eq_true Z3
    obtain ⟨ad253, A253_0, c253_0, e253, hx253_0, hx253_1, hl253_0, hi253_0⟩ := at_T24 HR1.out x9_1 p253 q253
    cases e253
    replace hx253_0 := (HB.out.cell (World.block_lt_of_cell? w _ hx253_0)).trans hx253_0
    replace hx253_1 := (HB.out.cell (World.block_lt_of_cell? w _ hx253_1)).trans hx253_1
    have HR253_0 := ZM hi253_0
    have HC253_0 := ZM hl253_0
    clear hi253_0 hl253_0
    replace p253 := eq_true p253
    replace q253 := eq_true q253
    go_wp2_with (first | ((with_reducible refine gate_dst (N := 6) rfl ?_); (try (refine gate_guard (by rfl) ?_; dsimp only)); refine box_event ?hg (N := 6) ?hd (cs := #[.slice none 0 0, .int .i64 0]) (t := 24) ?hr ?_; (case hd => rfl); (case hg => rfl); (case hr => exact Z10); intro gb254 hg w7 hbox hb; have BK254 := ZM (hbox); have GW254 := ZM ((by rw [hg]; exact (zzS Z1) : w.heap.size ≤ gb254)); have GE254 := ZM ((by rw [hg]; exact (zzS Z1) : w.heap.size ≤ gb254)); replace HB := ZM (zzT Z1 hb); clear hb hbox hg; obtain ⟨hcz8_0, hcz8_1, hfz8_0, hfz8_1⟩ := Y2f BK254))
    go_ret
    exact ⟨by first | rfl | (simp [errW_none, errW_some] <;> rfl) | (simp [*, errW_none, errW_some] <;> rfl), by repeat (first | (with_reducible first | exact HB.out | apply zzA | apply zzN | apply zzD | refine below_set ?_ GE254.out) | exact HB.out)⟩
   rw [if_neg c6] at H
   have c6b0 : decide (100 < (((rd_T24 l1 x9_1).f0).length : Int)) = false := decide_eq_false c6
   have c6b1 : decide (100 < ((rd_T24 l1 x9_1).f0).length) = false := decide_eq_false (by omega)
   clear c6
   have H' := ZM H
   clear H
   have p253 : 0 ≤ (x9_1 : Int) := of_decide_eq_true Z3
   have q253 : x9_1 < (l1.length : Int) := of_decide_eq_true Z3
   obtain ⟨ad253, A253_0, c253_0, e253, hx253_0, hx253_1, hl253_0, hi253_0⟩ := at_T24 HR1.out x9_1 p253 q253
   cases e253
   replace hx253_0 := (HB.out.cell (World.block_lt_of_cell? w _ hx253_0)).trans hx253_0
   replace hx253_1 := (HB.out.cell (World.block_lt_of_cell? w _ hx253_1)).trans hx253_1
   have HR253_0 := ZM hi253_0
   have HC253_0 := ZM hl253_0
   clear hi253_0 hl253_0
   replace p253 := eq_true p253
   replace q253 := eq_true q253
   go_wp2_with (first | ((with_reducible refine gate_dst (N := 6) rfl ?_); (try (refine gate_guard (by rfl) ?_; dsimp only)); refine box_event ?hg (N := 6) ?hd (cs := #[.slice none 0 0, .int .i64 0]) (t := 24) ?hr ?_; (case hd => rfl); (case hg => rfl); (case hr => exact Z10); intro gb254 hg w9 hbox hb; have BK254 := ZM (hbox); have GW254 := ZM ((by rw [hg]; exact (zzS Z1) : w.heap.size ≤ gb254)); have GE254 := ZM ((by rw [hg]; exact (zzS Z1) : w.heap.size ≤ gb254)); replace HB := ZM (zzT Z1 hb); clear hb hbox hg; obtain ⟨hcz10_0, hcz10_1, hfz10_0, hfz10_1⟩ := Y2f BK254))
   go_roundg k1
   case measure => have := HK1.out; omega
   case rel => exact ⟨(wrap64 (x9_1 + 1)), Z5, H', ⟨by have := HK1.out; omega⟩, ⟨by repeat (first | (with_reducible first | exact HB.out | apply zzA | apply zzN | apply zzD | refine below_set ?_ GE254.out) | exact HB.out)⟩⟩
-- behind linear_Dim.of's words
theorem thrumref14_FewP.loop (x0 : List Int) (x1 : List S24) (hb : x1.length ≤ 9223372036854775807) : ∀ (d i : Nat), d + i = x1.length →
    thrumref14_FewP.l0 (d + 1) x0 x1 x1 (x1.length : Int) (i : Int) = some (decide ((∀ s ∈ x1.drop i, s.f0.length ≤ 100) ∧ x0.length ≤ 500 ∧ x1.length ≤ 100)) := by
  intro d
  induction d with
  | zero =>
    intro i hd
    rw [thrumref14_FewP.l0, if_neg (by omega), List.drop_eq_nil_of_le (by omega)]
    by_cases c : (x0.length : Int) ≤ 500
    · rw [if_pos c]; congr 1; exact decide_eq_decide.2 ⟨fun h => ⟨by simp, by omega, by omega⟩, fun h => by omega⟩
    · rw [if_neg c, decide_eq_false (fun h => c (by omega))]
  | succ d ih =>
    intro i hd
    have hi : i < x1.length := by omega
    rw [thrumref14_FewP.l0, if_pos (by omega), if_pos (by omega), if_pos (by omega), rd_sm hi, List.drop_eq_getElem_cons hi]
    by_cases c : (x1[i].f0.length : Int) > 100
    · rw [if_pos c, decide_eq_false (fun h => by have := h.1 _ (List.mem_cons.2 (.inl rfl)); omega)]
    · rw [if_neg c, wrap64_of (by unfold I64; omega), show (i : Int) + 1 = ((i + 1 : Nat) : Int) by omega, ih (i + 1) (by omega)]
      congr 1
      refine decide_eq_decide.2 ⟨fun h => ⟨fun s hs => by rcases List.mem_cons.1 hs with e | e; (rw [e]; omega); (exact h.1 s e), h.2⟩, fun h => ⟨fun s hs => h.1 s (List.mem_cons.2 (.inr hs)), h.2⟩⟩
def thrumref14_Few.f (l0 : List Int) (l1 : List S24) : Option Bool := some (decide ((∀ s ∈ l1, s.f0.length ≤ 100) ∧ l0.length ≤ 500 ∧ l1.length ≤ 100))
theorem thrumref14_Few.calls (A0 : Option Addr) (c0 : Nat) (l0 : List Int) (A1 : Option Addr) (c1 : Nat) (l1 : List (S24)) (r : Bool) (w : World) (hr0 : Kd.C (Kd.int .i64) w A0 l0.length l0) (hc0 : l0.length ≤ c0) (hr1 : Kd.C k24 w A1 l1.length l1) (hc1 : l1.length ≤ c1) (h : thrumref14_Few.f l0 l1 = some r) :
    Calls Try.prog 5 #[.slice A0 l0.length c0, .slice A1 l1.length c1] w fun e w' => e = .returned (.bool r) ∧ Below w.heap.size w w' := by
  have hm := Kd.C_max hr1
  refine thrumref14_FewP.calls (l1.length + 1) A0 c0 l0 A1 c1 l1 r w hr0 hc0 hr1 hc1 (Eq.trans ?_ h)
  exact thrumref14_FewP.loop l0 l1 hm l1.length 0 (by omega)


/-! ### thrumref15_RowsP: function 13 -/
mutual
def thrumref15_RowsP.j0 : Nat → Int → List Int → Bool → Option ((List (List Int)) × Int)
 | 0, _, _, _ => none
 | k + 1, x0, x1, x14 => if x14 = true then (some (([] : List (List Int)), 1)) else (if x0 = 0 then (none) else (if ((x1.length : Int) % x0) = 0 then (if (wrap64 ((x1.length : Int) / x0)) < 2 then (thrumref15_RowsP.j1 k x0 x1 (wrap64 ((x1.length : Int) / x0)) true) else (thrumref15_RowsP.j1 k x0 x1 (wrap64 ((x1.length : Int) / x0)) (decide ((wrap64 ((x1.length : Int) / x0)) > 17)))) else (thrumref15_RowsP.j1 k x0 x1 (wrap64 ((x1.length : Int) / x0)) true)))
def thrumref15_RowsP.j1 : Nat → Int → List Int → Int → Bool → Option ((List (List Int)) × Int)
 | 0, _, _, _, _ => none
 | k + 1, x0, x1, x6, x31 => if x31 = true then (some (([] : List (List Int)), 4)) else (thrumref15_RowsP.l0 k x1 x6 ([] : List (List Int)) x0 0)
def thrumref15_RowsP.l0 : Nat → List Int → Int → List (List Int) → Int → Int → Option ((List (List Int)) × Int)
 | 0, _, _, _, _, _ => none
 | k + 1, x1, x6, x7, x32, x33 => if x33 < x32 then (if 0 ≤ (wrap64 (x33 * x6)) then (if (wrap64 (x33 * x6)) ≤ (wrap64 ((wrap64 (x33 + 1)) * x6)) then (if (wrap64 ((wrap64 (x33 + 1)) * x6)) ≤ (x1.length : Int) then (if ([] : List Int).length + ((x1.take ((wrap64 ((wrap64 (x33 + 1)) * x6)) : Int).toNat).drop ((wrap64 (x33 * x6)) : Int).toNat).length < 17592186044416 then (if x7.length < 5864062014805 then (thrumref15_RowsP.l0 k x1 x6 (x7 ++ [(([] : List Int) ++ ((x1.take ((wrap64 ((wrap64 (x33 + 1)) * x6)) : Int).toNat).drop ((wrap64 (x33 * x6)) : Int).toNat))]) x32 (wrap64 (x33 + 1))) else (none)) else (none)) else (none)) else (none)) else (none)) else (some (x7, 0))
end
def thrumref15_RowsP.f (k : Nat) (a0 : Int) (l1 : List Int) : Option ((List (List Int)) × Int) := if a0 < 2 then (thrumref15_RowsP.j0 k a0 l1 true) else (thrumref15_RowsP.j0 k a0 l1 (decide (a0 > 8)))
theorem thrumref15_RowsP.mono_l : ∀ k, (∀ y0 y1 y2, LeO (thrumref15_RowsP.j0 k y0 y1 y2) (thrumref15_RowsP.j0 (k + 1) y0 y1 y2)) ∧ (∀ y0 y1 y2 y3, LeO (thrumref15_RowsP.j1 k y0 y1 y2 y3) (thrumref15_RowsP.j1 (k + 1) y0 y1 y2 y3)) ∧ (∀ y0 y1 y2 y3 y4, LeO (thrumref15_RowsP.l0 k y0 y1 y2 y3 y4) (thrumref15_RowsP.l0 (k + 1) y0 y1 y2 y3 y4))
 | 0 => ⟨fun _ _ _ r h => by simp [thrumref15_RowsP.j0] at h, fun _ _ _ _ r h => by simp [thrumref15_RowsP.j1] at h, fun _ _ _ _ _ r h => by simp [thrumref15_RowsP.l0] at h⟩
 | k + 1 => by
  obtain ⟨ih0, ih1, ih2⟩ := thrumref15_RowsP.mono_l k
  refine ⟨?_, ?_, ?_⟩
  ·
   intro y0 y1 y2
   unfold thrumref15_RowsP.j0
   repeat' first
   | (with_reducible exact ih0 _ _ _)
   | (with_reducible exact ih1 _ _ _ _)
   | (with_reducible exact ih2 _ _ _ _ _)
   | (with_reducible exact LeO.refl _)
   | (with_reducible exact LeO.none _)
   | (with_reducible refine LeO.ite ?_ ?_)
   | (with_reducible refine LeO.bind ?_ (fun _ => ?_))
  ·
   intro y0 y1 y2 y3
   unfold thrumref15_RowsP.j1
   repeat' first
   | (with_reducible exact ih0 _ _ _)
   | (with_reducible exact ih1 _ _ _ _)
   | (with_reducible exact ih2 _ _ _ _ _)
   | (with_reducible exact LeO.refl _)
   | (with_reducible exact LeO.none _)
   | (with_reducible refine LeO.ite ?_ ?_)
   | (with_reducible refine LeO.bind ?_ (fun _ => ?_))
  ·
   intro y0 y1 y2 y3 y4
   unfold thrumref15_RowsP.l0
   repeat' first
   | (with_reducible exact ih0 _ _ _)
   | (with_reducible exact ih1 _ _ _ _)
   | (with_reducible exact ih2 _ _ _ _ _)
   | (with_reducible exact LeO.refl _)
   | (with_reducible exact LeO.none _)
   | (with_reducible refine LeO.ite ?_ ?_)
   | (with_reducible refine LeO.bind ?_ (fun _ => ?_))
theorem thrumref15_RowsP.mono : ∀ a0 a1 k, LeO (thrumref15_RowsP.f k a0 a1) (thrumref15_RowsP.f (k + 1) a0 a1) := by
 intro a0 a1 k
 obtain ⟨ih0, ih1, ih2⟩ := thrumref15_RowsP.mono_l k
 unfold thrumref15_RowsP.f
 repeat' first
   | (with_reducible exact ih0 _ _ _)
   | (with_reducible exact ih1 _ _ _ _)
   | (with_reducible exact ih2 _ _ _ _ _)
   | (with_reducible exact LeO.refl _)
   | (with_reducible exact LeO.none _)
   | (with_reducible refine LeO.ite ?_ ?_)
   | (with_reducible refine LeO.bind ?_ (fun _ => ?_))
set_option maxHeartbeats 8000000 in
set_option maxRecDepth 100000 in
theorem thrumref15_RowsP.calls (k : Nat) (a0 : Int) (A1 : Option Addr) (c1 : Nat) (l1 : List Int) (r1 : List (List Int)) (r2 : Int) (w : World) (hr1 : Kd.C (Kd.int .i64) w A1 l1.length l1) (hc1 : l1.length ≤ c1) (h : thrumref15_RowsP.f k a0 l1 = some (r1, r2)) :
  Calls Try.prog 13 #[.int .i64 a0, .slice A1 l1.length c1] w fun e w' => ∃ v0_ : Value, e = .returned (.tuple #[v0_, .int .i64 r2]) ∧ Kd.S (Kd.slice 2 (Kd.int .i64)) 22 w' w.heap.size (fun _ => True) v0_ r1 ∧ Below w.heap.size w w' := by
 have HR1 := ZM hr1
 have HC1 := ZM hc1
 clear hr1 hc1
 have HB := ZM (Below.refl w.heap.size w)
 have H : (if a0 < 2 then (thrumref15_RowsP.j0 k a0 l1 true) else (thrumref15_RowsP.j0 k a0 l1 (decide (a0 > 8)))) = some (r1, r2) := h
 clear h
 have HC3 := ZM H
 clear H
 go_enter Try.func13, Try.ntmps13
 go_upto_region 1 with (fail)
 go_cut [14] (fun v14 wc => ∃ (kq : Nat) (x14_2 : Bool), v14 = .bool x14_2 ∧ Aside0 (thrumref15_RowsP.j0 kq a0 l1 x14_2 = some (r1, r2)) ∧ Aside0 (kq ≤ k) ∧ Aside0 (Below w.heap.size w wc))
 case first =>
  have H := HC3.out
  clear HC3
  by_cases c4 : a0 < 2
  case neg =>
   rw [if_neg c4] at H
   have c4b0 : decide (a0 < 2) = false := decide_eq_false c4
   clear c4
   (first | rw [c4b0] | (simp only [i64_w, i32_w]; rw [c4b0]) | skip)
   have H' := ZM H
   clear H
   go_wp2
   go_meet
   case rel => exact ⟨_, (decide (a0 > 8)), Z5, H', ⟨by first | omega | exact Nat.le_refl _⟩, ⟨by repeat (first | (with_reducible first | exact HB.out | apply zzA | apply zzN | apply zzD) | exact HB.out)⟩⟩
  rw [if_pos c4] at H
  have c4b0 : decide (a0 < 2) = true := decide_eq_true c4
  clear c4
  (first | rw [c4b0] | (simp only [i64_w, i32_w]; rw [c4b0]) | skip)
  have H' := ZM H
  clear H
  go_wp2
  go_meet
  case rel => exact ⟨_, (true), Z5, H', ⟨by first | omega | exact Nat.le_refl _⟩, ⟨by repeat (first | (with_reducible first | exact HB.out | apply zzA | apply zzN | apply zzD) | exact HB.out)⟩⟩
 clear HC3
 try clear c1
 obtain ⟨kq, x14_2, rfl, HA, HJ2, HB⟩ := hcut
 cases kq with
 | zero => exact absurd HA.out (by simp [thrumref15_RowsP.j0])
 | succ kj2 =>
  have H := HA.out
  clear HA
  simp only [thrumref15_RowsP.j0] at H
  by_cases c5 : x14_2 = true
  ·
   subst c5
   have H1 : (some (([] : List (List Int)), 1)) = some (r1, r2) := by rw [if_pos rfl] at H; exact H
   clear H
   have H := H1
   clear H1
   simp only [Option.some.injEq, Prod.mk.injEq] at H
   obtain ⟨rfl, rfl⟩ := H
   go_wp2
   go_ret2
   exact ⟨_, by first | rfl | (simp [errW_none, errW_some] <;> rfl) | (simp [*, errW_none, errW_some] <;> rfl), by first | exact Kd.S_nil _ _ _ _ _ | exact Kd.N_nil _ _ _ _ _ | exact Kd.V_nil _ _ _ _ _ | exact Kd.Q_nil _ _ _ _ _ | exact Kd.R_nil _ _ _ _ _, by repeat (first | (with_reducible first | exact HB.out | apply zzA | apply zzN | apply zzD) | exact HB.out)⟩
  replace c5 := Bool.eq_false_iff.mpr c5
  subst c5
  have H1 : (if a0 = 0 then (none) else (if ((l1.length : Int) % a0) = 0 then (if (wrap64 ((l1.length : Int) / a0)) < 2 then (thrumref15_RowsP.j1 kj2 a0 l1 (wrap64 ((l1.length : Int) / a0)) true) else (thrumref15_RowsP.j1 kj2 a0 l1 (wrap64 ((l1.length : Int) / a0)) (decide ((wrap64 ((l1.length : Int) / a0)) > 17)))) else (thrumref15_RowsP.j1 kj2 a0 l1 (wrap64 ((l1.length : Int) / a0)) true))) = some (r1, r2) := by rw [if_neg (show ¬ (false = true) by decide)] at H; exact H
  clear H
  have H := H1
  clear H1
  by_cases c6 : a0 = 0
  ·
   rw [if_pos c6] at H
   exact absurd H (by simp)
  rw [if_neg c6] at H
  have c6b0 : (a0 == 0) = false := beq_eq_false_iff_ne.mpr c6
  have c6b1 : (a0 != 0) = true := bne_iff_ne.mpr c6
  have HC7 := ZM H
  clear H
  go_upto_region 4 with (fail)
  go_cut [31] (fun v31 wc => ∃ (kq : Nat) (x31_6 : Bool), v31 = .bool x31_6 ∧ Aside0 (thrumref15_RowsP.j1 kq a0 l1 (wrap64 ((l1.length : Int) / a0)) x31_6 = some (r1, r2)) ∧ Aside0 (kq ≤ kj2) ∧ Aside0 (Below w.heap.size w wc))
  case first =>
   have H := HC7.out
   clear HC7
   by_cases c8 : ((l1.length : Int) % a0) = 0
   case neg =>
    rw [if_neg c8] at H
    have c8b0 : (((l1.length : Int) % a0) == 0) = false := beq_eq_false_iff_ne.mpr c8
    have c8b1 : (((l1.length : Int) % a0) != 0) = true := bne_iff_ne.mpr c8
    (first | rw [c8b0] | (simp only [i64_w, i32_w]; rw [c8b0]) | skip)
    have H' := ZM H
    clear H
    go_wp2
    go_meet
    case rel => exact ⟨_, (true), Z5, H', ⟨by have := HJ2.out; first | omega | exact Nat.le_refl _⟩, ⟨by repeat (first | (with_reducible first | exact HB.out | apply zzA | apply zzN | apply zzD) | exact HB.out)⟩⟩
   rw [if_pos c8] at H
   have c8b0 : (((l1.length : Int) % a0) == 0) = true := beq_iff_eq.mpr c8
   have c8b1 : (((l1.length : Int) % a0) != 0) = false := bne_eq_false_iff_eq.mpr c8
   clear c8
   (first | rw [c8b0] | (simp only [i64_w, i32_w]; rw [c8b0]) | skip)
   by_cases c9 : (wrap64 ((l1.length : Int) / a0)) < 2
   case neg =>
    rw [if_neg c9] at H
    have c9b0 : decide ((wrap64 ((l1.length : Int) / a0)) < 2) = false := decide_eq_false c9
    clear c9
    have H' := ZM H
    clear H
    go_wp2
    go_meet
    case rel => exact ⟨_, (decide ((wrap64 ((l1.length : Int) / a0)) > 17)), Z5, H', ⟨by have := HJ2.out; first | omega | exact Nat.le_refl _⟩, ⟨by repeat (first | (with_reducible first | exact HB.out | apply zzA | apply zzN | apply zzD) | exact HB.out)⟩⟩
   rw [if_pos c9] at H
   have c9b0 : decide ((wrap64 ((l1.length : Int) / a0)) < 2) = true := decide_eq_true c9
   clear c9
   have H' := ZM H
   clear H
   go_wp2
   go_meet
   case rel => exact ⟨_, (true), Z5, H', ⟨by have := HJ2.out; first | omega | exact Nat.le_refl _⟩, ⟨by repeat (first | (with_reducible first | exact HB.out | apply zzA | apply zzN | apply zzD) | exact HB.out)⟩⟩
  clear HC7
  try clear c1
  try clear c5
  try clear c6
  try clear c6b0
  try clear c6b1
  obtain ⟨kq, x31_6, rfl, HA, HJ6, HB⟩ := hcut
  cases kq with
  | zero => exact absurd HA.out (by simp [thrumref15_RowsP.j1])
  | succ kj6 =>
   have H := HA.out
   clear HA
   simp only [thrumref15_RowsP.j1] at H
   by_cases c10 : x31_6 = true
   ·
    subst c10
    have H1 : (some (([] : List (List Int)), 4)) = some (r1, r2) := by rw [if_pos rfl] at H; exact H
    clear H
    have H := H1
    clear H1
    simp only [Option.some.injEq, Prod.mk.injEq] at H
    obtain ⟨rfl, rfl⟩ := H
    go_wp2
    go_ret2
    exact ⟨_, by first | rfl | (simp [errW_none, errW_some] <;> rfl) | (simp [*, errW_none, errW_some] <;> rfl), by first | exact Kd.S_nil _ _ _ _ _ | exact Kd.N_nil _ _ _ _ _ | exact Kd.V_nil _ _ _ _ _ | exact Kd.Q_nil _ _ _ _ _ | exact Kd.R_nil _ _ _ _ _, by repeat (first | (with_reducible first | exact HB.out | apply zzA | apply zzN | apply zzD) | exact HB.out)⟩
   replace c10 := Bool.eq_false_iff.mpr c10
   subst c10
   have H1 : (thrumref15_RowsP.l0 kj6 l1 (wrap64 ((l1.length : Int) / a0)) ([] : List (List Int)) a0 0) = some (r1, r2) := by rw [if_neg (show ¬ (false = true) by decide)] at H; exact H
   clear H
   have H := H1
   clear H1
   have H' := ZM H
   clear H
   go_wp2
   go_loopg [7, 33] kj6 (fun kq v7 v33 w' => ∃ (x7_3 : List (List Int)) (x33_3 : Int), v33 = .int .i64 x33_3 ∧ Aside0 (thrumref15_RowsP.l0 kq l1 (wrap64 ((l1.length : Int) / a0)) x7_3 a0 x33_3 = some (r1, r2)) ∧ Aside0 (kq ≤ kj6) ∧ Aside0 (Kd.S (Kd.slice 2 (Kd.int .i64)) 22 w' w.heap.size (fun _ => True) v7 x7_3) ∧ Aside0 (Below w.heap.size w w'))
   case atStart => exact ⟨(([] : List (List Int))), (0), Z5, H', ⟨Nat.le_refl _⟩, ⟨by first | exact Kd.S_nil _ _ _ _ _ | exact Kd.N_nil _ _ _ _ _ | exact Kd.V_nil _ _ _ _ _ | exact Kd.Q_nil _ _ _ _ _ | exact Kd.R_nil _ _ _ _ _⟩, ⟨by repeat (first | (with_reducible first | exact HB.out | apply zzA | apply zzN | apply zzD) | exact HB.out)⟩⟩
   case round =>
    clear H'
    try clear c1
    try clear c5
    try clear c6
    try clear c6b0
    try clear c6b1
    try clear c10
    obtain ⟨x7_3, x33_3, rfl, HA, HK3, HO_7, HB⟩ := hrel
    cases gk with
    | zero => exact absurd HA.out (by simp [thrumref15_RowsP.l0])
    | succ k3 =>
     have H := HA.out
     clear HA
     simp only [thrumref15_RowsP.l0] at H
     by_cases c11 : x33_3 < a0
     case neg =>
      rw [if_neg c11] at H
      have c11b0 : decide (x33_3 < a0) = false := decide_eq_false c11
      clear c11
      simp only [Option.some.injEq, Prod.mk.injEq] at H
      obtain ⟨rfl, rfl⟩ := H
      go_wp2
      go_ret2
      exact ⟨_, by first | rfl | (simp [errW_none, errW_some] <;> rfl) | (simp [*, errW_none, errW_some] <;> rfl), by (with_reducible repeat (first | apply Kd.S_alloc | apply Kd.S_drewN | apply Kd.S_drew)); exact HO_7.out, by repeat (first | (with_reducible first | exact HB.out | apply zzA | apply zzN | apply zzD) | exact HB.out)⟩
     rw [if_pos c11] at H
     have c11b0 : decide (x33_3 < a0) = true := decide_eq_true c11
     clear c11
     obtain ⟨ji12, hji12⟩ : ∃ j_ : Int, (wrap64 (x33_3 * (wrap64 ((l1.length : Int) / a0)))) = j_ := ⟨_, rfl⟩
     replace H : (if 0 ≤ (ji12) then (if (ji12) ≤ (wrap64 ((wrap64 (x33_3 + 1)) * (wrap64 ((l1.length : Int) / a0)))) then (if (wrap64 ((wrap64 (x33_3 + 1)) * (wrap64 ((l1.length : Int) / a0)))) ≤ (l1.length : Int) then (if ([] : List Int).length + ((l1.take ((wrap64 ((wrap64 (x33_3 + 1)) * (wrap64 ((l1.length : Int) / a0)))) : Int).toNat).drop ((ji12) : Int).toNat).length < 17592186044416 then (if x7_3.length < 5864062014805 then (thrumref15_RowsP.l0 k3 l1 (wrap64 ((l1.length : Int) / a0)) (x7_3 ++ [(([] : List Int) ++ ((l1.take ((wrap64 ((wrap64 (x33_3 + 1)) * (wrap64 ((l1.length : Int) / a0)))) : Int).toNat).drop ((ji12) : Int).toNat))]) a0 (wrap64 (x33_3 + 1))) else (none)) else (none)) else (none)) else (none)) else (none)) = some (r1, r2) := by first | (rw [hji12] at H; exact H) | (simp only [hji12] at H ⊢; exact H)
     have hji12w : (IntKind.i64.wrap (x33_3 * (wrap64 ((l1.length : Int) / a0)))) = ji12 := (i64_w _).trans hji12
     by_cases c13 : 0 ≤ (ji12)
     case neg =>
      rw [if_neg c13] at H
      exact absurd H (by simp)
     rw [if_pos c13] at H
     have c13b0 := eq_true c13
     have c13b1 : decide (0 ≤ (ji12)) = true := decide_eq_true c13
     clear c13
     by_cases c14 : (ji12) ≤ (wrap64 ((wrap64 (x33_3 + 1)) * (wrap64 ((l1.length : Int) / a0))))
     case neg =>
      rw [if_neg c14] at H
      exact absurd H (by simp)
     rw [if_pos c14] at H
     have c14b0 := eq_true c14
     have c14b1 : decide ((ji12) ≤ (wrap64 ((wrap64 (x33_3 + 1)) * (wrap64 ((l1.length : Int) / a0))))) = true := decide_eq_true c14
     by_cases c15 : (wrap64 ((wrap64 (x33_3 + 1)) * (wrap64 ((l1.length : Int) / a0)))) ≤ (l1.length : Int)
     case neg =>
      rw [if_neg c15] at H
      exact absurd H (by simp)
     rw [if_pos c15] at H
     have c15b0 := eq_true c15
     have c15b1 : decide ((wrap64 ((wrap64 (x33_3 + 1)) * (wrap64 ((l1.length : Int) / a0)))) ≤ (l1.length : Int)) = true := decide_eq_true c15
     by_cases c16 : ([] : List Int).length + ((l1.take ((wrap64 ((wrap64 (x33_3 + 1)) * (wrap64 ((l1.length : Int) / a0)))) : Int).toNat).drop ((ji12) : Int).toNat).length < 17592186044416
     case neg =>
      rw [if_neg c16] at H
      exact absurd H (by simp)
     rw [if_pos c16] at H
     have LMc16 := ZM c16
     clear c16
     obtain ⟨y256, hy256⟩ : ∃ y_ : List Int, y_ = (([] : List Int) ++ ((l1.take ((wrap64 ((wrap64 (x33_3 + 1)) * (wrap64 ((l1.length : Int) / a0)))) : Int).toNat).drop ((ji12) : Int).toNat)) := ⟨_, rfl⟩
     replace H : (if x7_3.length < 5864062014805 then (thrumref15_RowsP.l0 k3 l1 (wrap64 ((l1.length : Int) / a0)) (x7_3 ++ [y256]) a0 (wrap64 (x33_3 + 1))) else (none)) = some (r1, r2) := by first | (rw [hy256]; with_reducible exact H) | (have H2_ := (Option.bind_some _ _).symm.trans H; rw [hy256]; with_reducible exact H2_) | (have H2_ := (Option.bind_some _ _).symm.trans H; with_reducible exact H2_) | with_reducible exact H | (rw [hy256]; exact H) | exact H
     have Ny256 := ZM hy256
     clear hy256
     by_cases c17 : x7_3.length < 5864062014805
     case neg =>
      rw [if_neg c17] at H
      exact absurd H (by simp)
     rw [if_pos c17] at H
     have LMc17 := ZM c17
     clear c17
     obtain ⟨y259, hy259⟩ : ∃ y_ : List (List Int), y_ = (x7_3 ++ [y256]) := ⟨_, rfl⟩
     replace H : (thrumref15_RowsP.l0 k3 l1 (wrap64 ((l1.length : Int) / a0)) y259 a0 (wrap64 (x33_3 + 1))) = some (r1, r2) := by first | (rw [hy259]; with_reducible exact H) | (have H2_ := (Option.bind_some _ _).symm.trans H; rw [hy259]; with_reducible exact H2_) | (have H2_ := (Option.bind_some _ _).symm.trans H; with_reducible exact H2_) | with_reducible exact H | (rw [hy259]; exact H) | exact H
     have Ny259 := ZM hy259
     clear hy259
     have H' := ZM H
     clear H
     obtain ⟨i018, hi018, _, hsz18, _⟩ := info_parts info2
     obtain ⟨A18, hcut18, hA18, hC18⟩ := print_mid_of (P := Try.prog) (Value.int .i64) 0 22 2 .i64 .i64 Try.underlying22 hi018 hsz18 A1 c1 l1 (ji12) (wrap64 ((wrap64 (x33_3 + 1)) * (wrap64 ((l1.length : Int) / a0)))) (of_decide_eq_true Z3) (by first | omega | exact of_decide_eq_true Z3) (of_decide_eq_true Z3) HC1.out
     have HR255 := ZM (Kd.C_of_reads (h1 := fun _ => rfl) (hA18 _ (Kd.reads_of_C HR1.out)))
     have HC255 := ZM hC18
     clear hA18 hC18 hi018 hsz18
     go_wp2_with (first | ((with_reducible refine gate_builtin (b := .append) (xs := #[.const (.slice none 0 0), .tmp 45]) rfl ?_); at_builtin; refine Kd.R_append_rows (Kd.int .i64) (w0 := w) w.heap.size rfl (.const (.slice none 0 0)) (.tmp 45) 22 2 (.int .i64 0) 8 rfl Try.underlying22 info2 rfl (by decide) (by omega) (.slice none 0 0) ([] : List Int) ((l1.take ((wrap64 ((wrap64 (x33_3 + 1)) * (wrap64 ((l1.length : Int) / a0)))) : Int).toNat).drop ((ji12) : Int).toNat) _ _ _ (fun _ => True) (fun _ => False) rfl rfl ?aO ?aR (fun _ _ h => h) (fun _ h => h.elim) ?aF ?aB ?aS ?aL ?_; (case aR => first | (rw [← show ((l1.take ((wrap64 ((wrap64 (x33_3 + 1)) * (wrap64 ((l1.length : Int) / a0)))) : Int).toNat).drop ((ji12) : Int).toNat).length = ((wrap64 ((wrap64 (x33_3 + 1)) * (wrap64 ((l1.length : Int) / a0)))).toNat - (ji12).toNat) from (by rw [List.length_drop, List.length_take]; have h_ : ((wrap64 ((wrap64 (x33_3 + 1)) * (wrap64 ((l1.length : Int) / a0)))) : Int) ≤ (l1.length : Int) := of_decide_eq_true Z3; omega)]; repeat (first | exact (Kd.C_below HR255.out HB.out) | (with_reducible refine ccA ?_ _) | (with_reducible refine ccN ?_ _) | (with_reducible refine ccD ?_))) | (repeat (first | exact (Kd.C_below HR255.out HB.out) | (with_reducible refine ccA ?_ _) | (with_reducible refine ccN ?_ _) | (with_reducible refine ccD ?_)))); (case aB => exact Z1); (case aF => exact (fun _ _ => trivial)); (case aO => exact ((Kd.R_nil _ _ _ _ (fun _ => True)))); (case aS => exact (zzS Z1)); (case aL => have := LMc16.out; have hlx_ := (show ((l1.take ((wrap64 ((wrap64 (x33_3 + 1)) * (wrap64 ((l1.length : Int) / a0)))) : Int).toNat).drop ((ji12) : Int).toNat).length = ((wrap64 ((wrap64 (x33_3 + 1)) * (wrap64 ((l1.length : Int) / a0)))).toNat - (ji12).toNat) from (by rw [List.length_drop, List.length_take]; have h_ : ((wrap64 ((wrap64 (x33_3 + 1)) * (wrap64 ((l1.length : Int) / a0)))) : Int) ≤ (l1.length : Int) := of_decide_eq_true Z3; omega)); omega); intro v257 w19 ho hb hg hat; rw [← Ny256.out] at ho; replace HO_7 := ZM (Kd.S_after (Kd.S_apart_nil (by (with_reducible repeat (first | apply Kd.S_alloc | apply Kd.S_drewN | apply Kd.S_drew)); exact HO_7.out)) hg hat); have HO258 := ZM (ho); replace HB := ZM (hb); clear ho hb hg hat; obtain ⟨Ao21, co21, eo21⟩ := Kd.R_slice HO258.out; subst eo21) | ((with_reducible refine gate_builtin (b := .append) (xs := #[.tmp 36, .tmp 47]) rfl ?_); at_builtin; refine Kd.S_append (Kd.slice 2 (Kd.int .i64)) (w0 := w) w.heap.size rfl (.tmp 36) (.tmp 47) 33 22 (.slice none 0 0) 24 rfl Try.underlying33 info22 rfl (by decide) (by omega) u7 x7_3 y256 [.slice Ao21 y256.length co21] (fun _ => True) (fun k_ => some k_ = (.slice Ao21 y256.length co21 : Value).ownBlock) rfl rfl ?aP (fun k_ hk_ => ((Kd.R_mono (ok' := fun k_ => ((fun _ => True)) k_ ∧ some k_ ≠ (u7 : Value).ownBlock) (Kd.R_apart' (HO258.out) (Kd.S_typed HO_7.out) (by decide)) (fun k_ hk => ⟨trivial, hk.2⟩))).1 k_ hk_.symm) ?aF ?aO ?aB ?aS ?aL ?_; (case aP => exact Kd.M_row (Kd.R_mono (Kd.R_tight rfl (Kd.R_mono (ok' := fun k_ => ((fun _ => True)) k_ ∧ some k_ ≠ (u7 : Value).ownBlock) (Kd.R_apart' (HO258.out) (Kd.S_typed HO_7.out) (by decide)) (fun k_ hk => ⟨trivial, hk.2⟩))) (fun _ h_ => h_))); (case aB => exact Z1); (case aF => exact (fun _ _ => trivial)); (case aO => exact (by (with_reducible repeat (first | apply Kd.S_alloc | apply Kd.S_drewN | apply Kd.S_drew)); exact Kd.S_mono HO_7.out (fun k_ hk => ⟨trivial, fun e_ => hk.2 e_⟩))); (case aS => exact (zzS Z1)); (case aL => have := LMc17.out; omega); intro v260 w20 ho hb hg hat; rw [← Ny259.out] at ho; have HO261 := ZM (ho); replace HB := ZM (hb); clear HO_7 HO258; clear ho hb hg hat))
     go_roundg k3
     case measure => have := HJ2.out; have := HJ6.out; have := HK3.out; omega
     case rel => exact ⟨(y259), (wrap64 (x33_3 + 1)), Z5, H', ⟨by have := HJ2.out; have := HJ6.out; have := HK3.out; omega⟩, ⟨by (with_reducible repeat (first | apply Kd.S_alloc | apply Kd.S_drewN | apply Kd.S_drew)); exact HO261.out⟩, ⟨by repeat (first | (with_reducible first | exact HB.out | apply zzA | apply zzN | apply zzD) | exact HB.out)⟩⟩
def thrumref15_Rows.f (a0 : Int) (l1 : List Int) : Option (List (List Int) × Int) := some (rowsS a0 l1)
theorem thrumref15_RowsP.loop (w : List Int) (m k : Nat) (hmk : m * k = w.length) (hm : m ≤ 17) (hk : k ≤ 8) : ∀ (d i : Nat) (acc : List (List Int)), d + i = k → acc.length ≤ i →
    thrumref15_RowsP.l0 (d + 1) w (m : Int) acc (k : Int) (i : Int) = some (acc ++ (chunksS m w k).drop i, 0) := by
  intro d
  induction d with
  | zero =>
    intro i acc hd ha
    rw [thrumref15_RowsP.l0, if_neg (by omega), List.drop_eq_nil_of_le (by rw [chunksS_length]; omega), List.append_nil]
  | succ d ih =>
    intro i acc hd ha
    have hi : i < k := by omega
    have p0 : (i : Int) < (k : Int) := Int.ofNat_lt.2 hi
    have p5 : acc.length < 5864062014805 := by omega
    have p6 : d + (i + 1) = k := by omega
    have p7 : acc.length + 1 ≤ i + 1 := by omega
    have h1 : (i + 1) * m ≤ k * m := Nat.mul_le_mul_right m hi
    have h2 : k * m ≤ 8 * 17 := Nat.mul_le_mul hk hm
    have h3 : (i + 1) * m = i * m + m := by rw [Nat.add_mul, Nat.one_mul]
    have e1 : wrap64 ((i : Int) * m) = ((i * m : Nat) : Int) := by
      have q : ((i * m : Nat) : Int) = (i : Int) * m := by push_cast; rfl
      rw [← q, wrap64_of (by unfold I64; omega)]
    have e2 : wrap64 ((i : Int) + 1) = ((i + 1 : Nat) : Int) := by rw [wrap64_of (by unfold I64; omega)]; omega
    have e3 : wrap64 (((i + 1 : Nat) : Int) * m) = (((i + 1) * m : Nat) : Int) := by
      have q : (((i + 1) * m : Nat) : Int) = ((i + 1 : Nat) : Int) * m := by push_cast; rfl
      rw [← q, wrap64_of (by unfold I64; omega)]
    have hget : (chunksS m w k)[i]'(by rw [chunksS_length]; exact hi) = (w.drop (i * m)).take m := by simp [chunksS]
    have hdt : (w.take ((i + 1) * m)).drop (i * m) = (w.drop (i * m)).take m := by rw [List.drop_take, h3, Nat.add_sub_cancel_left]
    have hcl := chunk_len hmk hi
    have p1 : (0 : Int) ≤ ((i * m : Nat) : Int) := Int.natCast_nonneg _
    have p2 : ((i * m : Nat) : Int) ≤ (((i + 1) * m : Nat) : Int) := Int.ofNat_le.2 (by rw [h3]; exact Nat.le_add_right _ _)
    have p3 : (((i + 1) * m : Nat) : Int) ≤ (w.length : Int) := Int.ofNat_le.2 (by rw [← hmk, Nat.mul_comm m k]; exact h1)
    have p4 : ([] : List Int).length + ((w.drop (i * m)).take m).length < 17592186044416 := by rw [hcl, List.length_nil]; clear h1 h3 e1 e2 e3 p1 p2 p3 hget hdt hcl; omega
    have hi2 : i < (chunksS m w k).length := by rw [chunksS_length]; exact hi
    rw [thrumref15_RowsP.l0, if_pos p0, e1, e2, e3, if_pos p1, if_pos p2, if_pos p3, Int.toNat_natCast, Int.toNat_natCast, hdt, if_pos p4, if_pos p5,
      ih (i + 1) _ p6 (by rw [List.length_append, List.length_singleton]; exact p7), List.drop_eq_getElem_cons hi2, hget, List.nil_append, List.append_assoc]
    rfl
theorem thrumref15_RowsP.is (a0 : Int) (l1 : List Int) (hb : l1.length ≤ 9223372036854775807) : thrumref15_RowsP.f (a0.toNat + 3) a0 l1 = some (rowsS a0 l1) := by
  unfold thrumref15_RowsP.f rowsS
  by_cases c : badOut a0
  · rw [if_pos c]
    unfold badOut at c
    by_cases c1 : a0 < 2
    · rw [if_pos c1, thrumref15_RowsP.j0, if_pos rfl]
    · rw [if_neg c1, thrumref15_RowsP.j0, if_pos (decide_eq_true (by omega))]
  · rw [if_neg c]
    unfold badOut at c
    obtain ⟨k, rfl⟩ : ∃ k : Nat, a0 = k := ⟨a0.toNat, by omega⟩
    rw [Int.toNat_natCast]
    have hgd : goodRow k l1 ↔ 2 ≤ l1.length / k ∧ l1.length / k ≤ 17 ∧ l1.length / k * k = l1.length := by unfold goodRow; rw [Int.toNat_natCast]
    have hq : wrap64 ((l1.length : Int) / (k : Int)) = ((l1.length / k : Nat) : Int) := by
      have q : (l1.length : Int) / (k : Int) = ((l1.length / k : Nat) : Int) := by push_cast; rfl
      have hI : I64 ((l1.length / k : Nat) : Int) := by
        have hle := Nat.div_le_self l1.length k
        clear q
        generalize l1.length / k = z at hle ⊢
        unfold I64; omega
      rw [q, wrap64_of hI]
    have hmod : ((l1.length : Int) % (k : Int) = 0) ↔ l1.length / k * k = l1.length := by
      have h1 := Nat.div_add_mod l1.length k
      rw [Nat.mul_comm] at h1
      have h2 : ((l1.length % k : Nat) : Int) = (l1.length : Int) % (k : Int) := by push_cast; rfl
      constructor
      · intro h
        have h3 : l1.length % k = 0 := Int.ofNat.inj (h2.trans h)
        rw [h3, Nat.add_zero] at h1; exact h1
      · intro h
        rw [h] at h1
        have h3 : l1.length % k = 0 := Nat.add_left_cancel (h1.trans (Nat.add_zero _).symm)
        rw [← h2, h3]; rfl
    rw [if_neg (show ¬ (k : Int) < 2 by omega), thrumref15_RowsP.j0, if_neg (by simp; omega), if_neg (show ¬ (k : Int) = 0 by omega), hq]
    generalize hm : l1.length / k = m at hgd hmod
    by_cases c2 : (l1.length : Int) % (k : Int) = 0
    · rw [if_pos c2]
      have hmk := hmod.1 c2
      by_cases c3 : (m : Int) < 2
      · rw [if_pos c3, thrumref15_RowsP.j1, if_pos rfl, if_neg (fun h => by have := (hgd.1 h).1; omega)]
      · rw [if_neg c3, thrumref15_RowsP.j1]
        by_cases c4 : (m : Int) > 17
        · rw [if_pos (decide_eq_true c4), if_neg (fun h => by have := (hgd.1 h).2.1; omega)]
        · rw [if_neg (by simpa using c4), if_pos (hgd.2 ⟨by omega, by omega, hmk⟩)]
          have := thrumref15_RowsP.loop l1 m k hmk (by omega) (by omega) k 0 [] (by omega) (by simp)
          rw [show ((0 : Nat) : Int) = 0 from rfl, List.drop_zero, List.nil_append] at this
          exact this
    · rw [if_neg c2, thrumref15_RowsP.j1, if_pos rfl, if_neg (fun h => c2 (hmod.2 (hgd.1 h).2.2))]
theorem thrumref15_Rows.calls (a0 : Int) (A1 : Option Addr) (c1 : Nat) (l1 : List Int) (r1 : List (List Int)) (r2 : Int) (w : World) (hr1 : Kd.C (Kd.int .i64) w A1 l1.length l1) (hc1 : l1.length ≤ c1) (h : thrumref15_Rows.f a0 l1 = some (r1, r2)) :
    Calls Try.prog 13 #[.int .i64 a0, .slice A1 l1.length c1] w fun e w' => ∃ v0_ : Value, e = .returned (.tuple #[v0_, .int .i64 r2]) ∧ Kd.S (Kd.slice 2 (Kd.int .i64)) 22 w' w.heap.size (fun _ => True) v0_ r1 ∧ Below w.heap.size w w' := by
  unfold thrumref15_Rows.f at h
  exact thrumref15_RowsP.calls (a0.toNat + 3) a0 A1 c1 l1 r1 r2 w hr1 hc1 ((thrumref15_RowsP.is a0 l1 (Kd.C_max hr1)).trans h)


/-! ### thrumref14_Dim: function 80 -/
def thrumref14_Dim.f (a0 : Int) : Option (Int × Int) := if a0 < 1 then (some (0, 1)) else (if a0 > 16 then (some (0, 1)) else (some (wrap64 (a0 + 1), 0)))
set_option maxHeartbeats 8000000 in
set_option maxRecDepth 100000 in
theorem thrumref14_Dim.calls (a0 : Int) (r1 : Int) (r2 : Int) (w : World) (h : thrumref14_Dim.f a0 = some (r1, r2)) :
  Calls Try.prog 80 #[.int .i64 a0] w fun e w' => e = .returned (.tuple #[.int .i64 r1, .int .i64 r2]) ∧ Drawn0 w w' := by
 have H : (if a0 < 1 then (some (0, 1)) else (if a0 > 16 then (some (0, 1)) else (some (wrap64 (a0 + 1), 0)))) = some (r1, r2) := h
 clear h
 by_cases c2 : a0 < 1
 ·
  rw [if_pos c2] at H
  have c2b0 : decide (a0 < 1) = true := decide_eq_true c2
  clear c2
  simp only [Option.some.injEq, Prod.mk.injEq] at H
  obtain ⟨rfl, rfl⟩ := H
  go_enter Try.func80, Try.ntmps80
  go_wp2
  go_ret2
  exact ⟨by first | rfl | (simp; done) | (simp [*]; done), by repeat (first | exact ddR _ | apply ddS)⟩
 rw [if_neg c2] at H
 have c2b0 : decide (a0 < 1) = false := decide_eq_false c2
 clear c2
 by_cases c3 : a0 > 16
 case neg =>
  rw [if_neg c3] at H
  have c3b0 : decide (16 < a0) = false := decide_eq_false c3
  clear c3
  simp only [Option.some.injEq, Prod.mk.injEq] at H
  obtain ⟨rfl, rfl⟩ := H
  go_enter Try.func80, Try.ntmps80
  go_wp2
  go_ret2
  exact ⟨by first | rfl | (simp; done) | (simp [*]; done), by repeat (first | exact ddR _ | apply ddS)⟩
 rw [if_pos c3] at H
 have c3b0 : decide (16 < a0) = true := decide_eq_true c3
 clear c3
 simp only [Option.some.injEq, Prod.mk.injEq] at H
 obtain ⟨rfl, rfl⟩ := H
 go_enter Try.func80, Try.ntmps80
 go_wp2
 go_ret2
 exact ⟨by first | rfl | (simp; done) | (simp [*]; done), by repeat (first | exact ddR _ | apply ddS)⟩
/-! ### thrumref14_CheckP: function 62 -/
def thrumref14_CheckP.l0 : Nat → Int → List (S24) → List (S24) → Int → Int → Option (Int)
 | 0, _, _, _, _, _ => none
 | k + 1, x0, x2, x23, x24, x25 => if x25 < x24 then (if 0 ≤ x25 then (if x25 < (x23.length : Int) then (if (((rd_T24 x23 x25).f0).length : Int) = x0 then (thrumref14_CheckP.l0 k x0 x2 x23 x24 (wrap64 (x25 + 1))) else (some 4)) else (none)) else (none)) else (if (x2.length : Int) = 0 then (some 1) else (if (x2.length : Int) > 64 then (some 1) else (some 0)))
def thrumref14_CheckP.f (k : Nat) (a0 : Int) (l1 : List Int) (l2 : List (S24)) : Option (Int) := (thrumref14_Dim.f a0).bind fun bt262 => (if bt262.2 = 0 then (if (l1.length : Int) = bt262.1 then (thrumref14_CheckP.l0 k a0 l2 l2 (l2.length : Int) 0) else (some 4)) else (some bt262.2))
theorem thrumref14_CheckP.mono_l : ∀ k, (∀ y0 y1 y2 y3 y4, LeO (thrumref14_CheckP.l0 k y0 y1 y2 y3 y4) (thrumref14_CheckP.l0 (k + 1) y0 y1 y2 y3 y4))
 | 0 => fun _ _ _ _ _ r h => by simp [thrumref14_CheckP.l0] at h
 | k + 1 => by
  have ih0 := thrumref14_CheckP.mono_l k
  ·
   intro y0 y1 y2 y3 y4
   unfold thrumref14_CheckP.l0
   repeat' first
   | (with_reducible exact ih0 _ _ _ _ _)
   | (with_reducible exact LeO.refl _)
   | (with_reducible exact LeO.none _)
   | (with_reducible refine LeO.ite ?_ ?_)
   | (with_reducible refine LeO.bind ?_ (fun _ => ?_))
theorem thrumref14_CheckP.mono : ∀ a0 a1 a2 k, LeO (thrumref14_CheckP.f k a0 a1 a2) (thrumref14_CheckP.f (k + 1) a0 a1 a2) := by
 intro a0 a1 a2 k
 have ih0 := thrumref14_CheckP.mono_l k
 unfold thrumref14_CheckP.f
 repeat' first
   | (with_reducible exact ih0 _ _ _ _ _)
   | (with_reducible exact LeO.refl _)
   | (with_reducible exact LeO.none _)
   | (with_reducible refine LeO.ite ?_ ?_)
   | (with_reducible refine LeO.bind ?_ (fun _ => ?_))
set_option maxHeartbeats 8000000 in
set_option maxRecDepth 100000 in
theorem thrumref14_CheckP.calls (k : Nat) (a0 : Int) (A1 : Option Addr) (c1 : Nat) (l1 : List Int) (A2 : Option Addr) (c2 : Nat) (l2 : List (S24)) (r : Int) (w : World) (hr1 : Kd.C (Kd.int .i64) w A1 l1.length l1) (hc1 : l1.length ≤ c1) (hr2 : Kd.C k24 w A2 l2.length l2) (hc2 : l2.length ≤ c2) (h : thrumref14_CheckP.f k a0 l1 l2 = some r) :
  Calls Try.prog 62 #[.int .i64 a0, .slice A1 l1.length c1, .slice A2 l2.length c2] w fun e w' => e = .returned (.int .i64 r) ∧ Below w.heap.size w w' := by
 have hu24 := Try.underlying24
 have HR1 := ZM hr1
 have HC1 := ZM hc1
 clear hr1 hc1
 have HR2 := ZM hr2
 have HC2 := ZM hc2
 clear hr2 hc2
 have HB := ZM (Below.refl w.heap.size w)
 have H : ((thrumref14_Dim.f a0).bind fun bt262 => (if bt262.2 = 0 then (if (l1.length : Int) = bt262.1 then (thrumref14_CheckP.l0 k a0 l2 l2 (l2.length : Int) 0) else (some 4)) else (some bt262.2))) = some r := h
 clear h
 replace H := Option.bind_eq_some_iff.mp H
 obtain ⟨⟨t262, t263⟩, A40, H⟩ := H
 replace H : (if t263 = 0 then (if (l1.length : Int) = t262 then (thrumref14_CheckP.l0 k a0 l2 l2 (l2.length : Int) 0) else (some 4)) else (some t263)) = some r := H
 have A4 := ZM A40
 clear A40
 by_cases c5 : t263 = 0
 case neg =>
  rw [if_neg c5] at H
  have c5b0 : (t263 == 0) = false := beq_eq_false_iff_ne.mpr c5
  have c5b1 : (t263 != 0) = true := bne_iff_ne.mpr c5
  obtain rfl := Option.some.inj H
  go_enter Try.func62, Try.ntmps62
  go_wp2_with (first | ((with_reducible refine gate_callee (f := 80) rfl ?_); refine goesL_ (some 13) rfl rfl Try.func80 (by kernel_rfl) rfl #[.int .i64 a0] rfl Z2 ?_; (with_reducible refine (thrumref14_Dim.calls a0 t262 t263 _ A4.out).mono ?_); rintro e w' ⟨rfl, ⟨nd, rfl⟩⟩; refine ⟨_, rfl, ?_⟩))
  go_ret
  exact ⟨by first | rfl | (simp [errW_none, errW_some] <;> rfl) | (simp [*, errW_none, errW_some] <;> rfl), by repeat (first | (with_reducible first | exact HB.out | apply zzA | apply zzN | apply zzD) | exact HB.out)⟩
 rw [if_pos c5] at H
 have c5b0 : (t263 == 0) = true := beq_iff_eq.mpr c5
 have c5b1 : (t263 != 0) = false := bne_eq_false_iff_eq.mpr c5
 clear c5
 by_cases c6 : (l1.length : Int) = t262
 case neg =>
  rw [if_neg c6] at H
  have c6b0 : ((l1.length : Int) == t262) = false := beq_eq_false_iff_ne.mpr c6
  have c6b1 : ((l1.length : Int) != t262) = true := bne_iff_ne.mpr c6
  obtain rfl := Option.some.inj H
  go_enter Try.func62, Try.ntmps62
  go_wp2_with (first | ((with_reducible refine gate_callee (f := 80) rfl ?_); refine goesL_ (some 13) rfl rfl Try.func80 (by kernel_rfl) rfl #[.int .i64 a0] rfl Z2 ?_; (with_reducible refine (thrumref14_Dim.calls a0 t262 t263 _ A4.out).mono ?_); rintro e w' ⟨rfl, ⟨nd, rfl⟩⟩; refine ⟨_, rfl, ?_⟩))
  go_ret
  exact ⟨by first | rfl | (simp [errW_none, errW_some] <;> rfl) | (simp [*, errW_none, errW_some] <;> rfl), by repeat (first | (with_reducible first | exact HB.out | apply zzA | apply zzN | apply zzD) | exact HB.out)⟩
 rw [if_pos c6] at H
 have c6b0 : ((l1.length : Int) == t262) = true := beq_iff_eq.mpr c6
 have c6b1 : ((l1.length : Int) != t262) = false := bne_eq_false_iff_eq.mpr c6
 clear c6
 have H' := ZM H
 clear H
 go_enter Try.func62, Try.ntmps62
 go_wp2_with (first | ((with_reducible refine gate_callee (f := 80) rfl ?_); refine goesL_ (some 13) rfl rfl Try.func80 (by kernel_rfl) rfl #[.int .i64 a0] rfl Z2 ?_; (with_reducible refine (thrumref14_Dim.calls a0 t262 t263 _ A4.out).mono ?_); rintro e w' ⟨rfl, ⟨nd, rfl⟩⟩; refine ⟨_, rfl, ?_⟩))
 go_loopg [25] k (fun kq v25 w' => ∃ (x25_1 : Int), v25 = .int .i64 x25_1 ∧ Aside0 (thrumref14_CheckP.l0 kq a0 l2 l2 (l2.length : Int) x25_1 = some r) ∧ Aside0 (kq ≤ k) ∧ Aside0 (Below w.heap.size w w'))
 case atStart => exact ⟨(0), Z5, H', ⟨Nat.le_refl _⟩, ⟨by repeat (first | (with_reducible first | exact HB.out | apply zzA | apply zzN | apply zzD) | exact HB.out)⟩⟩
 case round =>
  clear H'
  try clear c1
  try clear c2
  try clear c5
  try clear c5b0
  try clear c5b1
  try clear c6
  try clear c6b0
  try clear c6b1
  obtain ⟨x25_1, rfl, HA, HK1, HB⟩ := hrel
  cases gk with
  | zero => exact absurd HA.out (by simp [thrumref14_CheckP.l0])
  | succ k1 =>
   have H := HA.out
   clear HA
   simp only [thrumref14_CheckP.l0] at H
   by_cases c7 : x25_1 < (l2.length : Int)
   case neg =>
    rw [if_neg c7] at H
    have c7b0 : decide (x25_1 < (l2.length : Int)) = false := decide_eq_false c7
    clear c7
    by_cases c15 : (l2.length : Int) = 0
    ·
     rw [if_pos c15] at H
     have c15b0 : ((l2.length : Int) == 0) = true := beq_iff_eq.mpr c15
     have c15b1 : ((l2.length : Int) != 0) = false := bne_eq_false_iff_eq.mpr c15
     clear c15
     obtain rfl := Option.some.inj H
     go_wp2
     go_ret
     exact ⟨by first | rfl | (simp [errW_none, errW_some] <;> rfl) | (simp [*, errW_none, errW_some] <;> rfl), by repeat (first | (with_reducible first | exact HB.out | apply zzA | apply zzN | apply zzD) | exact HB.out)⟩
    rw [if_neg c15] at H
    have c15b0 : ((l2.length : Int) == 0) = false := beq_eq_false_iff_ne.mpr c15
    have c15b1 : ((l2.length : Int) != 0) = true := bne_iff_ne.mpr c15
    have c15b2 : ¬ (l2 = []) := fun h_ => c15 (by rw [h_]; rfl)
    by_cases c16 : (l2.length : Int) > 64
    case neg =>
     rw [if_neg c16] at H
     have c16b0 : decide (64 < (l2.length : Int)) = false := decide_eq_false c16
     have c16b1 : decide (64 < l2.length) = false := decide_eq_false (by omega)
     clear c16
     obtain rfl := Option.some.inj H
     go_wp2
     go_ret
     exact ⟨by first | rfl | (simp [errW_none, errW_some] <;> rfl) | (simp [*, errW_none, errW_some] <;> rfl), by repeat (first | (with_reducible first | exact HB.out | apply zzA | apply zzN | apply zzD) | exact HB.out)⟩
    rw [if_pos c16] at H
    have c16b0 : decide (64 < (l2.length : Int)) = true := decide_eq_true c16
    have c16b1 : decide (64 < l2.length) = true := decide_eq_true (by omega)
    clear c16
    obtain rfl := Option.some.inj H
    go_wp2
    go_ret
    exact ⟨by first | rfl | (simp [errW_none, errW_some] <;> rfl) | (simp [*, errW_none, errW_some] <;> rfl), by repeat (first | (with_reducible first | exact HB.out | apply zzA | apply zzN | apply zzD) | exact HB.out)⟩
   rw [if_pos c7] at H
   have c7b0 : decide (x25_1 < (l2.length : Int)) = true := decide_eq_true c7
   clear c7
   by_cases c8 : 0 ≤ x25_1
   case neg =>
    rw [if_neg c8] at H
    exact absurd H (by simp)
   rw [if_pos c8] at H
   have c8b0 : decide (0 ≤ x25_1) = true := decide_eq_true c8
   clear c8
   by_cases c9 : x25_1 < (l2.length : Int)
   case neg =>
    rw [if_neg c9] at H
    exact absurd H (by simp)
   rw [if_pos c9] at H
   have c9b0 : decide (x25_1 < (l2.length : Int)) = true := decide_eq_true c9
   clear c9
   by_cases c10 : (((rd_T24 l2 x25_1).f0).length : Int) = a0
   case neg =>
    rw [if_neg c10] at H
    have c10b0 : ((((rd_T24 l2 x25_1).f0).length : Int) == a0) = false := beq_eq_false_iff_ne.mpr c10
    have c10b1 : ((((rd_T24 l2 x25_1).f0).length : Int) != a0) = true := bne_iff_ne.mpr c10
    obtain rfl := Option.some.inj H
    have p264 : 0 ≤ (x25_1 : Int) := of_decide_eq_true Z3
    have q264 : x25_1 < (l2.length : Int) := of_decide_eq_true Z3
    obtain ⟨ad264, A264_0, c264_0, e264, hx264_0, hx264_1, hl264_0, hi264_0⟩ := at_T24 HR2.out x25_1 p264 q264
    cases e264
    replace hx264_0 := (HB.out.cell (World.block_lt_of_cell? w _ hx264_0)).trans hx264_0
    replace hx264_1 := (HB.out.cell (World.block_lt_of_cell? w _ hx264_1)).trans hx264_1
    have HR264_0 := ZM hi264_0
    have HC264_0 := ZM hl264_0
    clear hi264_0 hl264_0
    replace p264 := eq_true p264
    replace q264 := eq_true q264
    go_wp2_with (first | ((with_reducible refine gate_dst (N := 10) rfl ?_); (try (refine gate_guard (by rfl) ?_; dsimp only)); refine box_event ?hg (N := 10) ?hd (cs := #[.slice none 0 0, .int .i64 0]) (t := 24) ?hr ?_; (case hd => rfl); (case hg => rfl); (case hr => exact Z10); intro gb265 hg w13 hbox hb; have BK265 := ZM (hbox); have GW265 := ZM ((by rw [hg]; exact (zzS Z1) : w.heap.size ≤ gb265)); have GE265 := ZM ((by rw [hg]; exact (zzS Z1) : w.heap.size ≤ gb265)); replace HB := ZM (zzT Z1 hb); clear hb hbox hg; obtain ⟨hcz14_0, hcz14_1, hfz14_0, hfz14_1⟩ := Y2f BK265))
    go_ret
    exact ⟨by first | rfl | (simp [errW_none, errW_some] <;> rfl) | (simp [*, errW_none, errW_some] <;> rfl), by repeat (first | (with_reducible first | exact HB.out | apply zzA | apply zzN | apply zzD | refine below_set ?_ GE265.out) | exact HB.out)⟩
   rw [if_pos c10] at H
   have c10b0 : ((((rd_T24 l2 x25_1).f0).length : Int) == a0) = true := beq_iff_eq.mpr c10
   have c10b1 : ((((rd_T24 l2 x25_1).f0).length : Int) != a0) = false := bne_eq_false_iff_eq.mpr c10
   clear c10
   have H' := ZM H
   clear H
   have p264 : 0 ≤ (x25_1 : Int) := of_decide_eq_true Z3
   have q264 : x25_1 < (l2.length : Int) := of_decide_eq_true Z3
   obtain ⟨ad264, A264_0, c264_0, e264, hx264_0, hx264_1, hl264_0, hi264_0⟩ := at_T24 HR2.out x25_1 p264 q264
   cases e264
   replace hx264_0 := (HB.out.cell (World.block_lt_of_cell? w _ hx264_0)).trans hx264_0
   replace hx264_1 := (HB.out.cell (World.block_lt_of_cell? w _ hx264_1)).trans hx264_1
   have HR264_0 := ZM hi264_0
   have HC264_0 := ZM hl264_0
   clear hi264_0 hl264_0
   replace p264 := eq_true p264
   replace q264 := eq_true q264
   go_wp2_with (first | ((with_reducible refine gate_dst (N := 10) rfl ?_); (try (refine gate_guard (by rfl) ?_; dsimp only)); refine box_event ?hg (N := 10) ?hd (cs := #[.slice none 0 0, .int .i64 0]) (t := 24) ?hr ?_; (case hd => rfl); (case hg => rfl); (case hr => exact Z10); intro gb265 hg w11 hbox hb; have BK265 := ZM (hbox); have GW265 := ZM ((by rw [hg]; exact (zzS Z1) : w.heap.size ≤ gb265)); have GE265 := ZM ((by rw [hg]; exact (zzS Z1) : w.heap.size ≤ gb265)); replace HB := ZM (zzT Z1 hb); clear hb hbox hg; obtain ⟨hcz12_0, hcz12_1, hfz12_0, hfz12_1⟩ := Y2f BK265))
   go_roundg k1
   case measure => have := HK1.out; omega
   case rel => exact ⟨(wrap64 (x25_1 + 1)), Z5, H', ⟨by have := HK1.out; omega⟩, ⟨by repeat (first | (with_reducible first | exact HB.out | apply zzA | apply zzN | apply zzD | refine below_set ?_ GE265.out) | exact HB.out)⟩⟩
theorem thrumref14_CheckP.loop (x0 : Int) (x2 : List S24) (hb : x2.length ≤ 9223372036854775807) : ∀ (d i : Nat), d + i = x2.length →
    thrumref14_CheckP.l0 (d + 1) x0 x2 x2 (x2.length : Int) (i : Int) = some (fitsGo x0 (x2.drop i) x2.length true) := by
  intro d
  induction d with
  | zero =>
    intro i hd
    rw [thrumref14_CheckP.l0, if_neg (by omega), List.drop_eq_nil_of_le (by omega)]
    rw [fitsGo_nil]
    by_cases c2 : (x2.length : Int) = 0
    · rw [if_pos c2, if_pos (by omega)]
    · rw [if_neg c2]
      by_cases c3 : (x2.length : Int) > 64
      · rw [if_pos c3, if_pos (by omega)]
      · rw [if_neg c3, if_neg (by omega)]
  | succ d ih =>
    intro i hd
    have hi : i < x2.length := by omega
    rw [thrumref14_CheckP.l0, if_pos (by omega), if_pos (by omega), if_pos (by omega), rd_sm hi, List.drop_eq_getElem_cons hi, wrap64_of (by unfold I64; omega), show (i : Int) + 1 = ((i + 1 : Nat) : Int) by omega, ih (i + 1) (by omega), fitsGo_cons]
    by_cases c : (x2[i].f0.length : Int) = x0
    · rw [if_pos c, beq_iff_eq.2 c]
    · rw [if_neg c, beq_eq_false_iff_ne.2 c, fitsGo_false]
theorem thrumref14_Dim.of (a0 : Int) : thrumref14_Dim.f a0 = some (dimL a0) := linear_Dim.of a0
def thrumref14_Check.f (a0 : Int) (l1 : List Int) (l2 : List S24) : Option Int := some (checkL a0 l1 (l2.map sm))
theorem thrumref14_Check.calls (a0 : Int) (A1 : Option Addr) (c1 : Nat) (l1 : List Int) (A2 : Option Addr) (c2 : Nat) (l2 : List (S24)) (r : Int) (w : World) (hr1 : Kd.C (Kd.int .i64) w A1 l1.length l1) (hc1 : l1.length ≤ c1) (hr2 : Kd.C k24 w A2 l2.length l2) (hc2 : l2.length ≤ c2) (h : thrumref14_Check.f a0 l1 l2 = some r) :
    Calls Try.prog 62 #[.int .i64 a0, .slice A1 l1.length c1, .slice A2 l2.length c2] w fun e w' => e = .returned (.int .i64 r) ∧ Below w.heap.size w w' := by
  have hm := Kd.C_max hr2
  refine thrumref14_CheckP.calls (l2.length + 1) a0 A1 c1 l1 A2 c2 l2 r w hr1 hc1 hr2 hc2 (Eq.trans ?_ h)
  unfold thrumref14_CheckP.f thrumref14_Check.f
  rw [thrumref14_Dim.of, checkL_sm]
  unfold dimL
  simp only [Option.bind_some]
  by_cases c : a0 < 1 ∨ a0 > 16
  · rw [if_pos c, if_pos c]; rfl
  · rw [if_neg c, if_neg c]
    simp only [if_true]
    by_cases c2 : (l1.length : Int) = a0 + 1
    · rw [if_pos c2, beq_iff_eq.2 c2]
      exact thrumref14_CheckP.loop a0 l2 hm l2.length 0 (by omega)
    · rw [if_neg c2, beq_eq_false_iff_ne.2 c2]
      rw [fitsGo_false]


end Go.Proofs.Ytihgcjagokippaa.HS
