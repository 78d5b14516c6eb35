/- What Go functions do, each as a plain Lean function with the same answers, and the proof of it, in every world: printed by the session's driver over the kit's print, with texts by hand. -/
import Derived.Test.YtkfhdpnfcaghbaaHQx0
import Derived.Test.YtkfhdpnfcaghbaaHQx2
import Derived.Test.YtkfhdpnfcaghbaaHQx3
import Derived.Test.YtkfhdpnfcaghbaaMini
namespace Go.Proofs.Ytkfhdpnfcaghbaa.HQ
open Go.RowKit Go.Proofs.YtkfhdpnfcaghbaaW.PrintWords Go.Proofs.YtkfhdpnfcaghbaaW.PrintLast Go.Proofs.YtkfhdpnfcaghbaaW.PrintMore
attribute [local go_sem] max2_int min2_int max_two min_two max_three min_three max_four min_four   -- for this text's walks alone
open Go.Proofs.Ytkfhdpnfcaghbaa.Sp
attribute [local go_sem] Go.Proofs.Ytkfhdpnfcaghbaa.Sp.u64_not
set_option linter.unusedVariables false
set_option linter.unusedSimpArgs false

/-! ### quant_LevelP: function 47 -/
def quant_LevelP.j0 : Nat → Int → Int → Int → Bool → Option (Int × Int × Int)
 | 0, _, _, _, _ => none
 | k + 1, x0, x1, x9, x20 => if x20 = true then (some (0, 0, 1)) else (if x1 = 0 then (some (0, 0, 0)) else ((quant_size.f x0).bind fun t121 => ((bits_Mul64.f t121 x9).bind fun bt122 => ((bits_Div64.f bt122.1 bt122.2 (IntKind.u64.wrap (x1))).bind fun bt124 => (some (bt124.1, bt124.2, 0))))))
def quant_LevelP.f (k : Nat) (a0 : Int) (a1 : Int) (a2 : Int) : Option (Int × Int × Int) := (quant_Steps.f a2).bind fun bt118 => (if bt118.2 = 0 then (if a1 < 0 then (quant_LevelP.j0 k a0 a1 bt118.1 true) else ((quant_size.f a0).bind fun t120 => (quant_LevelP.j0 k a0 a1 bt118.1 (decide (t120 > (IntKind.u64.wrap (a1))))))) else (quant_LevelP.j0 k a0 a1 bt118.1 true))
theorem quant_LevelP.mono_l : ∀ k, (∀ y0 y1 y2 y3, LeO (quant_LevelP.j0 k y0 y1 y2 y3) (quant_LevelP.j0 (k + 1) y0 y1 y2 y3))
 | 0 => fun _ _ _ _ r h => by simp [quant_LevelP.j0] at h
 | k + 1 => by
  have ih0 := quant_LevelP.mono_l k
  ·
   intro y0 y1 y2 y3
   unfold quant_LevelP.j0
   repeat' first
   | (with_reducible exact ih0 _ _ _ _)
   | (with_reducible exact LeO.refl _)
   | (with_reducible exact LeO.none _)
   | (with_reducible refine LeO.ite ?_ ?_)
   | (with_reducible refine LeO.bind ?_ (fun _ => ?_))
theorem quant_LevelP.mono : ∀ a0 a1 a2 k, LeO (quant_LevelP.f k a0 a1 a2) (quant_LevelP.f (k + 1) a0 a1 a2) := by
 intro a0 a1 a2 k
 have ih0 := quant_LevelP.mono_l k
 unfold quant_LevelP.f
 repeat' first
   | (with_reducible exact ih0 _ _ _ _)
   | (with_reducible exact LeO.refl _)
   | (with_reducible exact LeO.none _)
   | (with_reducible refine LeO.ite ?_ ?_)
   | (with_reducible refine LeO.bind ?_ (fun _ => ?_))
set_option maxHeartbeats 8000000 in
set_option maxRecDepth 100000 in
theorem quant_LevelP.calls (k : Nat) (a0 : Int) (a1 : Int) (a2 : Int) (r1 : Int) (r2 : Int) (r3 : Int) (w : World) (h : quant_LevelP.f k a0 a1 a2 = some (r1, r2, r3)) :
  Calls Try.prog 47 #[.int .i64 a0, .int .i64 a1, .int .i64 a2] w fun e w' => e = .returned (.tuple #[.int .u64 r1, .int .u64 r2, .int .i64 r3]) ∧ Drawn0 w w' := by
 have H : ((quant_Steps.f a2).bind fun bt118 => (if bt118.2 = 0 then (if a1 < 0 then (quant_LevelP.j0 k a0 a1 bt118.1 true) else ((quant_size.f a0).bind fun t120 => (quant_LevelP.j0 k a0 a1 bt118.1 (decide (t120 > (IntKind.u64.wrap (a1))))))) else (quant_LevelP.j0 k a0 a1 bt118.1 true))) = some (r1, r2, r3) := h
 clear h
 replace H := Option.bind_eq_some_iff.mp H
 obtain ⟨⟨t118, t119⟩, A40, H⟩ := H
 replace H : (if t119 = 0 then (if a1 < 0 then (quant_LevelP.j0 k a0 a1 t118 true) else ((quant_size.f a0).bind fun t120 => (quant_LevelP.j0 k a0 a1 t118 (decide (t120 > (IntKind.u64.wrap (a1))))))) else (quant_LevelP.j0 k a0 a1 t118 true)) = some (r1, r2, r3) := H
 have A4 := ZM A40
 clear A40
 have HC5 := ZM H
 clear H
 go_enter Try.func47, Try.ntmps47
 go_upto_region 2 with (first | ((with_reducible refine gate_callee (f := 51) rfl ?_); refine goesL_ (some 17) rfl rfl Try.func51 (by kernel_rfl) rfl #[.int .i64 a2] rfl Z1 ?_; (with_reducible refine (quant_Steps.calls a2 t118 t119 _ A4.out).mono ?_); rintro e w' ⟨rfl, ⟨nd, rfl⟩⟩; refine ⟨_, rfl, ?_⟩))
 (try simp only [Act.put, Zt])
 go_cut [20] (fun v20 wc => ∃ (kq : Nat) (x20_4 : Bool), v20 = .bool x20_4 ∧ Aside0 (quant_LevelP.j0 kq a0 a1 t118 x20_4 = some (r1, r2, r3)) ∧ Aside0 (kq ≤ k) ∧ Drawn0 w wc)
 case first =>
  have H := HC5.out
  clear HC5
  by_cases c6 : t119 = 0
  case neg =>
   rw [if_neg c6] at H
   have c6b0 : (t119 == 0) = false := beq_eq_false_iff_ne.mpr c6
   have c6b1 : (t119 != 0) = true := bne_iff_ne.mpr c6
   (first | rw [c6b0] | (simp only [i64_w, i32_w]; rw [c6b0]) | skip)
   have H' := ZM H
   clear H
   go_wp2
   go_meet
   case rel => exact ⟨_, (true), Z5, H', ⟨by first | omega | exact Nat.le_refl _⟩, by repeat (first | exact ddR _ | apply ddS)⟩
  rw [if_pos c6] at H
  have c6b0 : (t119 == 0) = true := beq_iff_eq.mpr c6
  have c6b1 : (t119 != 0) = false := bne_eq_false_iff_eq.mpr c6
  clear c6
  (first | rw [c6b0] | (simp only [i64_w, i32_w]; rw [c6b0]) | skip)
  by_cases c7 : a1 < 0
  ·
   rw [if_pos c7] at H
   have c7b0 : decide (a1 < 0) = true := decide_eq_true c7
   clear c7
   have H' := ZM H
   clear H
   go_wp2
   go_meet
   case rel => exact ⟨_, (true), Z5, H', ⟨by first | omega | exact Nat.le_refl _⟩, by repeat (first | exact ddR _ | apply ddS)⟩
  rw [if_neg c7] at H
  have c7b0 : decide (a1 < 0) = false := decide_eq_false c7
  clear c7
  replace H := Option.bind_eq_some_iff.mp H
  obtain ⟨t120, A80, H⟩ := H
  replace H : (quant_LevelP.j0 k a0 a1 t118 (decide (t120 > (IntKind.u64.wrap (a1))))) = some (r1, r2, r3) := H
  have A8 := ZM A80
  clear A80
  have H' := ZM H
  clear H
  go_wp2_with (first | (go_at_call 88; (with_reducible refine (quant_size.calls a0 t120 _ A8.out).mono ?_); rintro e w' ⟨rfl, ⟨nd, rfl⟩⟩))
  go_meet
  case rel => exact ⟨_, (decide (t120 > (IntKind.u64.wrap (a1)))), Z5, H', ⟨by first | omega | exact Nat.le_refl _⟩, by repeat (first | exact ddR _ | apply ddS)⟩
 clear HC5
 obtain ⟨kq, x20_4, rfl, HA, HJ4, ⟨mc4, rfl⟩⟩ := hcut
 cases kq with
 | zero => exact absurd HA.out (by simp [quant_LevelP.j0])
 | succ kj4 =>
  have H := HA.out
  clear HA
  simp only [quant_LevelP.j0] at H
  by_cases c9 : x20_4 = true
  ·
   subst c9
   have H1 : (some (0, 0, 1)) = some (r1, r2, r3) := by rw [if_pos rfl] at H; exact H
   clear H
   have H := H1
   clear H1
   simp only [Option.some.injEq, Prod.mk.injEq] at H
   obtain ⟨rfl, rfl, rfl⟩ := H
   go_wp2
   go_ret3
   exact ⟨by first | rfl | (simp; done) | (simp [*]; done), by repeat (first | exact ddR _ | apply ddS)⟩
  replace c9 := Bool.eq_false_iff.mpr c9
  subst c9
  have H1 : (if a1 = 0 then (some (0, 0, 0)) else ((quant_size.f a0).bind fun t121 => ((bits_Mul64.f t121 t118).bind fun bt122 => ((bits_Div64.f bt122.1 bt122.2 (IntKind.u64.wrap (a1))).bind fun bt124 => (some (bt124.1, bt124.2, 0)))))) = some (r1, r2, r3) := by rw [if_neg (show ¬ (false = true) by decide)] at H; exact H
  clear H
  have H := H1
  clear H1
  by_cases c10 : a1 = 0
  ·
   rw [if_pos c10] at H
   have c10b0 : (a1 == 0) = true := beq_iff_eq.mpr c10
   have c10b1 : (a1 != 0) = false := bne_eq_false_iff_eq.mpr c10
   clear c10
   simp only [Option.some.injEq, Prod.mk.injEq] at H
   obtain ⟨rfl, rfl, rfl⟩ := H
   go_wp2
   go_ret3
   exact ⟨by first | rfl | (simp; done) | (simp [*]; done), by repeat (first | exact ddR _ | apply ddS)⟩
  rw [if_neg c10] at H
  have c10b0 : (a1 == 0) = false := beq_eq_false_iff_ne.mpr c10
  have c10b1 : (a1 != 0) = true := bne_iff_ne.mpr c10
  replace H := Option.bind_eq_some_iff.mp H
  obtain ⟨t121, A110, H⟩ := H
  replace H : ((bits_Mul64.f t121 t118).bind fun bt122 => ((bits_Div64.f bt122.1 bt122.2 (IntKind.u64.wrap (a1))).bind fun bt124 => (some (bt124.1, bt124.2, 0)))) = some (r1, r2, r3) := H
  have A11 := ZM A110
  clear A110
  replace H := Option.bind_eq_some_iff.mp H
  obtain ⟨⟨t122, t123⟩, A120, H⟩ := H
  replace H : ((bits_Div64.f t122 t123 (IntKind.u64.wrap (a1))).bind fun bt124 => (some (bt124.1, bt124.2, 0))) = some (r1, r2, r3) := H
  have A12 := ZM A120
  clear A120
  replace H := Option.bind_eq_some_iff.mp H
  obtain ⟨⟨t124, t125⟩, A130, H⟩ := H
  replace H : (some (t124, t125, 0)) = some (r1, r2, r3) := H
  have A13 := ZM A130
  clear A130
  simp only [Option.some.injEq, Prod.mk.injEq] at H
  obtain ⟨rfl, rfl, rfl⟩ := H
  go_wp2_with (first | ((with_reducible refine gate_callee (f := 88) rfl ?_); refine goesL_ (some 39) rfl rfl Try.func88 (by kernel_rfl) rfl #[.int .i64 a0] rfl Z1 ?_; (with_reducible refine (quant_size.calls a0 t121 _ A11.out).mono ?_); rintro e w' ⟨rfl, ⟨nd, rfl⟩⟩; refine ⟨_, rfl, ?_⟩) | ((with_reducible refine gate_callee (f := 89) rfl ?_); refine goesL_ (some 41) rfl rfl Try.func89 (by kernel_rfl) rfl #[.int .u64 t121, .int .u64 t118] rfl Z1 ?_; (with_reducible refine (bits_Mul64.calls t121 t118 t122 t123 _ A12.out).mono ?_); rintro e w' ⟨rfl, ⟨nd, rfl⟩⟩; refine ⟨_, rfl, ?_⟩) | ((with_reducible refine gate_callee (f := 90) rfl ?_); refine goesL_ (some 49) rfl rfl Try.func90 (by kernel_rfl) rfl #[.int .u64 t122, .int .u64 t123, .int .u64 (IntKind.u64.wrap (a1))] rfl Z1 ?_; (with_reducible refine (bits_Div64.calls t122 t123 (IntKind.u64.wrap (a1)) t124 t125 _ A13.out).mono ?_); rintro e w' ⟨rfl, ⟨nd, rfl⟩⟩; refine ⟨_, rfl, ?_⟩))
  go_ret3
  exact ⟨by first | rfl | (simp; done) | (simp [*]; done), by repeat (first | exact ddR _ | apply ddS)⟩
def quant_Level.f (a0 a1 a2 : Int) : Option (Int × Int × Int) := if I64 a0 ∧ I64 a1 then some (levelF a0 a1 a2) else none
theorem quant_Level.of (a0 a1 a2 : Int)  (h_ : I64 a0 ∧ I64 a1) : quant_Level.f a0 a1 a2 = some (levelF a0 a1 a2) := if_pos h_
theorem quant_Level.is (a0 a1 a2 : Int) (h0 : I64 a0) (h1 : I64 a1) : quant_LevelP.f 2 a0 a1 a2 = some (levelF a0 a1 a2) := by
  unfold quant_LevelP.f levelF quant_Steps.f stepsF
  simp only [Option.bind_some]
  by_cases cb : badW a2
  · rw [if_pos cb, if_neg (by decide), quant_LevelP.j0, if_pos rfl, if_pos (.inl cb)]
  · obtain ⟨t0, t1⟩ := topF_pos cb
    rw [if_neg cb, if_pos rfl]
    by_cases c1 : a1 < 0
    · rw [if_pos c1, quant_LevelP.j0, if_pos rfl, if_pos (.inr (.inl c1))]
    · rw [if_neg c1]
      unfold quant_size.f
      rw [if_pos h0]
      simp only [Option.bind_some]
      have hw : IntKind.u64.wrap a1 = a1 := by unfold I64 at h1; rw [wu]; omega
      rw [hw, quant_LevelP.j0]
      by_cases c2 : absN a0 > a1
      · rw [if_pos (decide_eq_true c2), if_pos (.inr (.inr c2))]
      · rw [if_neg (by simpa using c2), if_neg (show ¬ (badW a2 ∨ a1 < 0 ∨ absN a0 > a1) from fun h => h.elim cb (fun h => h.elim c1 c2))]
        by_cases c3 : a1 = 0
        · rw [if_pos c3, if_pos c3]
        · rw [if_neg c3, if_neg c3, quant_size.of a0 h0]
          simp only [Option.bind_some]
          have ha : 0 ≤ absN a0 := by unfold absN; omega
          unfold I64 at h1
          have hp0 : 0 ≤ absN a0 * topF a2 := Int.mul_nonneg ha (by omega)
          have hp1 : absN a0 * topF a2 ≤ a1 * 255 := Int.mul_le_mul (by omega) t1 (by omega) (by omega)
          unfold bits_Mul64.f bits_Div64.f
          rw [if_pos ⟨by unfold U64; omega, by unfold U64; omega⟩]
          simp only [Option.bind_some]
          rw [if_pos ⟨by unfold U64; omega, by unfold U64; omega, by unfold U64; omega, by omega⟩]
          simp only [Option.bind_some]
          rw [show absN a0 * topF a2 / 18446744073709551616 * 18446744073709551616 + absN a0 * topF a2 % 18446744073709551616 = absN a0 * topF a2 by omega, hw]
theorem quant_Level.calls (a0 : Int) (a1 : Int) (a2 : Int) (r1 : Int) (r2 : Int) (r3 : Int) (w : World) (h : quant_Level.f a0 a1 a2 = some (r1, r2, r3)) :
    Calls Try.prog 47 #[.int .i64 a0, .int .i64 a1, .int .i64 a2] w fun e w' => e = .returned (.tuple #[.int .u64 r1, .int .u64 r2, .int .i64 r3]) ∧ Drawn0 w w' := by
  unfold quant_Level.f at h
  split at h
  case isFalse => cases h
  rename_i hv
  exact quant_LevelP.calls 2 a0 a1 a2 r1 r2 r3 w ((quant_Level.is a0 a1 a2 hv.1 hv.2).trans h)


/-! ### vec_Check: function 95 -/
def vec_Check.f (l0 : List Int) : Option (Int) := if (l0.length : Int) > 4096 then (some 3) else (some 0)
set_option maxHeartbeats 8000000 in
set_option maxRecDepth 100000 in
theorem vec_Check.calls (A0 : Option Addr) (c0 : Nat) (l0 : List Int) (r : Int) (w : World) (hr0 : Kd.C (Kd.int .i64) w A0 l0.length l0) (hc0 : l0.length ≤ c0) (h : vec_Check.f l0 = some r) :
  Calls Try.prog 95 #[.slice A0 l0.length c0] w fun e w' => e = .returned (.int .i64 r) ∧ Drawn0 w w' := by
 have HR0 := ZM hr0
 have HC0 := ZM hc0
 clear hr0 hc0
 have H : (if (l0.length : Int) > 4096 then (some 3) else (some 0)) = some r := h
 clear h
 by_cases c2 : (l0.length : Int) > 4096
 case neg =>
  rw [if_neg c2] at H
  have c2b0 : decide (4096 < (l0.length : Int)) = false := decide_eq_false c2
  have c2b1 : decide (4096 < l0.length) = false := decide_eq_false (by omega)
  clear c2
  obtain rfl := Option.some.inj H
  go_enter Try.func95, Try.ntmps95
  go_wp2
  go_ret
  exact ⟨by first | rfl | (simp; done) | (simp [*]; done), by repeat (first | exact ddR _ | apply ddS)⟩
 rw [if_pos c2] at H
 have c2b0 : decide (4096 < (l0.length : Int)) = true := decide_eq_true c2
 have c2b1 : decide (4096 < l0.length) = true := decide_eq_true (by omega)
 clear c2
 obtain rfl := Option.some.inj H
 go_enter Try.func95, Try.ntmps95
 go_wp2
 go_ret
 exact ⟨by first | rfl | (simp; done) | (simp [*]; done), by repeat (first | exact ddR _ | apply ddS)⟩
theorem vec_Check.of (l0 : List Int) : vec_Check.f l0 = some (checkE l0) := by
  unfold vec_Check.f checkE
  by_cases c : l0.length > 4096
  · rw [if_pos (by omega), if_pos c]
  · rw [if_neg (by omega), if_neg c]


/-! ### fix_SubP: function 127 -/
def fix_SubP.f (a0 : Int) (a1 : Int) : Option (Int × Int) := if (Go.bits .and .i64 (Go.bits .xor .i64 a0 a1) (Go.bits .xor .i64 a0 (wrap64 (a0 - a1)))) < 0 then (some (0, 2)) else (some (wrap64 (a0 - a1), 0))
set_option maxHeartbeats 8000000 in
set_option maxRecDepth 100000 in
theorem fix_SubP.calls (a0 : Int) (a1 : Int) (r1 : Int) (r2 : Int) (w : World) (h : fix_SubP.f a0 a1 = some (r1, r2)) :
  Calls Try.prog 127 #[.int .i64 a0, .int .i64 a1] w fun e w' => e = .returned (.tuple #[.int .i64 r1, .int .i64 r2]) ∧ Drawn0 w w' := by
 have H : (if (Go.bits .and .i64 (Go.bits .xor .i64 a0 a1) (Go.bits .xor .i64 a0 (wrap64 (a0 - a1)))) < 0 then (some (0, 2)) else (some (wrap64 (a0 - a1), 0))) = some (r1, r2) := h
 clear h
 by_cases c3 : (Go.bits .and .i64 (Go.bits .xor .i64 a0 a1) (Go.bits .xor .i64 a0 (wrap64 (a0 - a1)))) < 0
 case neg =>
  rw [if_neg c3] at H
  have c3b0 : decide ((Go.bits .and .i64 (Go.bits .xor .i64 a0 a1) (Go.bits .xor .i64 a0 (wrap64 (a0 - a1)))) < 0) = false := decide_eq_false c3
  clear c3
  simp only [Option.some.injEq, Prod.mk.injEq] at H
  obtain ⟨rfl, rfl⟩ := H
  go_enter Try.func127, Try.ntmps127
  go_wp2
  go_ret2
  exact ⟨by first | rfl | (simp; done) | (simp [*]; done), by repeat (first | exact ddR _ | apply ddS)⟩
 rw [if_pos c3] at H
 have c3b0 : decide ((Go.bits .and .i64 (Go.bits .xor .i64 a0 a1) (Go.bits .xor .i64 a0 (wrap64 (a0 - a1)))) < 0) = true := decide_eq_true c3
 clear c3
 simp only [Option.some.injEq, Prod.mk.injEq] at H
 obtain ⟨rfl, rfl⟩ := H
 go_enter Try.func127, Try.ntmps127
 go_wp2
 go_ret2
 exact ⟨by first | rfl | (simp; done) | (simp [*]; done), by repeat (first | exact ddR _ | apply ddS)⟩
def fix_Sub.f (a0 a1 : Int) : Option (Int × Int) := if I64 a0 ∧ I64 a1 then some (res (a0 - a1)) else none
theorem fix_Sub.of (a0 a1 : Int)  (h_ : I64 a0 ∧ I64 a1) : fix_Sub.f a0 a1 = some (res (a0 - a1)) := if_pos h_
theorem fix_Sub.calls (a0 : Int) (a1 : Int) (r1 : Int) (r2 : Int) (w : World) (h : fix_Sub.f a0 a1 = some (r1, r2)) :
    Calls Try.prog 127 #[.int .i64 a0, .int .i64 a1] w fun e w' => e = .returned (.tuple #[.int .i64 r1, .int .i64 r2]) ∧ Drawn0 w w' := by
  unfold fix_Sub.f at h
  split at h
  · rename_i hu
    refine fix_SubP.calls a0 a1 r1 r2 w (Eq.trans ?_ h)
    unfold fix_SubP.f
    have hw := wrap64_i64 (a0 - a1)
    have t := and_neg (xor_i64_i64 a0 a1) (xor_i64_i64 a0 (wrap64 (a0 - a1)))
    rw [xor_neg hu.1 hu.2, xor_neg hu.1 hw] at t
    obtain ⟨h0, h1⟩ := hu
    by_cases c : I64 (a0 - a1)
    · rw [res_of c, wrap64_of c] at *
      rw [if_neg (by rw [t]; omega)]
    · rw [res_not c]
      unfold I64 at h0 h1 c
      rw [if_pos (by rw [t, wrap64_def]; omega)]
  · cases h


/-! ### fix_NegP: function 119 -/
def fix_NegP.f (a0 : Int) : Option (Int × Int) := (fix_Sub.f 0 a0).bind fun bt126 => (some (bt126.1, bt126.2))
set_option maxHeartbeats 8000000 in
set_option maxRecDepth 100000 in
theorem fix_NegP.calls (a0 : Int) (r1 : Int) (r2 : Int) (w : World) (h : fix_NegP.f a0 = some (r1, r2)) :
  Calls Try.prog 119 #[.int .i64 a0] w fun e w' => e = .returned (.tuple #[.int .i64 r1, .int .i64 r2]) ∧ Drawn0 w w' := by
 have H : ((fix_Sub.f 0 a0).bind fun bt126 => (some (bt126.1, bt126.2))) = some (r1, r2) := h
 clear h
 replace H := Option.bind_eq_some_iff.mp H
 obtain ⟨⟨t126, t127⟩, A20, H⟩ := H
 replace H : (some (t126, t127)) = some (r1, r2) := H
 have A2 := ZM A20
 clear A20
 simp only [Option.some.injEq, Prod.mk.injEq] at H
 obtain ⟨rfl, rfl⟩ := H
 go_enter Try.func119, Try.ntmps119
 go_wp2_with (first | ((with_reducible refine gate_callee (f := 127) rfl ?_); refine goesL_ (some 5) rfl rfl Try.func127 (by kernel_rfl) rfl #[.int .i64 0, .int .i64 a0] rfl Z1 ?_; (with_reducible refine (fix_Sub.calls 0 a0 t126 t127 _ A2.out).mono ?_); rintro e w' ⟨rfl, ⟨nd, rfl⟩⟩; refine ⟨_, rfl, ?_⟩))
 go_ret2
 exact ⟨by first | rfl | (simp; done) | (simp [*]; done), by repeat (first | exact ddR _ | apply ddS)⟩
def fix_Neg.f (a0 : Int) : Option (Int × Int) := if I64 a0 then some (res (-a0)) else none
theorem fix_Neg.of (a0 : Int)  (h_ : I64 a0) : fix_Neg.f a0 = some (res (-a0)) := if_pos h_
theorem fix_Neg.calls (a0 : Int) (r1 : Int) (r2 : Int) (w : World) (h : fix_Neg.f a0 = some (r1, r2)) :
    Calls Try.prog 119 #[.int .i64 a0] w fun e w' => e = .returned (.tuple #[.int .i64 r1, .int .i64 r2]) ∧ Drawn0 w w' := by
  unfold fix_Neg.f at h
  split at h
  · rename_i hu
    refine fix_NegP.calls a0 r1 r2 w (Eq.trans ?_ h)
    unfold fix_NegP.f fix_Sub.f
    rw [if_pos ⟨i64_zero, hu⟩]; simp
  · cases h


/-! ### fix_AbsP: function 98 -/
def fix_AbsP.f (a0 : Int) : Option (Int × Int) := if a0 ≥ 0 then (some (a0, 0)) else ((fix_Neg.f a0).bind fun bt128 => (some (bt128.1, bt128.2)))
set_option maxHeartbeats 8000000 in
set_option maxRecDepth 100000 in
theorem fix_AbsP.calls (a0 : Int) (r1 : Int) (r2 : Int) (w : World) (h : fix_AbsP.f a0 = some (r1, r2)) :
  Calls Try.prog 98 #[.int .i64 a0] w fun e w' => e = .returned (.tuple #[.int .i64 r1, .int .i64 r2]) ∧ Drawn0 w w' := by
 have H : (if a0 ≥ 0 then (some (a0, 0)) else ((fix_Neg.f a0).bind fun bt128 => (some (bt128.1, bt128.2)))) = some (r1, r2) := h
 clear h
 by_cases c2 : a0 ≥ 0
 ·
  rw [if_pos c2] at H
  have c2b0 : decide (0 ≤ a0) = true := decide_eq_true c2
  clear c2
  simp only [Option.some.injEq, Prod.mk.injEq] at H
  obtain ⟨rfl, rfl⟩ := H
  go_enter Try.func98, Try.ntmps98
  go_wp2
  go_ret2
  exact ⟨by first | rfl | (simp; done) | (simp [*]; done), by repeat (first | exact ddR _ | apply ddS)⟩
 rw [if_neg c2] at H
 have c2b0 : decide (0 ≤ a0) = false := decide_eq_false c2
 clear c2
 replace H := Option.bind_eq_some_iff.mp H
 obtain ⟨⟨t128, t129⟩, A30, H⟩ := H
 replace H : (some (t128, t129)) = some (r1, r2) := H
 have A3 := ZM A30
 clear A30
 simp only [Option.some.injEq, Prod.mk.injEq] at H
 obtain ⟨rfl, rfl⟩ := H
 go_enter Try.func98, Try.ntmps98
 go_wp2_with (first | ((with_reducible refine gate_callee (f := 119) rfl ?_); refine goesL_ (some 8) rfl rfl Try.func119 (by kernel_rfl) rfl #[.int .i64 a0] rfl Z1 ?_; (with_reducible refine (fix_Neg.calls a0 t128 t129 _ A3.out).mono ?_); rintro e w' ⟨rfl, ⟨nd, rfl⟩⟩; refine ⟨_, rfl, ?_⟩))
 go_ret2
 exact ⟨by first | rfl | (simp; done) | (simp [*]; done), by repeat (first | exact ddR _ | apply ddS)⟩
def fix_Abs.f (a0 : Int) : Option (Int × Int) := if I64 a0 then some (res (a0.natAbs : Int)) else none
theorem fix_Abs.of (a0 : Int)  (h_ : I64 a0) : fix_Abs.f a0 = some (res (a0.natAbs : Int)) := if_pos h_
theorem fix_Abs.calls (a0 : Int) (r1 : Int) (r2 : Int) (w : World) (h : fix_Abs.f a0 = some (r1, r2)) :
    Calls Try.prog 98 #[.int .i64 a0] w fun e w' => e = .returned (.tuple #[.int .i64 r1, .int .i64 r2]) ∧ Drawn0 w w' := by
  unfold fix_Abs.f at h
  split at h
  · rename_i hu
    refine fix_AbsP.calls a0 r1 r2 w (Eq.trans ?_ h)
    unfold fix_AbsP.f fix_Neg.f
    by_cases c : a0 ≥ 0
    · rw [if_pos c, show (a0.natAbs : Int) = a0 by omega, res_of hu]
    · rw [if_neg c, if_pos hu, show (a0.natAbs : Int) = -a0 by omega]; simp
  · cases h


/-! ### vec_MostP: function 65 -/
def vec_MostP.l0 : Nat → Int → List Int → Int → Int → Option (Int × Int)
 | 0, _, _, _, _ => none
 | k + 1, x2, x14, x15, x16 => if x16 < x15 then (if 0 ≤ x16 then (if x16 < (x14.length : Int) then ((fix_Abs.f (rd x14 x16)).bind fun bt132 => (if bt132.2 = 0 then (vec_MostP.l0 k (mx x2 bt132.1) x14 x15 (wrap64 (x16 + 1))) else (some (0, bt132.2)))) else (none)) else (none)) else (some (x2, 0))
def vec_MostP.f (k : Nat) (l0 : List Int) : Option (Int × Int) := (vec_Check.f l0).bind fun t130 => (if t130 = 0 then (vec_MostP.l0 k 0 l0 (l0.length : Int) 0) else (some (0, t130)))
theorem vec_MostP.mono_l : ∀ k, (∀ y0 y1 y2 y3, LeO (vec_MostP.l0 k y0 y1 y2 y3) (vec_MostP.l0 (k + 1) y0 y1 y2 y3))
 | 0 => fun _ _ _ _ r h => by simp [vec_MostP.l0] at h
 | k + 1 => by
  have ih0 := vec_MostP.mono_l k
  ·
   intro y0 y1 y2 y3
   unfold vec_MostP.l0
   repeat' first
   | (with_reducible exact ih0 _ _ _ _)
   | (with_reducible exact LeO.refl _)
   | (with_reducible exact LeO.none _)
   | (with_reducible refine LeO.ite ?_ ?_)
   | (with_reducible refine LeO.bind ?_ (fun _ => ?_))
theorem vec_MostP.mono : ∀ a0 k, LeO (vec_MostP.f k a0) (vec_MostP.f (k + 1) a0) := by
 intro a0 k
 have ih0 := vec_MostP.mono_l k
 unfold vec_MostP.f
 repeat' first
   | (with_reducible exact ih0 _ _ _ _)
   | (with_reducible exact LeO.refl _)
   | (with_reducible exact LeO.none _)
   | (with_reducible refine LeO.ite ?_ ?_)
   | (with_reducible refine LeO.bind ?_ (fun _ => ?_))
set_option maxHeartbeats 8000000 in
set_option maxRecDepth 100000 in
theorem vec_MostP.calls (k : Nat) (A0 : Option Addr) (c0 : Nat) (l0 : List Int) (r1 : Int) (r2 : Int) (w : World) (hr0 : Kd.C (Kd.int .i64) w A0 l0.length l0) (hc0 : l0.length ≤ c0) (h : vec_MostP.f k l0 = some (r1, r2)) :
  Calls Try.prog 65 #[.slice A0 l0.length c0] w fun e w' => e = .returned (.tuple #[.int .i64 r1, .int .i64 r2]) ∧ Below w.heap.size w w' := by
 have HR0 := ZM hr0
 have HC0 := ZM hc0
 clear hr0 hc0
 have HB := ZM (Below.refl w.heap.size w)
 have H : ((vec_Check.f l0).bind fun t130 => (if t130 = 0 then (vec_MostP.l0 k 0 l0 (l0.length : Int) 0) else (some (0, t130)))) = some (r1, r2) := h
 clear h
 replace H := Option.bind_eq_some_iff.mp H
 obtain ⟨t130, A20, H⟩ := H
 replace H : (if t130 = 0 then (vec_MostP.l0 k 0 l0 (l0.length : Int) 0) else (some (0, t130))) = some (r1, r2) := H
 have A2 := ZM A20
 clear A20
 by_cases c3 : t130 = 0
 case neg =>
  rw [if_neg c3] at H
  have c3b0 : (t130 == 0) = false := beq_eq_false_iff_ne.mpr c3
  have c3b1 : (t130 != 0) = true := bne_iff_ne.mpr c3
  simp only [Option.some.injEq, Prod.mk.injEq] at H
  obtain ⟨rfl, rfl⟩ := H
  go_enter Try.func65, Try.ntmps65
  go_wp2_with (first | ((with_reducible refine gate_callee (f := 95) rfl ?_); refine goesL_ (some 10) rfl rfl Try.func95 (by kernel_rfl) rfl #[.slice A0 l0.length c0] rfl Z1 ?_; (with_reducible refine (vec_Check.calls _ _ l0 t130 _ ?side1 ?side2 A2.out).mono ?_); (case side1 => exact Z70); (case side2 => exact HC0.out); rintro e w' ⟨rfl, ⟨nd, rfl⟩⟩; refine ⟨_, rfl, ?_⟩))
  go_ret2
  exact ⟨by first | rfl | (simp [errW_none, errW_some] <;> rfl) | (simp [*, errW_none, errW_some] <;> rfl), by repeat (first | (with_reducible first | exact HB.out | apply zzA | apply zzN | apply zzD) | exact HB.out)⟩
 rw [if_pos c3] at H
 have c3b0 : (t130 == 0) = true := beq_iff_eq.mpr c3
 have c3b1 : (t130 != 0) = false := bne_eq_false_iff_eq.mpr c3
 clear c3
 have H' := ZM H
 clear H
 go_enter Try.func65, Try.ntmps65
 go_wp2_with (first | ((with_reducible refine gate_callee (f := 95) rfl ?_); refine goesL_ (some 10) rfl rfl Try.func95 (by kernel_rfl) rfl #[.slice A0 l0.length c0] rfl Z1 ?_; (with_reducible refine (vec_Check.calls _ _ l0 t130 _ ?side1 ?side2 A2.out).mono ?_); (case side1 => exact Z70); (case side2 => exact HC0.out); rintro e w' ⟨rfl, ⟨nd, rfl⟩⟩; refine ⟨_, rfl, ?_⟩))
 go_loopg [2, 16] k (fun kq v2 v16 w' => ∃ (x2_1 : Int) (x16_1 : Int), v2 = .int .i64 x2_1 ∧ v16 = .int .i64 x16_1 ∧ Aside0 (vec_MostP.l0 kq x2_1 l0 (l0.length : Int) x16_1 = some (r1, r2)) ∧ Aside0 (kq ≤ k) ∧ Aside0 (Below w.heap.size w w'))
 case atStart => exact ⟨(0), (0), Z5, Z5, H', ⟨Nat.le_refl _⟩, ⟨by repeat (first | (with_reducible first | exact HB.out | apply zzA | apply zzN | apply zzD) | exact HB.out)⟩⟩
 case round =>
  clear H'
  try clear c3
  try clear c3b0
  try clear c3b1
  obtain ⟨x2_1, x16_1, rfl, rfl, HA, HK1, HB⟩ := hrel
  cases gk with
  | zero => exact absurd HA.out (by simp [vec_MostP.l0])
  | succ k1 =>
   have H := HA.out
   clear HA
   simp only [vec_MostP.l0] at H
   by_cases c4 : x16_1 < (l0.length : Int)
   case neg =>
    rw [if_neg c4] at H
    have c4b0 : decide (x16_1 < (l0.length : Int)) = false := decide_eq_false c4
    clear c4
    simp only [Option.some.injEq, Prod.mk.injEq] at H
    obtain ⟨rfl, rfl⟩ := H
    go_wp2
    go_ret2
    exact ⟨by first | rfl | (simp [errW_none, errW_some] <;> rfl) | (simp [*, errW_none, errW_some] <;> rfl), by repeat (first | (with_reducible first | exact HB.out | apply zzA | apply zzN | apply zzD) | exact HB.out)⟩
   rw [if_pos c4] at H
   have c4b0 : decide (x16_1 < (l0.length : Int)) = true := decide_eq_true c4
   clear c4
   by_cases c5 : 0 ≤ x16_1
   case neg =>
    rw [if_neg c5] at H
    exact absurd H (by simp)
   rw [if_pos c5] at H
   have c5b0 : decide (0 ≤ x16_1) = true := decide_eq_true c5
   clear c5
   by_cases c6 : x16_1 < (l0.length : Int)
   case neg =>
    rw [if_neg c6] at H
    exact absurd H (by simp)
   rw [if_pos c6] at H
   have c6b0 : decide (x16_1 < (l0.length : Int)) = true := decide_eq_true c6
   clear c6
   replace H := Option.bind_eq_some_iff.mp H
   obtain ⟨⟨t132, t133⟩, A70, H⟩ := H
   replace H : (if t133 = 0 then (vec_MostP.l0 k1 (mx x2_1 t132) l0 (l0.length : Int) (wrap64 (x16_1 + 1))) else (some (0, t133))) = some (r1, r2) := H
   have A7 := ZM A70
   clear A70
   by_cases c8 : t133 = 0
   case neg =>
    rw [if_neg c8] at H
    have c8b0 : (t133 == 0) = false := beq_eq_false_iff_ne.mpr c8
    have c8b1 : (t133 != 0) = true := bne_iff_ne.mpr c8
    simp only [Option.some.injEq, Prod.mk.injEq] at H
    obtain ⟨rfl, rfl⟩ := H
    have p131 : 0 ≤ (x16_1 : Int) := of_decide_eq_true Z2
    have q131 : x16_1 < (l0.length : Int) := of_decide_eq_true Z2
    obtain ⟨ad131, e131, hx131_0⟩ := Kd.at_int HR0.out x16_1 p131 q131
    cases e131
    replace hx131_0 := (HB.out.cell (World.block_lt_of_cell? w _ hx131_0)).trans hx131_0
    replace p131 := eq_true p131
    replace q131 := eq_true q131
    go_wp2_with (first | ((with_reducible refine gate_callee (f := 98) rfl ?_); refine goesL_ (some 22) rfl rfl Try.func98 (by kernel_rfl) rfl #[.int .i64 (rd l0 x16_1)] rfl Z1 ?_; (with_reducible refine (fix_Abs.calls (rd l0 x16_1) t132 t133 _ A7.out).mono ?_); rintro e w' ⟨rfl, ⟨nd, rfl⟩⟩; refine ⟨_, rfl, ?_⟩))
    go_ret2
    exact ⟨by first | rfl | (simp [errW_none, errW_some] <;> rfl) | (simp [*, errW_none, errW_some] <;> rfl), by repeat (first | (with_reducible first | exact HB.out | apply zzA | apply zzN | apply zzD) | exact HB.out)⟩
   rw [if_pos c8] at H
   have c8b0 : (t133 == 0) = true := beq_iff_eq.mpr c8
   have c8b1 : (t133 != 0) = false := bne_eq_false_iff_eq.mpr c8
   clear c8
   obtain ⟨ji9, hji9⟩ : ∃ j_ : Int, (mx x2_1 t132) = j_ := ⟨_, rfl⟩
   replace H : (vec_MostP.l0 k1 ji9 l0 (l0.length : Int) (wrap64 (x16_1 + 1))) = some (r1, r2) := by first | (rw [hji9] at H; exact H) | (simp only [hji9] at H ⊢; exact H)
   (try rw [hji9] at A7)
   have hji9_ : (if x2_1 < t132 then t132 else x2_1) = ji9 := hji9
   have H' := ZM H
   clear H
   have p131 : 0 ≤ (x16_1 : Int) := of_decide_eq_true Z2
   have q131 : x16_1 < (l0.length : Int) := of_decide_eq_true Z2
   obtain ⟨ad131, e131, hx131_0⟩ := Kd.at_int HR0.out x16_1 p131 q131
   cases e131
   replace hx131_0 := (HB.out.cell (World.block_lt_of_cell? w _ hx131_0)).trans hx131_0
   replace p131 := eq_true p131
   replace q131 := eq_true q131
   go_wp2_with (first | ((with_reducible refine gate_callee (f := 98) rfl ?_); refine goesL_ (some 22) rfl rfl Try.func98 (by kernel_rfl) rfl #[.int .i64 (rd l0 x16_1)] rfl Z1 ?_; (with_reducible refine (fix_Abs.calls (rd l0 x16_1) t132 t133 _ A7.out).mono ?_); rintro e w' ⟨rfl, ⟨nd, rfl⟩⟩; refine ⟨_, rfl, ?_⟩))
   go_roundg k1
   case measure => have := HK1.out; omega
   case rel => exact ⟨(ji9), (wrap64 (x16_1 + 1)), (by first | rfl | (simp; done) | (simp only [← hji9] <;> (first | rfl | simp)) | (simp [*]; done)), Z5, H', ⟨by have := HK1.out; omega⟩, ⟨by repeat (first | (with_reducible first | exact HB.out | apply zzA | apply zzN | apply zzD) | exact HB.out)⟩⟩
theorem vec_MostP.loop (x0 : List Int) (hv : V64 x0) (hb : x0.length ≤ 4096) : ∀ (d i : Nat) (m : Int), d + i = x0.length →
    vec_MostP.l0 (d + 1) m x0 (x0.length : Int) (i : Int) = some (mostGo ((x0.drop i).map absF) m) := by
  intro d
  induction d with
  | zero =>
    intro i m hd
    rw [vec_MostP.l0, if_neg (by omega), List.drop_eq_nil_of_le (by omega)]; rfl
  | succ d ih =>
    intro i m hd
    have hi : i < x0.length := by omega
    rw [vec_MostP.l0, if_pos (by omega), if_pos (by omega), if_pos (by omega), fix_Abs.of _ (hv.rd _), List.drop_eq_getElem_cons hi, show rd x0 (i : Int) = x0[i] from rd_nat hi]
    simp only [Option.bind_some, List.map_cons, mostGo]
    by_cases c : (absF x0[i]).2 = 0
    · rw [if_pos c, if_pos (show (res (x0[i].natAbs : Int)).2 = 0 from c), wrap64_of (by unfold I64; omega), show (i : Int) + 1 = ((i + 1 : Nat) : Int) by omega]
      exact ih (i + 1) _ (by omega)
    · rw [if_neg c, if_neg (show ¬ (res (x0[i].natAbs : Int)).2 = 0 from c)]; rfl
def vec_Most.f (l0 : List Int) : Option (Int × Int) := if V64 l0 then some (mostV l0) else none
theorem vec_Most.of (l0 : List Int)  (h_ : V64 l0) : vec_Most.f l0 = some (mostV l0) := if_pos h_
theorem vec_Most.calls (A0 : Option Addr) (c0 : Nat) (l0 : List Int) (r1 : Int) (r2 : Int) (w : World) (hr0 : Kd.C (Kd.int .i64) w A0 l0.length l0) (hc0 : l0.length ≤ c0) (h : vec_Most.f l0 = some (r1, r2)) :
    Calls Try.prog 65 #[.slice A0 l0.length c0] w fun e w' => e = .returned (.tuple #[.int .i64 r1, .int .i64 r2]) ∧ Below w.heap.size w w' := by
  unfold vec_Most.f at h
  split at h
  case isFalse => cases h
  rename_i hv
  refine vec_MostP.calls (l0.length + 1) A0 c0 l0 r1 r2 w hr0 hc0 (Eq.trans ?_ h)
  unfold vec_MostP.f mostV
  rw [vec_Check.of]
  simp only [Option.bind_some]
  by_cases c : checkE l0 = 0
  · rw [if_pos c, if_pos c]
    exact vec_MostP.loop l0 hv (checkE_le c) l0.length 0 0 (by omega)
  · rw [if_neg c, if_neg c]


/-! ### draw_stir_with: function 131 -/
def draw_stir_with.f (a0 : Int) (a1 : Int) : Option (Int) := some (Go.bits .xor .u64 (IntKind.u64.wrap ((Go.bits .xor .u64 a0 (IntKind.u64.wrap (a1))) * 11400714819323198485)) ((IntKind.u64.wrap ((Go.bits .xor .u64 a0 (IntKind.u64.wrap (a1))) * 11400714819323198485)) / 536870912))
set_option maxHeartbeats 8000000 in
set_option maxRecDepth 100000 in
theorem draw_stir_with.calls (a0 : Int) (a1 : Int) (r : Int) (w : World) (h : draw_stir_with.f a0 a1 = some r) :
  Calls Try.prog 131 #[.int .u64 a0, .int .i64 a1] w fun e w' => e = .returned (.int .u64 r) ∧ Drawn0 w w' := by
 have H : (some (Go.bits .xor .u64 (IntKind.u64.wrap ((Go.bits .xor .u64 a0 (IntKind.u64.wrap (a1))) * 11400714819323198485)) ((IntKind.u64.wrap ((Go.bits .xor .u64 a0 (IntKind.u64.wrap (a1))) * 11400714819323198485)) / 536870912))) = some r := h
 clear h
 obtain rfl := Option.some.inj H
 go_enter Try.func131, Try.ntmps131
 go_wp2
 go_ret
 exact ⟨by first | rfl | (simp; done) | (simp [*]; done), by repeat (first | exact ddR _ | apply ddS)⟩
/-! ### draw_over: function 128 -/
def draw_over.l0 : Nat → Int → List Int → Int → Int → Option (Int)
 | 0, _, _, _, _ => none
 | k + 1, x5, x9, x10, x11 => if x11 < x10 then (if 0 ≤ x11 then (if x11 < (x9.length : Int) then ((draw_stir_with.f x5 (rd x9 x11)).bind fun t135 => (draw_over.l0 k t135 x9 x10 (wrap64 (x11 + 1)))) else (none)) else (none)) else (some x5)
def draw_over.f (k : Nat) (a0 : Int) (l1 : List Int) : Option (Int) := draw_over.l0 k a0 l1 (l1.length : Int) 0
theorem draw_over.mono_l : ∀ k, (∀ y0 y1 y2 y3, LeO (draw_over.l0 k y0 y1 y2 y3) (draw_over.l0 (k + 1) y0 y1 y2 y3))
 | 0 => fun _ _ _ _ r h => by simp [draw_over.l0] at h
 | k + 1 => by
  have ih0 := draw_over.mono_l k
  ·
   intro y0 y1 y2 y3
   unfold draw_over.l0
   repeat' first
   | (with_reducible exact ih0 _ _ _ _)
   | (with_reducible exact LeO.refl _)
   | (with_reducible exact LeO.none _)
   | (with_reducible refine LeO.ite ?_ ?_)
   | (with_reducible refine LeO.bind ?_ (fun _ => ?_))
theorem draw_over.mono : ∀ a0 a1 k, LeO (draw_over.f k a0 a1) (draw_over.f (k + 1) a0 a1) := by
 intro a0 a1 k
 have ih0 := draw_over.mono_l k
 unfold draw_over.f
 repeat' first
   | (with_reducible exact ih0 _ _ _ _)
   | (with_reducible exact LeO.refl _)
   | (with_reducible exact LeO.none _)
   | (with_reducible refine LeO.ite ?_ ?_)
   | (with_reducible refine LeO.bind ?_ (fun _ => ?_))
set_option maxHeartbeats 8000000 in
set_option maxRecDepth 100000 in
theorem draw_over.calls (k : Nat) (a0 : Int) (A1 : Option Addr) (c1 : Nat) (l1 : List Int) (r : Int) (w : World) (hr1 : Kd.C (Kd.int .i64) w A1 l1.length l1) (hc1 : l1.length ≤ c1) (h : draw_over.f k a0 l1 = some r) :
  Calls Try.prog 128 #[.int .u64 a0, .slice A1 l1.length c1] w fun e w' => e = .returned (.int .u64 r) ∧ Drawn0 w w' := by
 have HR1 := ZM hr1
 have HC1 := ZM hc1
 clear hr1 hc1
 have H : (draw_over.l0 k a0 l1 (l1.length : Int) 0) = some r := h
 clear h
 have H' := ZM H
 clear H
 go_enter Try.func128, Try.ntmps128
 go_wp2
 go_loopg [5, 11] k (fun kq v5 v11 w' => ∃ (x5_1 : Int) (x11_1 : Int), v5 = .int .u64 x5_1 ∧ v11 = .int .i64 x11_1 ∧ Aside0 (draw_over.l0 kq x5_1 l1 (l1.length : Int) x11_1 = some r) ∧ Aside0 (kq ≤ k) ∧ Drawn0 w w')
 case atStart => exact ⟨(a0), (0), Z5, Z5, H', ⟨Nat.le_refl _⟩, by repeat (first | exact ddR _ | apply ddS)⟩
 case round =>
  clear H'
  try clear c1
  obtain ⟨x5_1, x11_1, rfl, rfl, HA, HK1, ⟨m1, rfl⟩⟩ := hrel
  cases gk with
  | zero => exact absurd HA.out (by simp [draw_over.l0])
  | succ k1 =>
   have H := HA.out
   clear HA
   simp only [draw_over.l0] at H
   by_cases c3 : x11_1 < (l1.length : Int)
   case neg =>
    rw [if_neg c3] at H
    have c3b0 : decide (x11_1 < (l1.length : Int)) = false := decide_eq_false c3
    clear c3
    obtain rfl := Option.some.inj H
    go_wp2
    go_ret
    exact ⟨by first | rfl | (simp; done) | (simp [*]; done), by repeat (first | exact ddR _ | apply ddS)⟩
   rw [if_pos c3] at H
   have c3b0 : decide (x11_1 < (l1.length : Int)) = true := decide_eq_true c3
   clear c3
   by_cases c4 : 0 ≤ x11_1
   case neg =>
    rw [if_neg c4] at H
    exact absurd H (by simp)
   rw [if_pos c4] at H
   have c4b0 : decide (0 ≤ x11_1) = true := decide_eq_true c4
   clear c4
   by_cases c5 : x11_1 < (l1.length : Int)
   case neg =>
    rw [if_neg c5] at H
    exact absurd H (by simp)
   rw [if_pos c5] at H
   have c5b0 : decide (x11_1 < (l1.length : Int)) = true := decide_eq_true c5
   clear c5
   replace H := Option.bind_eq_some_iff.mp H
   obtain ⟨t135, A60, H⟩ := H
   replace H : (draw_over.l0 k1 t135 l1 (l1.length : Int) (wrap64 (x11_1 + 1))) = some r := H
   have A6 := ZM A60
   clear A60
   have H' := ZM H
   clear H
   have p134 : 0 ≤ (x11_1 : Int) := of_decide_eq_true Z2
   have q134 : x11_1 < (l1.length : Int) := of_decide_eq_true Z2
   obtain ⟨ad134, e134, hx134_0⟩ := Kd.at_int HR1.out x11_1 p134 q134
   cases e134
   replace p134 := eq_true p134
   replace q134 := eq_true q134
   go_wp2_with (first | ((with_reducible refine gate_callee (f := 131) rfl ?_); refine goesL_ (some 17) rfl rfl Try.func131 (by kernel_rfl) rfl #[.int .u64 x5_1, .int .i64 (rd l1 x11_1)] rfl Z1 ?_; (with_reducible refine (draw_stir_with.calls x5_1 (rd l1 x11_1) t135 _ A6.out).mono ?_); rintro e w' ⟨rfl, ⟨nd, rfl⟩⟩; refine ⟨_, rfl, ?_⟩))
   go_roundg k1
   case measure => have := HK1.out; omega
   case rel => exact ⟨(t135), (wrap64 (x11_1 + 1)), Z5, Z5, H', ⟨by have := HK1.out; omega⟩, by repeat (first | exact ddR _ | apply ddS)⟩
/-! ### draw_stir_end: function 129 -/
def draw_stir_end.f (a0 : Int) : Option (Int) := some (Go.bits .xor .u64 (IntKind.u64.wrap (a0 * 13787848793156543929)) ((IntKind.u64.wrap (a0 * 13787848793156543929)) / 4294967296))
set_option maxHeartbeats 8000000 in
set_option maxRecDepth 100000 in
theorem draw_stir_end.calls (a0 : Int) (r : Int) (w : World) (h : draw_stir_end.f a0 = some r) :
  Calls Try.prog 129 #[.int .u64 a0] w fun e w' => e = .returned (.int .u64 r) ∧ Drawn0 w w' := by
 have H : (some (Go.bits .xor .u64 (IntKind.u64.wrap (a0 * 13787848793156543929)) ((IntKind.u64.wrap (a0 * 13787848793156543929)) / 4294967296))) = some r := h
 clear h
 obtain rfl := Option.some.inj H
 go_enter Try.func129, Try.ntmps129
 go_wp2
 go_ret
 exact ⟨by first | rfl | (simp; done) | (simp [*]; done), by repeat (first | exact ddR _ | apply ddS)⟩
/-! ### draw_At: function 120 -/
def draw_At.f (k : Nat) (a0 : Int) (l1 : List Int) : Option (Int) := (draw_over.f k a0 l1).bind fun t136 => ((draw_stir_end.f t136).bind fun t137 => (some t137))
theorem draw_At.mono : ∀ a0 a1 k, LeO (draw_At.f k a0 a1) (draw_At.f (k + 1) a0 a1) := by
 intro a0 a1 k
 unfold draw_At.f
 repeat' first
   | (with_reducible exact draw_over.mono _ _ _)
   | (with_reducible exact LeO.refl _)
   | (with_reducible exact LeO.none _)
   | (with_reducible refine LeO.ite ?_ ?_)
   | (with_reducible refine LeO.bind ?_ (fun _ => ?_))
set_option maxHeartbeats 8000000 in
set_option maxRecDepth 100000 in
theorem draw_At.calls (k : Nat) (a0 : Int) (A1 : Option Addr) (c1 : Nat) (l1 : List Int) (r : Int) (w : World) (hr1 : Kd.C (Kd.int .i64) w A1 l1.length l1) (hc1 : l1.length ≤ c1) (h : draw_At.f k a0 l1 = some r) :
  Calls Try.prog 120 #[.int .u64 a0, .slice A1 l1.length c1] w fun e w' => e = .returned (.int .u64 r) ∧ Drawn0 w w' := by
 have HR1 := ZM hr1
 have HC1 := ZM hc1
 clear hr1 hc1
 have H : ((draw_over.f k a0 l1).bind fun t136 => ((draw_stir_end.f t136).bind fun t137 => (some t137))) = some r := h
 clear h
 replace H := Option.bind_eq_some_iff.mp H
 obtain ⟨t136, A30, H⟩ := H
 replace H : ((draw_stir_end.f t136).bind fun t137 => (some t137)) = some r := H
 have A3 := ZM A30
 clear A30
 replace H := Option.bind_eq_some_iff.mp H
 obtain ⟨t137, A40, H⟩ := H
 replace H : (some t137) = some r := H
 have A4 := ZM A40
 clear A40
 obtain rfl := Option.some.inj H
 go_enter Try.func120, Try.ntmps120
 go_wp2_with (first | ((with_reducible refine gate_callee (f := 128) rfl ?_); refine goesL_ (some 7) rfl rfl Try.func128 (by kernel_rfl) rfl #[.int .u64 a0, .slice A1 l1.length c1] rfl Z1 ?_; (with_reducible refine (draw_over.calls k a0 _ _ l1 t136 _ ?side1 ?side2 A3.out).mono ?_); (case side1 => exact Z32); (case side2 => exact HC1.out); rintro e w' ⟨rfl, ⟨nd, rfl⟩⟩; refine ⟨_, rfl, ?_⟩) | ((with_reducible refine gate_callee (f := 129) rfl ?_); refine goesL_ (some 8) rfl rfl Try.func129 (by kernel_rfl) rfl #[.int .u64 t136] rfl Z1 ?_; (with_reducible refine (draw_stir_end.calls t136 t137 _ A4.out).mono ?_); rintro e w' ⟨rfl, ⟨nd, rfl⟩⟩; refine ⟨_, rfl, ?_⟩))
 go_ret
 exact ⟨by first | rfl | (simp; done) | (simp [*]; done), by repeat (first | exact ddR _ | apply ddS)⟩
/-! ### draw_Below: function 100 -/
def draw_Below.f (k : Nat) (a0 : Int) (a1 : Int) (l2 : List Int) : Option (Int × Int) := if a0 = 0 then (some (0, 1)) else ((draw_At.f k a1 l2).bind fun t138 => (some (Int.tmod t138 a0, 0)))
theorem draw_Below.mono : ∀ a0 a1 a2 k, LeO (draw_Below.f k a0 a1 a2) (draw_Below.f (k + 1) a0 a1 a2) := by
 intro a0 a1 a2 k
 unfold draw_Below.f
 repeat' first
   | (with_reducible exact draw_At.mono _ _ _)
   | (with_reducible exact LeO.refl _)
   | (with_reducible exact LeO.none _)
   | (with_reducible refine LeO.ite ?_ ?_)
   | (with_reducible refine LeO.bind ?_ (fun _ => ?_))
set_option maxHeartbeats 8000000 in
set_option maxRecDepth 100000 in
theorem draw_Below.calls (k : Nat) (a0 : Int) (a1 : Int) (A2 : Option Addr) (c2 : Nat) (l2 : List Int) (r1 : Int) (r2 : Int) (w : World) (hr2 : Kd.C (Kd.int .i64) w A2 l2.length l2) (hc2 : l2.length ≤ c2) (h : draw_Below.f k a0 a1 l2 = some (r1, r2)) :
  Calls Try.prog 100 #[.int .u64 a0, .int .u64 a1, .slice A2 l2.length c2] w fun e w' => e = .returned (.tuple #[.int .u64 r1, .int .i64 r2]) ∧ Drawn0 w w' := by
 have HR2 := ZM hr2
 have HC2 := ZM hc2
 clear hr2 hc2
 have H : (if a0 = 0 then (some (0, 1)) else ((draw_At.f k a1 l2).bind fun t138 => (some (Int.tmod t138 a0, 0)))) = some (r1, r2) := h
 clear h
 by_cases c4 : a0 = 0
 ·
  rw [if_pos c4] at H
  have c4b0 : (a0 == 0) = true := beq_iff_eq.mpr c4
  have c4b1 : (a0 != 0) = false := bne_eq_false_iff_eq.mpr c4
  clear c4
  simp only [Option.some.injEq, Prod.mk.injEq] at H
  obtain ⟨rfl, rfl⟩ := H
  go_enter Try.func100, Try.ntmps100
  go_wp2
  go_ret2
  exact ⟨by first | rfl | (simp; done) | (simp [*]; done), by repeat (first | exact ddR _ | apply ddS)⟩
 rw [if_neg c4] at H
 have c4b0 : (a0 == 0) = false := beq_eq_false_iff_ne.mpr c4
 have c4b1 : (a0 != 0) = true := bne_iff_ne.mpr c4
 replace H := Option.bind_eq_some_iff.mp H
 obtain ⟨t138, A50, H⟩ := H
 replace H : (some (Int.tmod t138 a0, 0)) = some (r1, r2) := H
 have A5 := ZM A50
 clear A50
 simp only [Option.some.injEq, Prod.mk.injEq] at H
 obtain ⟨rfl, rfl⟩ := H
 go_enter Try.func100, Try.ntmps100
 go_wp2_with (first | ((with_reducible refine gate_callee (f := 120) rfl ?_); refine goesL_ (some 12) rfl rfl Try.func120 (by kernel_rfl) rfl #[.int .u64 a1, .slice A2 l2.length c2] rfl Z1 ?_; (with_reducible refine (draw_At.calls k a1 _ _ l2 t138 _ ?side1 ?side2 A5.out).mono ?_); (case side1 => exact Z69); (case side2 => exact HC2.out); rintro e w' ⟨rfl, ⟨nd, rfl⟩⟩; refine ⟨_, rfl, ?_⟩))
 go_ret2
 exact ⟨by first | rfl | (simp; done) | (simp [*]; done), by repeat (first | exact ddR _ | apply ddS)⟩
/-! ### draw_Chance: function 86 -/
def draw_Chance.f (k : Nat) (a0 : Int) (a1 : Int) (a2 : Int) (l3 : List Int) : Option (Bool × Int) := if a0 > a1 then (some (false, 1)) else ((draw_Below.f k a1 a2 l3).bind fun bt139 => (if bt139.2 = 0 then (some (decide (bt139.1 < a0), bt139.2)) else (some (false, bt139.2))))
theorem draw_Chance.mono : ∀ a0 a1 a2 a3 k, LeO (draw_Chance.f k a0 a1 a2 a3) (draw_Chance.f (k + 1) a0 a1 a2 a3) := by
 intro a0 a1 a2 a3 k
 unfold draw_Chance.f
 repeat' first
   | (with_reducible exact draw_Below.mono _ _ _ _)
   | (with_reducible exact LeO.refl _)
   | (with_reducible exact LeO.none _)
   | (with_reducible refine LeO.ite ?_ ?_)
   | (with_reducible refine LeO.bind ?_ (fun _ => ?_))
set_option maxHeartbeats 8000000 in
set_option maxRecDepth 100000 in
theorem draw_Chance.calls (k : Nat) (a0 : Int) (a1 : Int) (a2 : Int) (A3 : Option Addr) (c3 : Nat) (l3 : List Int) (r1 : Bool) (r2 : Int) (w : World) (hr3 : Kd.C (Kd.int .i64) w A3 l3.length l3) (hc3 : l3.length ≤ c3) (h : draw_Chance.f k a0 a1 a2 l3 = some (r1, r2)) :
  Calls Try.prog 86 #[.int .u64 a0, .int .u64 a1, .int .u64 a2, .slice A3 l3.length c3] w fun e w' => e = .returned (.tuple #[.bool r1, .int .i64 r2]) ∧ Drawn0 w w' := by
 have HR3 := ZM hr3
 have HC3 := ZM hc3
 clear hr3 hc3
 have H : (if a0 > a1 then (some (false, 1)) else ((draw_Below.f k a1 a2 l3).bind fun bt139 => (if bt139.2 = 0 then (some (decide (bt139.1 < a0), bt139.2)) else (some (false, bt139.2))))) = some (r1, r2) := h
 clear h
 by_cases c5 : a0 > a1
 ·
  rw [if_pos c5] at H
  have c5b0 : decide (a1 < a0) = true := decide_eq_true c5
  clear c5
  simp only [Option.some.injEq, Prod.mk.injEq] at H
  obtain ⟨rfl, rfl⟩ := H
  go_enter Try.func86, Try.ntmps86
  go_wp2
  go_ret2
  exact ⟨by first | rfl | (simp; done) | (simp [*]; done), by repeat (first | exact ddR _ | apply ddS)⟩
 rw [if_neg c5] at H
 have c5b0 : decide (a1 < a0) = false := decide_eq_false c5
 clear c5
 replace H := Option.bind_eq_some_iff.mp H
 obtain ⟨⟨t139, t140⟩, A60, H⟩ := H
 replace H : (if t140 = 0 then (some (decide (t139 < a0), t140)) else (some (false, t140))) = some (r1, r2) := H
 have A6 := ZM A60
 clear A60
 by_cases c7 : t140 = 0
 case neg =>
  rw [if_neg c7] at H
  have c7b0 : (t140 == 0) = false := beq_eq_false_iff_ne.mpr c7
  have c7b1 : (t140 != 0) = true := bne_iff_ne.mpr c7
  simp only [Option.some.injEq, Prod.mk.injEq] at H
  obtain ⟨rfl, rfl⟩ := H
  go_enter Try.func86, Try.ntmps86
  go_wp2_with (first | ((with_reducible refine gate_callee (f := 100) rfl ?_); refine goesL_ (some 19) rfl rfl Try.func100 (by kernel_rfl) rfl #[.int .u64 a1, .int .u64 a2, .slice A3 l3.length c3] rfl Z1 ?_; (with_reducible refine (draw_Below.calls k a1 a2 _ _ l3 t139 t140 _ ?side1 ?side2 A6.out).mono ?_); (case side1 => exact Z71); (case side2 => exact HC3.out); rintro e w' ⟨rfl, ⟨nd, rfl⟩⟩; refine ⟨_, rfl, ?_⟩))
  go_ret2
  exact ⟨by first | rfl | (simp; done) | (simp [*]; done), by repeat (first | exact ddR _ | apply ddS)⟩
 rw [if_pos c7] at H
 have c7b0 : (t140 == 0) = true := beq_iff_eq.mpr c7
 have c7b1 : (t140 != 0) = false := bne_eq_false_iff_eq.mpr c7
 clear c7
 simp only [Option.some.injEq, Prod.mk.injEq] at H
 obtain ⟨rfl, rfl⟩ := H
 go_enter Try.func86, Try.ntmps86
 go_wp2_with (first | ((with_reducible refine gate_callee (f := 100) rfl ?_); refine goesL_ (some 19) rfl rfl Try.func100 (by kernel_rfl) rfl #[.int .u64 a1, .int .u64 a2, .slice A3 l3.length c3] rfl Z1 ?_; (with_reducible refine (draw_Below.calls k a1 a2 _ _ l3 t139 t140 _ ?side1 ?side2 A6.out).mono ?_); (case side1 => exact Z71); (case side2 => exact HC3.out); rintro e w' ⟨rfl, ⟨nd, rfl⟩⟩; refine ⟨_, rfl, ?_⟩))
 go_ret2
 exact ⟨by first | rfl | (simp; done) | (simp [*]; done), by repeat (first | exact ddR _ | apply ddS)⟩
end Go.Proofs.Ytkfhdpnfcaghbaa.HQ
