/- What Go functions do, each as a plain Lean function with the same answers, and the proof of it, in every world: printed by the session's driver over the kit's print, with texts by hand. -/
import Derived.Test.YtkfhdpnfcaghbaaHQx0
import Derived.Test.YtkfhdpnfcaghbaaHQx2
import Derived.Test.YtkfhdpnfcaghbaaHQx3
import Derived.Test.YtkfhdpnfcaghbaaHQx9
import Derived.Test.YtkfhdpnfcaghbaaHQx11
import Derived.Test.YtkfhdpnfcaghbaaMini
namespace Go.Proofs.Ytkfhdpnfcaghbaa.HQ
open Go.RowKit Go.Proofs.YtkfhdpnfcaghbaaW.PrintWords Go.Proofs.YtkfhdpnfcaghbaaW.PrintLast Go.Proofs.YtkfhdpnfcaghbaaW.PrintMore
attribute [local go_sem] max2_int min2_int max_two min_two max_three min_three max_four min_four   -- for this text's walks alone
open Go.Proofs.Ytkfhdpnfcaghbaa.Sp
attribute [local go_sem] Go.Proofs.Ytkfhdpnfcaghbaa.Sp.u64_not
set_option linter.unusedVariables false
set_option linter.unusedSimpArgs false

/-! ### quant_ValueP: function 49 -/
def quant_ValueP.j0 : Nat → Int → Int → Int → Bool → Option (Int × Int)
 | 0, _, _, _, _ => none
 | k + 1, x0, x1, x8, x29 => if x29 = true then (some (0, 1)) else ((bits_Mul64.f (IntKind.u64.wrap (x1)) x0).bind fun bt265 => ((bits_Div64.f bt265.1 bt265.2 x8).bind fun bt267 => (some (wrap64 (bt267.1), 0))))
def quant_ValueP.f (k : Nat) (a0 : Int) (a1 : Int) (a2 : Int) : Option (Int × Int) := (quant_Steps.f a2).bind fun bt263 => (if bt263.2 = 0 then (if a1 < 0 then (quant_ValueP.j0 k a0 a1 bt263.1 true) else (quant_ValueP.j0 k a0 a1 bt263.1 (decide (a0 > bt263.1)))) else (quant_ValueP.j0 k a0 a1 bt263.1 true))
theorem quant_ValueP.mono_l : ∀ k, (∀ y0 y1 y2 y3, LeO (quant_ValueP.j0 k y0 y1 y2 y3) (quant_ValueP.j0 (k + 1) y0 y1 y2 y3))
 | 0 => fun _ _ _ _ r h => by simp [quant_ValueP.j0] at h
 | k + 1 => by
  have ih0 := quant_ValueP.mono_l k
  ·
   intro y0 y1 y2 y3
   unfold quant_ValueP.j0
   repeat' first
   | (with_reducible exact ih0 _ _ _ _)
   | (with_reducible exact LeO.refl _)
   | (with_reducible exact LeO.none _)
   | (with_reducible refine LeO.ite ?_ ?_)
   | (with_reducible refine LeO.bind ?_ (fun _ => ?_))
theorem quant_ValueP.mono : ∀ a0 a1 a2 k, LeO (quant_ValueP.f k a0 a1 a2) (quant_ValueP.f (k + 1) a0 a1 a2) := by
 intro a0 a1 a2 k
 have ih0 := quant_ValueP.mono_l k
 unfold quant_ValueP.f
 repeat' first
   | (with_reducible exact ih0 _ _ _ _)
   | (with_reducible exact LeO.refl _)
   | (with_reducible exact LeO.none _)
   | (with_reducible refine LeO.ite ?_ ?_)
   | (with_reducible refine LeO.bind ?_ (fun _ => ?_))
set_option maxHeartbeats 8000000 in
set_option maxRecDepth 100000 in
theorem quant_ValueP.calls (k : Nat) (a0 : Int) (a1 : Int) (a2 : Int) (r1 : Int) (r2 : Int) (w : World) (h : quant_ValueP.f k a0 a1 a2 = some (r1, r2)) :
  Calls Try.prog 49 #[.int .u64 a0, .int .i64 a1, .int .i64 a2] w fun e w' => e = .returned (.tuple #[.int .i64 r1, .int .i64 r2]) ∧ Drawn0 w w' := by
 have H : ((quant_Steps.f a2).bind fun bt263 => (if bt263.2 = 0 then (if a1 < 0 then (quant_ValueP.j0 k a0 a1 bt263.1 true) else (quant_ValueP.j0 k a0 a1 bt263.1 (decide (a0 > bt263.1)))) else (quant_ValueP.j0 k a0 a1 bt263.1 true))) = some (r1, r2) := h
 clear h
 replace H := Option.bind_eq_some_iff.mp H
 obtain ⟨⟨t263, t264⟩, A40, H⟩ := H
 replace H : (if t264 = 0 then (if a1 < 0 then (quant_ValueP.j0 k a0 a1 t263 true) else (quant_ValueP.j0 k a0 a1 t263 (decide (a0 > t263)))) else (quant_ValueP.j0 k a0 a1 t263 true)) = some (r1, r2) := H
 have A4 := ZM A40
 clear A40
 have HC5 := ZM H
 clear H
 go_enter Try.func49, Try.ntmps49
 go_upto_region 2 with (first | ((with_reducible refine gate_callee (f := 51) rfl ?_); refine goesL_ (some 16) rfl rfl Try.func51 (by kernel_rfl) rfl #[.int .i64 a2] rfl Z1 ?_; (with_reducible refine (quant_Steps.calls a2 t263 t264 _ A4.out).mono ?_); rintro e w' ⟨rfl, ⟨nd, rfl⟩⟩; refine ⟨_, rfl, ?_⟩))
 (try simp only [Act.put, Zt])
 go_cut [29] (fun v29 wc => ∃ (kq : Nat) (x29_4 : Bool), v29 = .bool x29_4 ∧ Aside0 (quant_ValueP.j0 kq a0 a1 t263 x29_4 = some (r1, r2)) ∧ Aside0 (kq ≤ k) ∧ Drawn0 w wc)
 case first =>
  have H := HC5.out
  clear HC5
  by_cases c6 : t264 = 0
  case neg =>
   rw [if_neg c6] at H
   have c6b0 : (t264 == 0) = false := beq_eq_false_iff_ne.mpr c6
   have c6b1 : (t264 != 0) = true := bne_iff_ne.mpr c6
   (first | rw [c6b0] | (simp only [i64_w, i32_w]; rw [c6b0]) | skip)
   have H' := ZM H
   clear H
   go_wp2
   go_meet
   case rel => exact ⟨_, (true), Z5, H', ⟨by first | omega | exact Nat.le_refl _⟩, by repeat (first | exact ddR _ | apply ddS)⟩
  rw [if_pos c6] at H
  have c6b0 : (t264 == 0) = true := beq_iff_eq.mpr c6
  have c6b1 : (t264 != 0) = false := bne_eq_false_iff_eq.mpr c6
  clear c6
  (first | rw [c6b0] | (simp only [i64_w, i32_w]; rw [c6b0]) | skip)
  by_cases c7 : a1 < 0
  case neg =>
   rw [if_neg c7] at H
   have c7b0 : decide (a1 < 0) = false := decide_eq_false c7
   clear c7
   have H' := ZM H
   clear H
   go_wp2
   go_meet
   case rel => exact ⟨_, (decide (a0 > t263)), Z5, H', ⟨by first | omega | exact Nat.le_refl _⟩, by repeat (first | exact ddR _ | apply ddS)⟩
  rw [if_pos c7] at H
  have c7b0 : decide (a1 < 0) = true := decide_eq_true c7
  clear c7
  have H' := ZM H
  clear H
  go_wp2
  go_meet
  case rel => exact ⟨_, (true), Z5, H', ⟨by first | omega | exact Nat.le_refl _⟩, by repeat (first | exact ddR _ | apply ddS)⟩
 clear HC5
 obtain ⟨kq, x29_4, rfl, HA, HJ4, ⟨mc4, rfl⟩⟩ := hcut
 cases kq with
 | zero => exact absurd HA.out (by simp [quant_ValueP.j0])
 | succ kj4 =>
  have H := HA.out
  clear HA
  simp only [quant_ValueP.j0] at H
  by_cases c8 : x29_4 = true
  ·
   subst c8
   have H1 : (some (0, 1)) = some (r1, r2) := by rw [if_pos rfl] at H; exact H
   clear H
   have H := H1
   clear H1
   simp only [Option.some.injEq, Prod.mk.injEq] at H
   obtain ⟨rfl, rfl⟩ := H
   go_wp2
   go_ret2
   exact ⟨by first | rfl | (simp; done) | (simp [*]; done), by repeat (first | exact ddR _ | apply ddS)⟩
  replace c8 := Bool.eq_false_iff.mpr c8
  subst c8
  have H1 : ((bits_Mul64.f (IntKind.u64.wrap (a1)) a0).bind fun bt265 => ((bits_Div64.f bt265.1 bt265.2 t263).bind fun bt267 => (some (wrap64 (bt267.1), 0)))) = some (r1, r2) := by rw [if_neg (show ¬ (false = true) by decide)] at H; exact H
  clear H
  have H := H1
  clear H1
  replace H := Option.bind_eq_some_iff.mp H
  obtain ⟨⟨t265, t266⟩, A90, H⟩ := H
  replace H : ((bits_Div64.f t265 t266 t263).bind fun bt267 => (some (wrap64 (bt267.1), 0))) = some (r1, r2) := H
  have A9 := ZM A90
  clear A90
  replace H := Option.bind_eq_some_iff.mp H
  obtain ⟨⟨t267, t268⟩, A100, H⟩ := H
  replace H : (some (wrap64 (t267), 0)) = some (r1, r2) := H
  have A10 := ZM A100
  clear A100
  simp only [Option.some.injEq, Prod.mk.injEq] at H
  obtain ⟨rfl, rfl⟩ := H
  go_wp2_with (first | ((with_reducible refine gate_callee (f := 89) rfl ?_); refine goesL_ (some 34) rfl rfl Try.func89 (by kernel_rfl) rfl #[.int .u64 (IntKind.u64.wrap (a1)), .int .u64 a0] rfl Z1 ?_; (with_reducible refine (bits_Mul64.calls (IntKind.u64.wrap (a1)) a0 t265 t266 _ A9.out).mono ?_); rintro e w' ⟨rfl, ⟨nd, rfl⟩⟩; refine ⟨_, rfl, ?_⟩) | ((with_reducible refine gate_callee (f := 90) rfl ?_); refine goesL_ (some 41) rfl rfl Try.func90 (by kernel_rfl) rfl #[.int .u64 t265, .int .u64 t266, .int .u64 t263] rfl Z1 ?_; (with_reducible refine (bits_Div64.calls t265 t266 t263 t267 t268 _ A10.out).mono ?_); rintro e w' ⟨rfl, ⟨nd, rfl⟩⟩; refine ⟨_, rfl, ?_⟩))
  go_ret2
  exact ⟨by first | rfl | (simp; done) | (simp [*]; done), by repeat (first | exact ddR _ | apply ddS)⟩
def quant_Value.f (a0 a1 a2 : Int) : Option (Int × Int) := if U64 a0 ∧ I64 a1 then some (valueF a0 a1 a2) else none
theorem quant_Value.of (a0 a1 a2 : Int)  (h_ : U64 a0 ∧ I64 a1) : quant_Value.f a0 a1 a2 = some (valueF a0 a1 a2) := if_pos h_
theorem quant_Value.is (a0 a1 a2 : Int) (h0 : U64 a0) (h1 : I64 a1) : quant_ValueP.f 2 a0 a1 a2 = some (valueF a0 a1 a2) := by
  unfold quant_ValueP.f valueF quant_Steps.f stepsF
  simp only [Option.bind_some]
  by_cases cb : badW a2
  · rw [if_pos cb, if_neg (by decide), quant_ValueP.j0, if_pos rfl, if_pos (.inl cb)]
  · obtain ⟨t0, t1⟩ := topF_pos cb
    rw [if_neg cb, if_pos rfl]
    by_cases c1 : a1 < 0
    · rw [if_pos c1, quant_ValueP.j0, if_pos rfl, if_pos (.inr (.inl c1))]
    · rw [if_neg c1, quant_ValueP.j0]
      by_cases c2 : a0 > topF a2
      · rw [if_pos (decide_eq_true c2), if_pos (.inr (.inr c2))]
      · rw [if_neg (by simpa using c2), if_neg (show ¬ (badW a2 ∨ a1 < 0 ∨ a0 > topF a2) from fun h => h.elim cb (fun h => h.elim c1 c2))]
        unfold I64 at h1
        unfold U64 at h0
        have hw : IntKind.u64.wrap a1 = a1 := by rw [wu]; omega
        have hp0 : 0 ≤ a1 * a0 := Int.mul_nonneg (by omega) (by omega)
        have hp1 : a1 * a0 ≤ 9223372036854775807 * topF a2 := Int.mul_le_mul (by omega) (by omega) (by omega) (by omega)
        obtain ⟨v0, v1⟩ := value_bd h0.1 (show a0 ≤ topF a2 by omega) (show 0 ≤ a1 by omega) (show 0 < topF a2 by omega)
        unfold bits_Mul64.f bits_Div64.f
        rw [hw, if_pos ⟨by unfold U64; omega, by unfold U64; omega⟩]
        simp only [Option.bind_some]
        rw [if_pos ⟨by unfold U64; omega, by unfold U64; omega, by unfold U64; omega, by omega⟩]
        simp only [Option.bind_some]
        rw [show a1 * a0 / 18446744073709551616 * 18446744073709551616 + a1 * a0 % 18446744073709551616 = a1 * a0 by omega, wrap64_of (by unfold I64; omega)]
theorem quant_Value.calls (a0 : Int) (a1 : Int) (a2 : Int) (r1 : Int) (r2 : Int) (w : World) (h : quant_Value.f a0 a1 a2 = some (r1, r2)) :
    Calls Try.prog 49 #[.int .u64 a0, .int .i64 a1, .int .i64 a2] w fun e w' => e = .returned (.tuple #[.int .i64 r1, .int .i64 r2]) ∧ Drawn0 w w' := by
  unfold quant_Value.f at h
  split at h
  case isFalse => cases h
  rename_i hv
  exact quant_ValueP.calls 2 a0 a1 a2 r1 r2 w ((quant_Value.is a0 a1 a2 hv.1 hv.2).trans h)


/-! ### quant_Loosen: function 55 -/
mutual
def quant_Loosen.j0 : Nat → Bool → Int → Int → List Int → List Int → Int → Int → List Int → List Bool → Option (List Int × Int)
 | 0, _, _, _, _, _, _, _, _, _ => none
 | k + 1, x16, x270000, x270001, x270002, x270003, x270004, x270005, x270006, x270007 => if x16 = true then (some (([] : List Int), 1)) else (if 0 ≤ x270001 then (if (x270001 : Int).toNat ≤ 35184372088832 then (quant_Loosen.l0 k (List.replicate (x270001 : Int).toNat 0) x270006 (x270006.length : Int) 0 x270000 x270001 x270002 x270003 x270004 x270005 x270006 x270007) else (none)) else (none))
def quant_Loosen.l0 : Nat → List Int → List Int → Int → Int → Int → Int → List Int → List Int → Int → Int → List Int → List Bool → Option (List Int × Int)
 | 0, _, _, _, _, _, _, _, _, _, _, _, _ => none
 | k + 1, x4, x21, x22, x23, x270000, x270001, x270002, x270003, x270004, x270005, x270006, x270007 => if x23 < x22 then (if 0 ≤ x23 then (if x23 < (x21.length : Int) then ((quant_Value.f (rd x21 x23) x270004 x270005).bind fun bt275 => (if bt275.2 = 0 then (if x23 < (x4.length : Int) then ((some (x4.set (x23 : Int).toNat bt275.1 : List Int)).bind fun y277 => (if x23 < (x270007.length : Int) then (if rdOf false x270007 x23 = true then (quant_Loosen.l0 k (y277.set (x23 : Int).toNat (wrap64 (-bt275.1))) x21 x22 (wrap64 (x23 + 1)) x270000 x270001 x270002 x270003 x270004 x270005 x270006 x270007) else (quant_Loosen.l0 k y277 x21 x22 (wrap64 (x23 + 1)) x270000 x270001 x270002 x270003 x270004 x270005 x270006 x270007)) else (none))) else (none)) else (some (([] : List Int), bt275.2)))) else (none)) else (none)) else (some (x4, 0))
end
def quant_Loosen.f (k : Nat) (a0_0 : Int) (a0_1 : Int) (l0_2 : List Int) (l0_3 : List Int) (a0_4 : Int) (a0_5 : Int) (l0_6 : List Int) (l0_7 : List Bool) : Option (List Int × Int) := (frame_May.f a0_0 a0_1 l0_2 l0_3 a0_4 a0_5 l0_6 l0_7).bind fun t270 => (if t270 = true then (quant_Loosen.j0 k (a0_0 != 2) a0_0 a0_1 l0_2 l0_3 a0_4 a0_5 l0_6 l0_7) else (quant_Loosen.j0 k true a0_0 a0_1 l0_2 l0_3 a0_4 a0_5 l0_6 l0_7))
theorem quant_Loosen.mono_l : ∀ k, (∀ y0 y1 y2 y3 y4 y5 y6 y7 y8, LeO (quant_Loosen.j0 k y0 y1 y2 y3 y4 y5 y6 y7 y8) (quant_Loosen.j0 (k + 1) y0 y1 y2 y3 y4 y5 y6 y7 y8)) ∧ (∀ y0 y1 y2 y3 y4 y5 y6 y7 y8 y9 y10 y11, LeO (quant_Loosen.l0 k y0 y1 y2 y3 y4 y5 y6 y7 y8 y9 y10 y11) (quant_Loosen.l0 (k + 1) y0 y1 y2 y3 y4 y5 y6 y7 y8 y9 y10 y11))
 | 0 => ⟨fun _ _ _ _ _ _ _ _ _ r h => by simp [quant_Loosen.j0] at h, fun _ _ _ _ _ _ _ _ _ _ _ _ r h => by simp [quant_Loosen.l0] at h⟩
 | k + 1 => by
  obtain ⟨ih0, ih1⟩ := quant_Loosen.mono_l k
  refine ⟨?_, ?_⟩
  ·
   intro y0 y1 y2 y3 y4 y5 y6 y7 y8
   unfold quant_Loosen.j0
   repeat' first
   | (with_reducible exact ih0 _ _ _ _ _ _ _ _ _)
   | (with_reducible exact ih1 _ _ _ _ _ _ _ _ _ _ _ _)
   | (with_reducible exact LeO.refl _)
   | (with_reducible exact LeO.none _)
   | (with_reducible refine LeO.ite ?_ ?_)
   | (with_reducible refine LeO.bind ?_ (fun _ => ?_))
  ·
   intro y0 y1 y2 y3 y4 y5 y6 y7 y8 y9 y10 y11
   unfold quant_Loosen.l0
   repeat' first
   | (with_reducible exact ih0 _ _ _ _ _ _ _ _ _)
   | (with_reducible exact ih1 _ _ _ _ _ _ _ _ _ _ _ _)
   | (with_reducible exact LeO.refl _)
   | (with_reducible exact LeO.none _)
   | (with_reducible refine LeO.ite ?_ ?_)
   | (with_reducible refine LeO.bind ?_ (fun _ => ?_))
theorem quant_Loosen.mono : ∀ a0 a1 a2 a3 a4 a5 a6 a7 k, LeO (quant_Loosen.f k a0 a1 a2 a3 a4 a5 a6 a7) (quant_Loosen.f (k + 1) a0 a1 a2 a3 a4 a5 a6 a7) := by
 intro a0 a1 a2 a3 a4 a5 a6 a7 k
 obtain ⟨ih0, ih1⟩ := quant_Loosen.mono_l k
 unfold quant_Loosen.f
 repeat' first
   | (with_reducible exact ih0 _ _ _ _ _ _ _ _ _)
   | (with_reducible exact ih1 _ _ _ _ _ _ _ _ _ _ _ _)
   | (with_reducible exact LeO.refl _)
   | (with_reducible exact LeO.none _)
   | (with_reducible refine LeO.ite ?_ ?_)
   | (with_reducible refine LeO.bind ?_ (fun _ => ?_))
set_option maxHeartbeats 8000000 in
set_option maxRecDepth 100000 in
theorem quant_Loosen.calls (k : Nat) (a0_0 : Int) (a0_1 : Int) (A0_2 : Option Addr) (c0_2 : Nat) (l0_2 : List Int) (A0_3 : Option Addr) (c0_3 : Nat) (l0_3 : List Int) (a0_4 : Int) (a0_5 : Int) (A0_6 : Option Addr) (c0_6 : Nat) (l0_6 : List Int) (A0_7 : Option Addr) (c0_7 : Nat) (l0_7 : List Bool) (r1 : List Int) (r2 : Int) (w : World) (hr0_2 : Kd.C (Kd.int .i64) w A0_2 l0_2.length l0_2) (hc0_2 : l0_2.length ≤ c0_2) (hr0_3 : Kd.C (Kd.int .i64) w A0_3 l0_3.length l0_3) (hc0_3 : l0_3.length ≤ c0_3) (hr0_6 : Kd.C (Kd.int .u64) w A0_6 l0_6.length l0_6) (hc0_6 : l0_6.length ≤ c0_6) (hr0_7 : Kd.C Kd.bool w A0_7 l0_7.length l0_7) (hc0_7 : l0_7.length ≤ c0_7) (h : quant_Loosen.f k a0_0 a0_1 l0_2 l0_3 a0_4 a0_5 l0_6 l0_7 = some (r1, r2)) :
  Calls Try.prog 55 #[.agg #[.int .i64 a0_0, .int .i64 a0_1, .slice A0_2 l0_2.length c0_2, .slice A0_3 l0_3.length c0_3, .int .i64 a0_4, .int .i64 a0_5, .slice A0_6 l0_6.length c0_6, .slice A0_7 l0_7.length c0_7]] w fun e w' => ∃ v0_ : Value, e = .returned (.tuple #[v0_, .int .i64 r2]) ∧ Kd.R (Kd.int .i64) 2 w' w.heap.size (fun _ => True) v0_ r1 ∧ Below w.heap.size w w' := by
 have hu30 := Try.underlying30
 have HR0_2 := ZM hr0_2
 have HC0_2 := ZM hc0_2
 clear hr0_2 hc0_2
 have HR0_3 := ZM hr0_3
 have HC0_3 := ZM hc0_3
 clear hr0_3 hc0_3
 have HR0_6 := ZM hr0_6
 have HC0_6 := ZM hc0_6
 clear hr0_6 hc0_6
 have HR0_7 := ZM hr0_7
 have HC0_7 := ZM hc0_7
 clear hr0_7 hc0_7
 have HB := ZM (Below.refl w.heap.size w)
 have H : ((frame_May.f a0_0 a0_1 l0_2 l0_3 a0_4 a0_5 l0_6 l0_7).bind fun t270 => (if t270 = true then (quant_Loosen.j0 k (a0_0 != 2) a0_0 a0_1 l0_2 l0_3 a0_4 a0_5 l0_6 l0_7) else (quant_Loosen.j0 k true a0_0 a0_1 l0_2 l0_3 a0_4 a0_5 l0_6 l0_7))) = some (r1, r2) := h
 clear h
 have HC2 := ZM H
 clear H
 go_enter Try.func55, Try.ntmps55
 go_upto_region 1 with (first | ((with_reducible refine gate_dst (N := 1) rfl ?_); refine box_event ?hg (N := 1) ?hd (cs := #[.int .i64 a0_0, .int .i64 a0_1, .slice A0_2 l0_2.length c0_2, .slice A0_3 l0_3.length c0_3, .int .i64 a0_4, .int .i64 a0_5, .slice A0_6 l0_6.length c0_6, .slice A0_7 l0_7.length c0_7]) (t := 30) ?hr ?_; (case hd => rfl); (case hg => rfl); (case hr => exact Z12); intro gb269 hg w3 hbox hb; have BK269 := ZM (hbox); have GW269 := ZM ((by rw [hg]; exact (zzS Z3) : w.heap.size ≤ gb269)); have GE269 := ZM ((by rw [hg]; exact (zzS Z3) : w.heap.size ≤ gb269)); replace HB := ZM (zzT Z3 hb); clear hb hbox hg))
 (try simp only [Act.put, Zt])
 go_cut [16] (fun v16 wc => ∃ (kq : Nat) (x16_1 : Bool), v16 = .bool x16_1 ∧ Aside0 (quant_Loosen.j0 kq x16_1 a0_0 a0_1 l0_2 l0_3 a0_4 a0_5 l0_6 l0_7 = some (r1, r2)) ∧ Aside0 (kq ≤ k) ∧ Aside0 (wc.heap[gb269]? = some (.cells #[.int .i64 a0_0, .int .i64 a0_1, (.slice A0_2 l0_2.length c0_2), (.slice A0_3 l0_3.length c0_3), .int .i64 a0_4, .int .i64 a0_5, (.slice A0_6 l0_6.length c0_6), (.slice A0_7 l0_7.length c0_7)] 30 (0, 0))) ∧ Aside0 (Below w.heap.size w wc))
 case first =>
  have H := HC2.out
  clear HC2
  replace H := Option.bind_eq_some_iff.mp H
  obtain ⟨t270, A40, H⟩ := H
  replace H : (if t270 = true then (quant_Loosen.j0 k (a0_0 != 2) a0_0 a0_1 l0_2 l0_3 a0_4 a0_5 l0_6 l0_7) else (quant_Loosen.j0 k true a0_0 a0_1 l0_2 l0_3 a0_4 a0_5 l0_6 l0_7)) = some (r1, r2) := H
  have A4 := ZM A40
  clear A40
  by_cases c5 : t270 = true
  ·
   subst c5
   have H1 : (quant_Loosen.j0 k (a0_0 != 2) a0_0 a0_1 l0_2 l0_3 a0_4 a0_5 l0_6 l0_7) = some (r1, r2) := by rw [if_pos rfl] at H; exact H
   clear H
   have H := H1
   clear H1
   have H' := ZM H
   clear H
   obtain ⟨hcz6_0, hcz6_1, hcz6_2, hcz6_3, hcz6_4, hcz6_5, hcz6_6, hcz6_7, hfz6_0, hfz6_1, hfz6_2, hfz6_3, hfz6_4, hfz6_5, hfz6_6, hfz6_7⟩ := Y8f BK269
   go_wp2_with (first | ((with_reducible refine gate_callee (f := 60) rfl ?_); refine goesL_ (some 10) rfl rfl Try.func60 (by kernel_rfl) rfl #[.agg #[.int .i64 a0_0, .int .i64 a0_1, .slice A0_2 l0_2.length c0_2, .slice A0_3 l0_3.length c0_3, .int .i64 a0_4, .int .i64 a0_5, .slice A0_6 l0_6.length c0_6, .slice A0_7 l0_7.length c0_7]] rfl Z1 ?_; (with_reducible refine (frame_May.calls a0_0 a0_1 _ _ l0_2 _ _ l0_3 a0_4 a0_5 _ _ l0_6 _ _ l0_7 true _ ?side1 ?side2 ?side3 ?side4 ?side5 ?side6 ?side7 ?side8 A4.out).mono ?_); (case side1 => exact Z9); (case side2 => exact HC0_2.out); (case side3 => exact Z40); (case side4 => exact HC0_3.out); (case side5 => exact Z41); (case side6 => exact HC0_6.out); (case side7 => exact Z42); (case side8 => exact HC0_7.out); rintro e w7 ⟨rfl, hb⟩; refine ⟨_, rfl, ?_⟩; replace BK269 := ZM (blk_below (g := gb269) (o := .cells #[.int .i64 a0_0, .int .i64 a0_1, .slice A0_2 l0_2.length c0_2, .slice A0_3 l0_3.length c0_3, .int .i64 a0_4, .int .i64 a0_5, .slice A0_6 l0_6.length c0_6, .slice A0_7 l0_7.length c0_7] 30 (0, 0)) (Zk BK269) hb); replace HB := ZM (zzT Z34 hb); (try clear hb); (try clear hb2); (try clear hk); (try clear hi); obtain ⟨hcz8_0, hcz8_1, hcz8_2, hcz8_3, hcz8_4, hcz8_5, hcz8_6, hcz8_7, hfz8_0, hfz8_1, hfz8_2, hfz8_3, hfz8_4, hfz8_5, hfz8_6, hfz8_7⟩ := Y8f BK269))
   go_meet
   case rel => exact ⟨_, ((a0_0 != 2)), Z5, H', ⟨by first | omega | exact Nat.le_refl _⟩, ⟨by (with_reducible repeat (first | refine kkN ?_ _ | refine kkD ?_ | refine kkA ?_ _)); exact BK269.out⟩, ⟨by repeat (first | (with_reducible first | exact HB.out | apply zzA | apply zzN | apply zzD | refine below_set ?_ GE269.out) | exact HB.out)⟩⟩
  replace c5 := Bool.eq_false_iff.mpr c5
  subst c5
  have H1 : (quant_Loosen.j0 k true a0_0 a0_1 l0_2 l0_3 a0_4 a0_5 l0_6 l0_7) = some (r1, r2) := by rw [if_neg (show ¬ (false = true) by decide)] at H; exact H
  clear H
  have H := H1
  clear H1
  have H' := ZM H
  clear H
  obtain ⟨hcz9_0, hcz9_1, hcz9_2, hcz9_3, hcz9_4, hcz9_5, hcz9_6, hcz9_7, hfz9_0, hfz9_1, hfz9_2, hfz9_3, hfz9_4, hfz9_5, hfz9_6, hfz9_7⟩ := Y8f BK269
  go_wp2_with (first | ((with_reducible refine gate_callee (f := 60) rfl ?_); refine goesL_ (some 10) rfl rfl Try.func60 (by kernel_rfl) rfl #[.agg #[.int .i64 a0_0, .int .i64 a0_1, .slice A0_2 l0_2.length c0_2, .slice A0_3 l0_3.length c0_3, .int .i64 a0_4, .int .i64 a0_5, .slice A0_6 l0_6.length c0_6, .slice A0_7 l0_7.length c0_7]] rfl Z1 ?_; (with_reducible refine (frame_May.calls a0_0 a0_1 _ _ l0_2 _ _ l0_3 a0_4 a0_5 _ _ l0_6 _ _ l0_7 false _ ?side1 ?side2 ?side3 ?side4 ?side5 ?side6 ?side7 ?side8 A4.out).mono ?_); (case side1 => exact Z9); (case side2 => exact HC0_2.out); (case side3 => exact Z40); (case side4 => exact HC0_3.out); (case side5 => exact Z41); (case side6 => exact HC0_6.out); (case side7 => exact Z42); (case side8 => exact HC0_7.out); rintro e w10 ⟨rfl, hb⟩; refine ⟨_, rfl, ?_⟩; replace BK269 := ZM (blk_below (g := gb269) (o := .cells #[.int .i64 a0_0, .int .i64 a0_1, .slice A0_2 l0_2.length c0_2, .slice A0_3 l0_3.length c0_3, .int .i64 a0_4, .int .i64 a0_5, .slice A0_6 l0_6.length c0_6, .slice A0_7 l0_7.length c0_7] 30 (0, 0)) (Zk BK269) hb); replace HB := ZM (zzT Z34 hb); (try clear hb); (try clear hb2); (try clear hk); (try clear hi)))
  go_meet
  case rel => exact ⟨_, (true), Z5, H', ⟨by first | omega | exact Nat.le_refl _⟩, ⟨by (with_reducible repeat (first | refine kkN ?_ _ | refine kkD ?_ | refine kkA ?_ _)); exact BK269.out⟩, ⟨by repeat (first | (with_reducible first | exact HB.out | apply zzA | apply zzN | apply zzD | refine below_set ?_ GE269.out) | exact HB.out)⟩⟩
 clear HC2
 obtain ⟨kq, x16_1, rfl, HA, HJ1, BK269, HB⟩ := hcut
 cases kq with
 | zero => exact absurd HA.out (by simp [quant_Loosen.j0])
 | succ kj1 =>
  have H := HA.out
  clear HA
  simp only [quant_Loosen.j0] at H
  by_cases c11 : x16_1 = true
  ·
   subst c11
   have H1 : (some (([] : List Int), 1)) = some (r1, r2) := by rw [if_pos rfl] at H; exact H
   clear H
   have H := H1
   clear H1
   simp only [Option.some.injEq, Prod.mk.injEq] at H
   obtain ⟨rfl, rfl⟩ := H
   go_wp2
   go_ret2
   exact ⟨_, by first | rfl | (simp [errW_none, errW_some] <;> rfl) | (simp [*, errW_none, errW_some] <;> rfl), by first | exact Kd.R_nil _ _ _ _ _ | exact Kd.N_nil _ _ _ _ _ | exact Kd.V_nil _ _ _ _ _ | exact Kd.Q_nil _ _ _ _ _ | exact Kd.S_nil _ _ _ _ _, by repeat (first | (with_reducible first | exact HB.out | apply zzA | apply zzN | apply zzD | refine below_set ?_ GE269.out) | exact HB.out)⟩
  replace c11 := Bool.eq_false_iff.mpr c11
  subst c11
  have H1 : (if 0 ≤ a0_1 then (if (a0_1 : Int).toNat ≤ 35184372088832 then (quant_Loosen.l0 kj1 (List.replicate (a0_1 : Int).toNat 0) l0_6 (l0_6.length : Int) 0 a0_0 a0_1 l0_2 l0_3 a0_4 a0_5 l0_6 l0_7) else (none)) else (none)) = some (r1, r2) := by rw [if_neg (show ¬ (false = true) by decide)] at H; exact H
  clear H
  have H := H1
  clear H1
  by_cases c12 : 0 ≤ a0_1
  case neg =>
   rw [if_neg c12] at H
   exact absurd H (by simp)
  rw [if_pos c12] at H
  have c12b0 := eq_true c12
  have c12b1 : decide (0 ≤ a0_1) = true := decide_eq_true c12
  clear c12
  by_cases c13 : (a0_1 : Int).toNat ≤ 35184372088832
  case neg =>
   rw [if_neg c13] at H
   exact absurd H (by simp)
  rw [if_pos c13] at H
  have c13b0 := eq_true c13
  have c13b1 : decide ((a0_1 : Int).toNat ≤ 35184372088832) = true := decide_eq_true c13
  clear c13
  obtain ⟨y271, hy271⟩ : ∃ y_ : List Int, y_ = (List.replicate (a0_1 : Int).toNat 0) := ⟨_, rfl⟩
  replace H : (quant_Loosen.l0 kj1 y271 l0_6 (l0_6.length : Int) 0 a0_0 a0_1 l0_2 l0_3 a0_4 a0_5 l0_6 l0_7) = some (r1, r2) := by first | (rw [hy271]; with_reducible exact H) | (have H2_ := (Option.bind_some _ _).symm.trans H; rw [hy271]; with_reducible exact H2_) | (have H2_ := (Option.bind_some _ _).symm.trans H; with_reducible exact H2_) | with_reducible exact H | (rw [hy271]; exact H) | exact H
  have Ny271 := ZM hy271
  clear hy271
  have H' := ZM H
  clear H
  obtain ⟨hcz14_0, hcz14_1, hcz14_2, hcz14_3, hcz14_4, hcz14_5, hcz14_6, hcz14_7, hfz14_0, hfz14_1, hfz14_2, hfz14_3, hfz14_4, hfz14_5, hfz14_6, hfz14_7⟩ := Y8f BK269
  go_wp2_with (first | ((with_reducible refine gate_dst (N := 19) rfl ?_); refine Kd.R_make (Kd.int .i64) _ 2 rfl (N := 19) rfl 27 _ _ rfl a0_1 rfl rfl Try.underlying27 (.int .i64 0) 8 info2 rfl (by decide) (by omega) 0 (ok := fun _ => True) (okp := fun _ => True) rfl (fun _ hk => hk) trivial (of_decide_eq_true Z2) (Nat.le_trans (Nat.mul_le_mul_right _ (of_decide_eq_true Z2 : a0_1.toNat ≤ 35184372088832)) (by omega)) (Below.refl _ _) (Nat.le_refl _) ?_; intro v272 w15 ho16 hb hg_ hnew_; clear hg_ hnew_; (first | rw [← Ny271.out] at ho16 | (simp only [Int.reduceToNat] at ho16; rw [← Ny271.out] at ho16)); have HO273 := ZM (Kd.R_lower ho16 (zzS Z34)); replace BK269 := ZM (blk_below (g := gb269) (o := .cells #[.int .i64 a0_0, .int .i64 a0_1, .slice A0_2 l0_2.length c0_2, .slice A0_3 l0_3.length c0_3, .int .i64 a0_4, .int .i64 a0_5, .slice A0_6 l0_6.length c0_6, .slice A0_7 l0_7.length c0_7] 30 (0, 0)) (Zk BK269) hb); replace HB := ZM (zzT Z34 hb); clear hb ho16; obtain ⟨hcz17_0, hcz17_1, hcz17_2, hcz17_3, hcz17_4, hcz17_5, hcz17_6, hcz17_7, hfz17_0, hfz17_1, hfz17_2, hfz17_3, hfz17_4, hfz17_5, hfz17_6, hfz17_7⟩ := Y8f BK269))
  go_loopg [23] kj1 (fun kq v23 w' => ∃ (x4_2 : List Int) (x23_2 : Int), v23 = .int .i64 x23_2 ∧ Aside0 (quant_Loosen.l0 kq x4_2 l0_6 (l0_6.length : Int) x23_2 a0_0 a0_1 l0_2 l0_3 a0_4 a0_5 l0_6 l0_7 = some (r1, r2)) ∧ Aside0 (kq ≤ kj1) ∧ Aside0 (Kd.R (Kd.int .i64) 2 w' w.heap.size (fun _ => True) v272 x4_2) ∧ Aside0 (w'.heap[gb269]? = some (.cells #[.int .i64 a0_0, .int .i64 a0_1, (.slice A0_2 l0_2.length c0_2), (.slice A0_3 l0_3.length c0_3), .int .i64 a0_4, .int .i64 a0_5, (.slice A0_6 l0_6.length c0_6), (.slice A0_7 l0_7.length c0_7)] 30 (0, 0))) ∧ Aside0 (Below w.heap.size w w'))
  case atStart => exact ⟨(y271), (0), Z5, H', ⟨Nat.le_refl _⟩, ⟨by (with_reducible repeat (first | apply rrA | apply rrN | apply rrD)); exact HO273.out⟩, ⟨by (with_reducible repeat (first | refine kkN ?_ _ | refine kkD ?_ | refine kkA ?_ _)); exact BK269.out⟩, ⟨by repeat (first | (with_reducible first | exact HB.out | apply zzA | apply zzN | apply zzD | refine below_set ?_ GE269.out) | exact HB.out)⟩⟩
  case round =>
   clear H'
   try clear c11
   try clear c12
   try clear c12b0
   try clear c12b1
   try clear c13
   try clear c13b0
   try clear c13b1
   try clear hcz14_0
   try clear hcz14_1
   try clear hcz14_2
   try clear hcz14_3
   try clear hcz14_4
   try clear hcz14_5
   try clear hcz14_6
   try clear hcz14_7
   try clear hcz17_0
   try clear hcz17_1
   try clear hcz17_2
   try clear hcz17_3
   try clear hcz17_4
   try clear hcz17_5
   try clear hcz17_6
   try clear hcz17_7
   try clear hfz14_0
   try clear hfz14_1
   try clear hfz14_2
   try clear hfz14_3
   try clear hfz14_4
   try clear hfz14_5
   try clear hfz14_6
   try clear hfz14_7
   try clear hfz17_0
   try clear hfz17_1
   try clear hfz17_2
   try clear hfz17_3
   try clear hfz17_4
   try clear hfz17_5
   try clear hfz17_6
   try clear hfz17_7
   obtain ⟨x4_2, x23_2, rfl, HA, HK2, HO_4, BK269, HB⟩ := hrel
   cases gk with
   | zero => exact absurd HA.out (by simp [quant_Loosen.l0])
   | succ k2 =>
    have H := HA.out
    clear HA
    simp only [quant_Loosen.l0] at H
    by_cases c18 : x23_2 < (l0_6.length : Int)
    case neg =>
     rw [if_neg c18] at H
     have c18b0 : decide (x23_2 < (l0_6.length : Int)) = false := decide_eq_false c18
     clear c18
     simp only [Option.some.injEq, Prod.mk.injEq] at H
     obtain ⟨rfl, rfl⟩ := H
     go_wp2
     go_ret2
     exact ⟨_, by first | rfl | (simp [errW_none, errW_some] <;> rfl) | (simp [*, errW_none, errW_some] <;> rfl), by (with_reducible repeat (first | apply rrA | apply rrN | apply rrD)); exact HO_4.out, by repeat (first | (with_reducible first | exact HB.out | apply zzA | apply zzN | apply zzD | refine below_set ?_ GE269.out) | exact HB.out)⟩
    rw [if_pos c18] at H
    have c18b0 : decide (x23_2 < (l0_6.length : Int)) = true := decide_eq_true c18
    clear c18
    by_cases c19 : 0 ≤ x23_2
    case neg =>
     rw [if_neg c19] at H
     exact absurd H (by simp)
    rw [if_pos c19] at H
    have c19b0 : decide (0 ≤ x23_2) = true := decide_eq_true c19
    clear c19
    by_cases c20 : x23_2 < (l0_6.length : Int)
    case neg =>
     rw [if_neg c20] at H
     exact absurd H (by simp)
    rw [if_pos c20] at H
    have c20b0 : decide (x23_2 < (l0_6.length : Int)) = true := decide_eq_true c20
    clear c20
    replace H := Option.bind_eq_some_iff.mp H
    obtain ⟨⟨t275, t276⟩, A210, H⟩ := H
    replace H : (if t276 = 0 then (if x23_2 < (x4_2.length : Int) then ((some (x4_2.set (x23_2 : Int).toNat t275 : List Int)).bind fun y277 => (if x23_2 < (l0_7.length : Int) then (if rdOf false l0_7 x23_2 = true then (quant_Loosen.l0 k2 (y277.set (x23_2 : Int).toNat (wrap64 (-t275))) l0_6 (l0_6.length : Int) (wrap64 (x23_2 + 1)) a0_0 a0_1 l0_2 l0_3 a0_4 a0_5 l0_6 l0_7) else (quant_Loosen.l0 k2 y277 l0_6 (l0_6.length : Int) (wrap64 (x23_2 + 1)) a0_0 a0_1 l0_2 l0_3 a0_4 a0_5 l0_6 l0_7)) else (none))) else (none)) else (some (([] : List Int), t276))) = some (r1, r2) := H
    have A21 := ZM A210
    clear A210
    by_cases c22 : t276 = 0
    case neg =>
     rw [if_neg c22] at H
     have c22b0 : (t276 == 0) = false := beq_eq_false_iff_ne.mpr c22
     have c22b1 : (t276 != 0) = true := bne_iff_ne.mpr c22
     simp only [Option.some.injEq, Prod.mk.injEq] at H
     obtain ⟨rfl, rfl⟩ := H
     have p274 : 0 ≤ (x23_2 : Int) := of_decide_eq_true Z2
     have q274 : x23_2 < (l0_6.length : Int) := of_decide_eq_true Z2
     obtain ⟨ad274, e274, hx274_0⟩ := Kd.at_int HR0_6.out x23_2 p274 q274
     cases e274
     replace hx274_0 := (HB.out.cell (World.block_lt_of_cell? w _ hx274_0)).trans hx274_0
     replace p274 := eq_true p274
     replace q274 := eq_true q274
     obtain ⟨hcz39_0, hcz39_1, hcz39_2, hcz39_3, hcz39_4, hcz39_5, hcz39_6, hcz39_7, hfz39_0, hfz39_1, hfz39_2, hfz39_3, hfz39_4, hfz39_5, hfz39_6, hfz39_7⟩ := Y8f BK269
     go_wp2_with (first | ((with_reducible refine gate_callee (f := 49) rfl ?_); refine goesL_ (some 34) rfl rfl Try.func49 (by kernel_rfl) rfl #[.int .u64 (rd l0_6 x23_2), .int .i64 a0_4, .int .i64 a0_5] rfl Z1 ?_; (with_reducible refine (quant_Value.calls (rd l0_6 x23_2) a0_4 a0_5 t275 t276 _ A21.out).mono ?_); rintro e w' ⟨rfl, ⟨nd, rfl⟩⟩; refine ⟨_, rfl, ?_⟩))
     go_ret2
     exact ⟨_, by first | rfl | (simp [errW_none, errW_some] <;> rfl) | (simp [*, errW_none, errW_some] <;> rfl), by first | exact Kd.R_nil _ _ _ _ _ | exact Kd.N_nil _ _ _ _ _ | exact Kd.V_nil _ _ _ _ _ | exact Kd.Q_nil _ _ _ _ _ | exact Kd.S_nil _ _ _ _ _, by repeat (first | (with_reducible first | exact HB.out | apply zzA | apply zzN | apply zzD | refine below_set ?_ GE269.out) | exact HB.out)⟩
    rw [if_pos c22] at H
    have c22b0 : (t276 == 0) = true := beq_iff_eq.mpr c22
    have c22b1 : (t276 != 0) = false := bne_eq_false_iff_eq.mpr c22
    clear c22
    by_cases c23 : x23_2 < (x4_2.length : Int)
    case neg =>
     rw [if_neg c23] at H
     exact absurd H (by simp)
    rw [if_pos c23] at H
    have c23b0 : decide (x23_2 < (x4_2.length : Int)) = true := decide_eq_true c23
    clear c23
    obtain ⟨y277, hy277⟩ : ∃ y_ : List Int, y_ = (x4_2.set (x23_2 : Int).toNat t275) := ⟨_, rfl⟩
    replace H : (if x23_2 < (l0_7.length : Int) then (if rdOf false l0_7 x23_2 = true then (quant_Loosen.l0 k2 (y277.set (x23_2 : Int).toNat (wrap64 (-t275))) l0_6 (l0_6.length : Int) (wrap64 (x23_2 + 1)) a0_0 a0_1 l0_2 l0_3 a0_4 a0_5 l0_6 l0_7) else (quant_Loosen.l0 k2 y277 l0_6 (l0_6.length : Int) (wrap64 (x23_2 + 1)) a0_0 a0_1 l0_2 l0_3 a0_4 a0_5 l0_6 l0_7)) else (none)) = some (r1, r2) := by first | (rw [hy277]; with_reducible exact H) | (have H2_ := (Option.bind_some _ _).symm.trans H; rw [hy277]; with_reducible exact H2_) | (have H2_ := (Option.bind_some _ _).symm.trans H; with_reducible exact H2_) | with_reducible exact H | (rw [hy277]; exact H) | exact H
    have Ny277 := ZM hy277
    clear hy277
    by_cases c25 : x23_2 < (l0_7.length : Int)
    case neg =>
     rw [if_neg c25] at H
     exact absurd H (by simp)
    rw [if_pos c25] at H
    have c25b0 : decide (x23_2 < (l0_7.length : Int)) = true := decide_eq_true c25
    clear c25
    obtain ⟨bq26, hbq26⟩ : ∃ b_ : Bool, b_ = (rdOf false l0_7 x23_2) := ⟨_, rfl⟩
    replace H : (if bq26 = true then (quant_Loosen.l0 k2 (y277.set (x23_2 : Int).toNat (wrap64 (-t275))) l0_6 (l0_6.length : Int) (wrap64 (x23_2 + 1)) a0_0 a0_1 l0_2 l0_3 a0_4 a0_5 l0_6 l0_7) else (quant_Loosen.l0 k2 y277 l0_6 (l0_6.length : Int) (wrap64 (x23_2 + 1)) a0_0 a0_1 l0_2 l0_3 a0_4 a0_5 l0_6 l0_7)) = some (r1, r2) := by rw [← hbq26] at H; exact H
    have Nbq26 := ZM hbq26
    clear hbq26
    by_cases c27 : bq26 = true
    case neg =>
     replace c27 := Bool.eq_false_iff.mpr c27
     subst c27
     have H1 : (quant_Loosen.l0 k2 y277 l0_6 (l0_6.length : Int) (wrap64 (x23_2 + 1)) a0_0 a0_1 l0_2 l0_3 a0_4 a0_5 l0_6 l0_7) = some (r1, r2) := by rw [if_neg (show ¬ (false = true) by decide)] at H; exact H
     clear H
     have H := H1
     clear H1
     have H' := ZM H
     clear H
     have p274 : 0 ≤ (x23_2 : Int) := of_decide_eq_true Z2
     have q274 : x23_2 < (l0_6.length : Int) := of_decide_eq_true Z2
     obtain ⟨ad274, e274, hx274_0⟩ := Kd.at_int HR0_6.out x23_2 p274 q274
     cases e274
     replace hx274_0 := (HB.out.cell (World.block_lt_of_cell? w _ hx274_0)).trans hx274_0
     replace p274 := eq_true p274
     replace q274 := eq_true q274
     obtain ⟨hcz35_0, hcz35_1, hcz35_2, hcz35_3, hcz35_4, hcz35_5, hcz35_6, hcz35_7, hfz35_0, hfz35_1, hfz35_2, hfz35_3, hfz35_4, hfz35_5, hfz35_6, hfz35_7⟩ := Y8f BK269
     go_wp2_with (first | ((with_reducible refine gate_callee (f := 49) rfl ?_); refine goesL_ (some 34) rfl rfl Try.func49 (by kernel_rfl) rfl #[.int .u64 (rd l0_6 x23_2), .int .i64 a0_4, .int .i64 a0_5] rfl Z1 ?_; (with_reducible refine (quant_Value.calls (rd l0_6 x23_2) a0_4 a0_5 t275 t276 _ A21.out).mono ?_); rintro e w' ⟨rfl, ⟨nd, rfl⟩⟩; refine ⟨_, rfl, ?_⟩; (try (rw [drewN_self wr]; generalize hq_ : World.drewN wr _ = wr; have n0_ : Aside0 (Kd.R (Kd.int .i64) 2 wr w.heap.size (fun _ => True) v272 x4_2) := ⟨by rw [← hq_]; exact (Zr HO_4)⟩; have n1_ : Aside0 (wr.heap[gb269]? = some (.cells #[.int .i64 a0_0, .int .i64 a0_1, .slice A0_2 l0_2.length c0_2, .slice A0_3 l0_3.length c0_3, .int .i64 a0_4, .int .i64 a0_5, .slice (some ad274) l0_6.length c0_6, .slice A0_7 l0_7.length c0_7] 30 (0, 0))) := ⟨by rw [← hq_]; exact (Zk BK269)⟩; have n2_ : Aside0 (Below w.heap.size w wr) := ⟨by rw [← hq_]; exact Z34⟩; clear HO_4 BK269 HB hq_; have HO_4 := n0_; have BK269 := n1_; have HB := n2_; clear n0_ n1_ n2_)); have p24 : 0 ≤ (x23_2 : Int) := of_decide_eq_true Z2; have q24 : (x23_2 : Int) < ((x4_2.length : Int) : Int) := of_decide_eq_true Z2; obtain ⟨go24, co24, eo24, gb24, gl24, cl24, HG24⟩ := Kd.R_form HO_4.out (by omega); (first | cases eo24 | (injection eo24 with ea_ en_ ec_; (first | subst ea_ | (injection ea_ with ea_; subst ea_)); subst ec_; clear en_)); have GB24 := ZM gb24; have GG24 := ZM HG24; clear gb24 gl24 HG24; obtain ⟨hx24_0, hf24_0⟩ := Kd.R_celln 0 HO_4.out (x23_2 : Int) p24 q24; replace p24 := eq_true p24; replace q24 := eq_true q24; obtain ⟨hy36_, hz36_⟩ := Kd.R_celln 0 HO_4.out (x23_2 : Int) (of_decide_eq_true Z2) (of_decide_eq_true Z2); have HP36 := Kd.R_putg HO_4.out (x23_2 : Int) t275) | ((with_reducible refine gate_store (t := 2) (p := 43) rfl ?_); refine store_event (t := 2) (p := 43) (v := ?vo_w37) (w1 := (wr.setCell ⟨go24, (x23_2 : Int).toNat, none⟩ (.int .i64 t275))) ?hg ?ho ?hn ?hr ?_; (case ho => rfl); (case hg => rfl); (case hn => rfl); (case hr => exact Z12); intro w37 hw; have hg : wr.grownBy w37 (some go24) := (by rw [hw]; exact HP36.2); have hp_ : Kd.R (Kd.int .i64) 2 w37 w.heap.size (fun _ => True) (.slice (some ⟨go24, 0, none⟩) x4_2.length co24) y277 := (by rw [hw, Ny277.out]; exact HP36.1); clear HP36; have n0_ := ZM (hp_); have n1_ := ZM (blk_grown (g := gb269) (o := .cells #[.int .i64 a0_0, .int .i64 a0_1, .slice A0_2 l0_2.length c0_2, .slice A0_3 l0_3.length c0_3, .int .i64 a0_4, .int .i64 a0_5, .slice (some ad274) l0_6.length c0_6, .slice A0_7 l0_7.length c0_7] 30 (0, 0)) (Zk BK269) hg (Kd.R_ne HO_4.out BK269.out (by decide))); have n2_ := ZM ((by rw [hw]; exact below_set (HB.out) GB24.out : Below w.heap.size w w37)); clear HO_4; clear BK269; clear HB; have HO_4 := n0_; have BK269 := n1_; have HB := n2_; clear n0_ n1_ n2_; clear hg hw hp_; obtain ⟨hcz38_0, hcz38_1, hcz38_2, hcz38_3, hcz38_4, hcz38_5, hcz38_6, hcz38_7, hfz38_0, hfz38_1, hfz38_2, hfz38_3, hfz38_4, hfz38_5, hfz38_6, hfz38_7⟩ := Y8f BK269; have p278 : 0 ≤ (x23_2 : Int) := of_decide_eq_true Z2; have q278 : x23_2 < (l0_7.length : Int) := of_decide_eq_true Z2; obtain ⟨ad278, e278, hx278_0⟩ := Kd.at_bool HR0_7.out x23_2 p278 q278; (try rw [← Nbq26.out] at hx278_0); cases e278; replace hx278_0 := (HB.out.cell (World.block_lt_of_cell? w _ hx278_0)).trans hx278_0; replace p278 := eq_true p278; replace q278 := eq_true q278))
     go_roundg k2
     case measure => have := HJ1.out; have := HK2.out; omega
     case rel => exact ⟨(y277), (wrap64 (x23_2 + 1)), Z5, H', ⟨by have := HJ1.out; have := HK2.out; omega⟩, ⟨by (with_reducible repeat (first | apply rrA | apply rrN | apply rrD)); exact HO_4.out⟩, ⟨by (with_reducible repeat (first | refine kkN ?_ _ | refine kkD ?_ | refine kkA ?_ _)); exact BK269.out⟩, ⟨by repeat (first | (with_reducible first | exact HB.out | apply zzA | apply zzN | apply zzD | refine below_set ?_ GE269.out) | exact HB.out)⟩⟩
    subst c27
    have H1 : (quant_Loosen.l0 k2 (y277.set (x23_2 : Int).toNat (wrap64 (-t275))) l0_6 (l0_6.length : Int) (wrap64 (x23_2 + 1)) a0_0 a0_1 l0_2 l0_3 a0_4 a0_5 l0_6 l0_7) = some (r1, r2) := by rw [if_pos rfl] at H; exact H
    clear H
    have H := H1
    clear H1
    obtain ⟨y279, hy279⟩ : ∃ y_ : List Int, y_ = (y277.set (x23_2 : Int).toNat (wrap64 (-t275))) := ⟨_, rfl⟩
    replace H : (quant_Loosen.l0 k2 y279 l0_6 (l0_6.length : Int) (wrap64 (x23_2 + 1)) a0_0 a0_1 l0_2 l0_3 a0_4 a0_5 l0_6 l0_7) = some (r1, r2) := by first | (rw [hy279]; with_reducible exact H) | (have H2_ := (Option.bind_some _ _).symm.trans H; rw [hy279]; with_reducible exact H2_) | (have H2_ := (Option.bind_some _ _).symm.trans H; with_reducible exact H2_) | with_reducible exact H | (rw [hy279]; exact H) | exact H
    have Ny279 := ZM hy279
    clear hy279
    have H' := ZM H
    clear H
    have p274 : 0 ≤ (x23_2 : Int) := of_decide_eq_true Z2
    have q274 : x23_2 < (l0_6.length : Int) := of_decide_eq_true Z2
    obtain ⟨ad274, e274, hx274_0⟩ := Kd.at_int HR0_6.out x23_2 p274 q274
    cases e274
    replace hx274_0 := (HB.out.cell (World.block_lt_of_cell? w _ hx274_0)).trans hx274_0
    replace p274 := eq_true p274
    replace q274 := eq_true q274
    obtain ⟨hcz29_0, hcz29_1, hcz29_2, hcz29_3, hcz29_4, hcz29_5, hcz29_6, hcz29_7, hfz29_0, hfz29_1, hfz29_2, hfz29_3, hfz29_4, hfz29_5, hfz29_6, hfz29_7⟩ := Y8f BK269
    go_wp2_with (first | ((with_reducible refine gate_callee (f := 49) rfl ?_); refine goesL_ (some 34) rfl rfl Try.func49 (by kernel_rfl) rfl #[.int .u64 (rd l0_6 x23_2), .int .i64 a0_4, .int .i64 a0_5] rfl Z1 ?_; (with_reducible refine (quant_Value.calls (rd l0_6 x23_2) a0_4 a0_5 t275 t276 _ A21.out).mono ?_); rintro e w' ⟨rfl, ⟨nd, rfl⟩⟩; refine ⟨_, rfl, ?_⟩; (try (rw [drewN_self wr]; generalize hq_ : World.drewN wr _ = wr; have n0_ : Aside0 (Kd.R (Kd.int .i64) 2 wr w.heap.size (fun _ => True) v272 x4_2) := ⟨by rw [← hq_]; exact (Zr HO_4)⟩; have n1_ : Aside0 (wr.heap[gb269]? = some (.cells #[.int .i64 a0_0, .int .i64 a0_1, .slice A0_2 l0_2.length c0_2, .slice A0_3 l0_3.length c0_3, .int .i64 a0_4, .int .i64 a0_5, .slice (some ad274) l0_6.length c0_6, .slice A0_7 l0_7.length c0_7] 30 (0, 0))) := ⟨by rw [← hq_]; exact (Zk BK269)⟩; have n2_ : Aside0 (Below w.heap.size w wr) := ⟨by rw [← hq_]; exact Z34⟩; clear HO_4 BK269 HB hq_; have HO_4 := n0_; have BK269 := n1_; have HB := n2_; clear n0_ n1_ n2_)); have p24 : 0 ≤ (x23_2 : Int) := of_decide_eq_true Z2; have q24 : (x23_2 : Int) < ((x4_2.length : Int) : Int) := of_decide_eq_true Z2; obtain ⟨go24, co24, eo24, gb24, gl24, cl24, HG24⟩ := Kd.R_form HO_4.out (by omega); (first | cases eo24 | (injection eo24 with ea_ en_ ec_; (first | subst ea_ | (injection ea_ with ea_; subst ea_)); subst ec_; clear en_)); have GB24 := ZM gb24; have GG24 := ZM HG24; clear gb24 gl24 HG24; obtain ⟨hx24_0, hf24_0⟩ := Kd.R_celln 0 HO_4.out (x23_2 : Int) p24 q24; replace p24 := eq_true p24; replace q24 := eq_true q24; obtain ⟨hy30_, hz30_⟩ := Kd.R_celln 0 HO_4.out (x23_2 : Int) (of_decide_eq_true Z2) (of_decide_eq_true Z2); have HP30 := Kd.R_putg HO_4.out (x23_2 : Int) t275) | ((with_reducible refine gate_store (t := 2) (p := 43) rfl ?_); refine store_event (t := 2) (p := 43) (v := ?vo_w31) (w1 := (wr.setCell ⟨go24, (x23_2 : Int).toNat, none⟩ (.int .i64 t275))) ?hg ?ho ?hn ?hr ?_; (case ho => rfl); (case hg => rfl); (case hn => rfl); (case hr => exact Z12); intro w31 hw; have hg : wr.grownBy w31 (some go24) := (by rw [hw]; exact HP30.2); have hp_ : Kd.R (Kd.int .i64) 2 w31 w.heap.size (fun _ => True) (.slice (some ⟨go24, 0, none⟩) x4_2.length co24) y277 := (by rw [hw, Ny277.out]; exact HP30.1); clear HP30; have n0_ := ZM (hp_); have n1_ := ZM (blk_grown (g := gb269) (o := .cells #[.int .i64 a0_0, .int .i64 a0_1, .slice A0_2 l0_2.length c0_2, .slice A0_3 l0_3.length c0_3, .int .i64 a0_4, .int .i64 a0_5, .slice (some ad274) l0_6.length c0_6, .slice A0_7 l0_7.length c0_7] 30 (0, 0)) (Zk BK269) hg (Kd.R_ne HO_4.out BK269.out (by decide))); have n2_ := ZM ((by rw [hw]; exact below_set (HB.out) GB24.out : Below w.heap.size w w31)); clear HO_4; clear BK269; clear HB; have HO_4 := n0_; have BK269 := n1_; have HB := n2_; clear n0_ n1_ n2_; clear hg hw hp_; obtain ⟨hcz32_0, hcz32_1, hcz32_2, hcz32_3, hcz32_4, hcz32_5, hcz32_6, hcz32_7, hfz32_0, hfz32_1, hfz32_2, hfz32_3, hfz32_4, hfz32_5, hfz32_6, hfz32_7⟩ := Y8f BK269; have p278 : 0 ≤ (x23_2 : Int) := of_decide_eq_true Z2; have q278 : x23_2 < (l0_7.length : Int) := of_decide_eq_true Z2; obtain ⟨ad278, e278, hx278_0⟩ := Kd.at_bool HR0_7.out x23_2 p278 q278; (try rw [← Nbq26.out] at hx278_0); cases e278; replace hx278_0 := (HB.out.cell (World.block_lt_of_cell? w _ hx278_0)).trans hx278_0; replace p278 := eq_true p278; replace q278 := eq_true q278; have p28 : 0 ≤ (x23_2 : Int) := of_decide_eq_true Z2; have q28 : (x23_2 : Int) < ((x4_2.length : Int) : Int) := of_decide_eq_true Z2; obtain ⟨hx28_0, hf28_0⟩ := Kd.R_celln 0 HO_4.out (x23_2 : Int) p28 q28; replace p28 := eq_true p28; replace q28 := eq_true q28; obtain ⟨hy33_, hz33_⟩ := Kd.R_celln 0 HO_4.out (x23_2 : Int) (of_decide_eq_true Z2) (of_decide_eq_true Z2); have HP33 := Kd.R_putg HO_4.out (x23_2 : Int) (wrap64 (-t275))) | ((with_reducible refine gate_store (t := 2) (p := 53) rfl ?_); refine store_event (t := 2) (p := 53) (v := ?vo_w34) (w1 := (w31.setCell ⟨go24, (x23_2 : Int).toNat, none⟩ (.int .i64 (wrap64 (-t275))))) ?hg ?ho ?hn ?hr ?_; (case ho => rfl); (case hg => rfl); (case hn => rfl); (case hr => exact Z12); intro w34 hw; have hg : w31.grownBy w34 (some go24) := (by rw [hw]; exact HP33.2); have hp_ : Kd.R (Kd.int .i64) 2 w34 w.heap.size (fun _ => True) (.slice (some ⟨go24, 0, none⟩) x4_2.length co24) y279 := (by rw [hw, Ny279.out]; exact HP33.1); clear HP33; have n0_ := ZM (hp_); have n1_ := ZM (blk_grown (g := gb269) (o := .cells #[.int .i64 a0_0, .int .i64 a0_1, .slice A0_2 l0_2.length c0_2, .slice A0_3 l0_3.length c0_3, .int .i64 a0_4, .int .i64 a0_5, .slice (some ad274) l0_6.length c0_6, .slice (some ad278) l0_7.length c0_7] 30 (0, 0)) (Zk BK269) hg (Kd.R_ne HO_4.out BK269.out (by decide))); have n2_ := ZM ((by rw [hw]; exact below_set (HB.out) GB24.out : Below w.heap.size w w34)); clear HO_4; clear BK269; clear HB; have HO_4 := n0_; have BK269 := n1_; have HB := n2_; clear n0_ n1_ n2_; clear hg hw hp_))
    go_roundg k2
    case measure => have := HJ1.out; have := HK2.out; omega
    case rel => exact ⟨(y279), (wrap64 (x23_2 + 1)), Z5, H', ⟨by have := HJ1.out; have := HK2.out; omega⟩, ⟨by (with_reducible repeat (first | apply rrA | apply rrN | apply rrD)); exact HO_4.out⟩, ⟨by (with_reducible repeat (first | refine kkN ?_ _ | refine kkD ?_ | refine kkA ?_ _)); exact BK269.out⟩, ⟨by repeat (first | (with_reducible first | exact HB.out | apply zzA | apply zzN | apply zzD | refine below_set ?_ GE269.out) | exact HB.out)⟩⟩
/-! ### thrumref10_ValueP: function 50 -/
def thrumref10_ValueP.f (a0 : Int) (a1 : Int) (a2 : Int) : Option (Int × Int) := (thrumref10_Steps.f a2).bind fun bt280 => (if bt280.2 = 0 then (if a1 < 0 then (some (0, 1)) else (if a0 > bt280.1 then (some (0, 1)) else (if bt280.1 = 0 then (none) else (some (wrap64 (IntKind.u64.wrap ((IntKind.u64.wrap ((IntKind.u64.wrap (Int.tdiv (IntKind.u64.wrap (a1)) bt280.1)) * a0)) + (IntKind.u64.wrap (Int.tdiv (IntKind.u64.wrap ((Int.tmod (IntKind.u64.wrap (a1)) bt280.1) * a0)) bt280.1)))), 0))))) else (some (0, 1)))
set_option maxHeartbeats 8000000 in
set_option maxRecDepth 100000 in
theorem thrumref10_ValueP.calls (a0 : Int) (a1 : Int) (a2 : Int) (r1 : Int) (r2 : Int) (w : World) (h : thrumref10_ValueP.f a0 a1 a2 = some (r1, r2)) :
  Calls Try.prog 50 #[.int .u64 a0, .int .i64 a1, .int .i64 a2] w fun e w' => e = .returned (.tuple #[.int .i64 r1, .int .i64 r2]) ∧ Drawn0 w w' := by
 have H : ((thrumref10_Steps.f a2).bind fun bt280 => (if bt280.2 = 0 then (if a1 < 0 then (some (0, 1)) else (if a0 > bt280.1 then (some (0, 1)) else (if bt280.1 = 0 then (none) else (some (wrap64 (IntKind.u64.wrap ((IntKind.u64.wrap ((IntKind.u64.wrap (Int.tdiv (IntKind.u64.wrap (a1)) bt280.1)) * a0)) + (IntKind.u64.wrap (Int.tdiv (IntKind.u64.wrap ((Int.tmod (IntKind.u64.wrap (a1)) bt280.1) * a0)) bt280.1)))), 0))))) else (some (0, 1)))) = some (r1, r2) := h
 clear h
 replace H := Option.bind_eq_some_iff.mp H
 obtain ⟨⟨t280, t281⟩, A40, H⟩ := H
 replace H : (if t281 = 0 then (if a1 < 0 then (some (0, 1)) else (if a0 > t280 then (some (0, 1)) else (if t280 = 0 then (none) else (some (wrap64 (IntKind.u64.wrap ((IntKind.u64.wrap ((IntKind.u64.wrap (Int.tdiv (IntKind.u64.wrap (a1)) t280)) * a0)) + (IntKind.u64.wrap (Int.tdiv (IntKind.u64.wrap ((Int.tmod (IntKind.u64.wrap (a1)) t280) * a0)) t280)))), 0))))) else (some (0, 1))) = some (r1, r2) := H
 have A4 := ZM A40
 clear A40
 by_cases c5 : t281 = 0
 case neg =>
  rw [if_neg c5] at H
  have c5b0 : (t281 == 0) = false := beq_eq_false_iff_ne.mpr c5
  have c5b1 : (t281 != 0) = true := bne_iff_ne.mpr c5
  simp only [Option.some.injEq, Prod.mk.injEq] at H
  obtain ⟨rfl, rfl⟩ := H
  go_enter Try.func50, Try.ntmps50
  go_wp2_with (first | ((with_reducible refine gate_callee (f := 52) rfl ?_); refine goesL_ (some 14) rfl rfl Try.func52 (by kernel_rfl) rfl #[.int .i64 a2] rfl Z1 ?_; (with_reducible refine (thrumref10_Steps.calls a2 t280 t281 _ A4.out).mono ?_); rintro e w' ⟨rfl, ⟨nd, rfl⟩⟩; refine ⟨_, rfl, ?_⟩))
  go_ret2
  exact ⟨by first | rfl | (simp; done) | (simp [*]; done), by repeat (first | exact ddR _ | apply ddS)⟩
 rw [if_pos c5] at H
 have c5b0 : (t281 == 0) = true := beq_iff_eq.mpr c5
 have c5b1 : (t281 != 0) = false := bne_eq_false_iff_eq.mpr c5
 clear c5
 by_cases c6 : a1 < 0
 ·
  rw [if_pos c6] at H
  have c6b0 : decide (a1 < 0) = true := decide_eq_true c6
  clear c6
  simp only [Option.some.injEq, Prod.mk.injEq] at H
  obtain ⟨rfl, rfl⟩ := H
  go_enter Try.func50, Try.ntmps50
  go_wp2_with (first | ((with_reducible refine gate_callee (f := 52) rfl ?_); refine goesL_ (some 14) rfl rfl Try.func52 (by kernel_rfl) rfl #[.int .i64 a2] rfl Z1 ?_; (with_reducible refine (thrumref10_Steps.calls a2 t280 t281 _ A4.out).mono ?_); rintro e w' ⟨rfl, ⟨nd, rfl⟩⟩; refine ⟨_, rfl, ?_⟩))
  go_ret2
  exact ⟨by first | rfl | (simp; done) | (simp [*]; done), by repeat (first | exact ddR _ | apply ddS)⟩
 rw [if_neg c6] at H
 have c6b0 : decide (a1 < 0) = false := decide_eq_false c6
 clear c6
 by_cases c7 : a0 > t280
 ·
  rw [if_pos c7] at H
  have c7b0 : decide (t280 < a0) = true := decide_eq_true c7
  clear c7
  simp only [Option.some.injEq, Prod.mk.injEq] at H
  obtain ⟨rfl, rfl⟩ := H
  go_enter Try.func50, Try.ntmps50
  go_wp2_with (first | ((with_reducible refine gate_callee (f := 52) rfl ?_); refine goesL_ (some 14) rfl rfl Try.func52 (by kernel_rfl) rfl #[.int .i64 a2] rfl Z1 ?_; (with_reducible refine (thrumref10_Steps.calls a2 t280 t281 _ A4.out).mono ?_); rintro e w' ⟨rfl, ⟨nd, rfl⟩⟩; refine ⟨_, rfl, ?_⟩))
  go_ret2
  exact ⟨by first | rfl | (simp; done) | (simp [*]; done), by repeat (first | exact ddR _ | apply ddS)⟩
 rw [if_neg c7] at H
 have c7b0 : decide (t280 < a0) = false := decide_eq_false c7
 clear c7
 by_cases c8 : t280 = 0
 ·
  rw [if_pos c8] at H
  exact absurd H (by simp)
 rw [if_neg c8] at H
 have c8b0 : (t280 == 0) = false := beq_eq_false_iff_ne.mpr c8
 have c8b1 : (t280 != 0) = true := bne_iff_ne.mpr c8
 simp only [Option.some.injEq, Prod.mk.injEq] at H
 obtain ⟨rfl, rfl⟩ := H
 go_enter Try.func50, Try.ntmps50
 go_wp2_with (first | ((with_reducible refine gate_callee (f := 52) rfl ?_); refine goesL_ (some 14) rfl rfl Try.func52 (by kernel_rfl) rfl #[.int .i64 a2] rfl Z1 ?_; (with_reducible refine (thrumref10_Steps.calls a2 t280 t281 _ A4.out).mono ?_); rintro e w' ⟨rfl, ⟨nd, rfl⟩⟩; refine ⟨_, rfl, ?_⟩))
 go_ret2
 exact ⟨by first | rfl | (simp; done) | (simp [*]; done), by repeat (first | exact ddR _ | apply ddS)⟩
def thrumref10_Value.f (a0 a1 a2 : Int) : Option (Int × Int) := if U64 a0 ∧ I64 a1 then some (valueF a0 a1 a2) else none
theorem thrumref10_Value.of (a0 a1 a2 : Int)  (h_ : U64 a0 ∧ I64 a1) : thrumref10_Value.f a0 a1 a2 = some (valueF a0 a1 a2) := if_pos h_
theorem thrumref10_Value.is (a0 a1 a2 : Int) (h0 : U64 a0) (h1 : I64 a1) : thrumref10_ValueP.f a0 a1 a2 = some (valueF a0 a1 a2) := by
  unfold thrumref10_ValueP.f valueF thrumref10_Steps.f stepsF
  simp only [Option.bind_some]
  by_cases cb : badW a2
  · rw [if_pos cb, if_neg (by decide), if_pos (.inl cb)]
  · obtain ⟨t0, t1⟩ := topF_pos cb
    rw [if_neg cb, if_pos rfl]
    by_cases c1 : a1 < 0
    · rw [if_pos c1, if_pos (.inr (.inl c1))]
    · rw [if_neg c1]
      by_cases c2 : a0 > topF a2
      · rw [if_pos c2, if_pos (.inr (.inr c2))]
      · rw [if_neg c2, if_neg (show ¬ (badW a2 ∨ a1 < 0 ∨ a0 > topF a2) from fun h => h.elim cb (fun h => h.elim c1 c2))]
        unfold I64 at h1
        unfold U64 at h0
        have hw : IntKind.u64.wrap a1 = a1 := by rw [wu]; omega
        obtain ⟨v0, v1⟩ := value_bd h0.1 (show a0 ≤ topF a2 by omega) (show 0 ≤ a1 by omega) (show 0 < topF a2 by omega)
        have hd0 : 0 ≤ a1 / topF a2 := Int.ediv_nonneg (by omega) (by omega)
        have hd1 : a1 / topF a2 ≤ a1 := Int.ediv_le_self _ (by omega)
        have hm0 := Int.emod_nonneg a1 (show topF a2 ≠ 0 by omega)
        have hm1 := Int.emod_lt_of_pos a1 (show 0 < topF a2 by omega)
        have hq0 : 0 ≤ a1 % topF a2 * a0 := Int.mul_nonneg hm0 h0.1
        have hq1 : a1 % topF a2 * a0 ≤ 255 * 255 := Int.mul_le_mul (by omega) (by omega) h0.1 (by omega)
        have hr0 : 0 ≤ a1 % topF a2 * a0 / topF a2 := Int.ediv_nonneg hq0 (by omega)
        have hr1 : a1 % topF a2 * a0 / topF a2 ≤ a1 % topF a2 * a0 := Int.ediv_le_self _ hq0
        have hs0 : 0 ≤ a1 / topF a2 * a0 := Int.mul_nonneg hd0 h0.1
        have hp := value_parts (s := a1) (l := a0) (t := topF a2) (by omega)
        rw [if_neg (show ¬ ((topF a2, (0 : Int)).1 = 0) from fun h => by have h' : topF a2 = 0 := h; omega), hw, Int.tdiv_eq_ediv_of_nonneg (show 0 ≤ a1 by omega), Int.tmod_eq_emod_of_nonneg (show 0 ≤ a1 by omega)]
        simp only [wu]
        rw [show a1 / topF a2 % 18446744073709551616 = a1 / topF a2 by omega, show a1 / topF a2 * a0 % 18446744073709551616 = a1 / topF a2 * a0 by omega, show a1 % topF a2 * a0 % 18446744073709551616 = a1 % topF a2 * a0 by omega, Int.tdiv_eq_ediv_of_nonneg hq0, show a1 % topF a2 * a0 / topF a2 % 18446744073709551616 = a1 % topF a2 * a0 / topF a2 by omega, hp, show a1 * a0 / topF a2 % 18446744073709551616 = a1 * a0 / topF a2 by omega, wrap64_of (by unfold I64; omega)]
theorem thrumref10_Value.calls (a0 : Int) (a1 : Int) (a2 : Int) (r1 : Int) (r2 : Int) (w : World) (h : thrumref10_Value.f a0 a1 a2 = some (r1, r2)) :
    Calls Try.prog 50 #[.int .u64 a0, .int .i64 a1, .int .i64 a2] w fun e w' => e = .returned (.tuple #[.int .i64 r1, .int .i64 r2]) ∧ Drawn0 w w' := by
  unfold thrumref10_Value.f at h
  split at h
  case isFalse => cases h
  rename_i hv
  exact thrumref10_ValueP.calls a0 a1 a2 r1 r2 w ((thrumref10_Value.is a0 a1 a2 hv.1 hv.2).trans h)


end Go.Proofs.Ytkfhdpnfcaghbaa.HQ
