/- What Go functions do, each as a plain Lean function with the same answers, and the proof of it, in every world: printed by the session's driver over the kit's print, with texts by hand. -/
import Derived.Test.YtkfhdpnfcaghbaaHQx0
import Derived.Test.YtkfhdpnfcaghbaaHQx1
import Derived.Test.YtkfhdpnfcaghbaaHQx2
import Derived.Test.YtkfhdpnfcaghbaaHQx6
import Derived.Test.YtkfhdpnfcaghbaaHQx10
import Derived.Test.YtkfhdpnfcaghbaaHQx11
import Derived.Test.YtkfhdpnfcaghbaaHQx12
import Derived.Test.YtkfhdpnfcaghbaaHQx13
import Derived.Test.YtkfhdpnfcaghbaaHQx16
import Derived.Test.YtkfhdpnfcaghbaaHQx17
import Derived.Test.YtkfhdpnfcaghbaaMini
namespace Go.Proofs.Ytkfhdpnfcaghbaa.HQ
open Go.RowKit Go.Proofs.YtkfhdpnfcaghbaaW.PrintWords Go.Proofs.YtkfhdpnfcaghbaaW.PrintLast Go.Proofs.YtkfhdpnfcaghbaaW.PrintMore
attribute [local go_sem] max2_int min2_int max_two min_two max_three min_three max_four min_four   -- for this text's walks alone
open Go.Proofs.Ytkfhdpnfcaghbaa.Sp
attribute [local go_sem] Go.Proofs.Ytkfhdpnfcaghbaa.Sp.u64_not
set_option linter.unusedVariables false
set_option linter.unusedSimpArgs false

/-! ### thrumlaw10_QuantPresses: function 11 -/
def thrumlaw10_QuantPresses.j0 : Nat → List Int → Int → Int → List Int → Bool → Bool → Int → Int → List Int → List Int → Int → Int → List Int → List Bool → Option (Bool)
 | 0, _, _, _, _, _, _, _, _, _, _, _, _, _, _ => none
 | k + 1, x0, x1, x2, x3, x11, x35, x314000, x314001, x314002, x314003, x314004, x314005, x314006, x314007 => if x35 = true then (some x11) else (if ([] : List Int).length + x0.length < 17592186044416 then ((quant_Press.f k x0 x1 x2 x3).bind fun bt320 => ((thrumref10_Press.f k x0 x1 x2 x3).bind fun bt338 => ((quant_Loosen.f k x314000 x314001 x314002 x314003 x314004 x314005 x314006 x314007).bind fun bt356 => ((thrumref10_Loosen.f k x314000 x314001 x314002 x314003 x314004 x314005 x314006 x314007).bind fun bt360 => ((quant_Loosen.f k bt320.1 bt320.2.1 bt320.2.2.1 bt320.2.2.2.1 bt320.2.2.2.2.1 bt320.2.2.2.2.2.1 bt320.2.2.2.2.2.2.1 bt320.2.2.2.2.2.2.2.1).bind fun bt364 => ((thrumref10_Loosen.f k bt338.1 bt338.2.1 bt338.2.2.1 bt338.2.2.2.1 bt338.2.2.2.2.1 bt338.2.2.2.2.2.1 bt338.2.2.2.2.2.2.1 bt338.2.2.2.2.2.2.2.1).bind fun bt368 => (if x11 = true then ((thrumref07_SameSent.f bt320.1 bt320.2.1 bt320.2.2.1 bt320.2.2.2.1 bt320.2.2.2.2.1 bt320.2.2.2.2.2.1 bt320.2.2.2.2.2.2.1 bt320.2.2.2.2.2.2.2.1 bt338.1 bt338.2.1 bt338.2.2.1 bt338.2.2.2.1 bt338.2.2.2.2.1 bt338.2.2.2.2.2.1 bt338.2.2.2.2.2.2.1 bt338.2.2.2.2.2.2.2.1).bind fun t372 => (if t372 = true then (if bt320.2.2.2.2.2.2.2.2 = bt338.2.2.2.2.2.2.2.2 then ((thrumref02_Same.f bt356.1 bt360.1).bind fun t373 => (if t373 = true then (if bt356.2 = bt360.2 then ((thrumref02_Same.f bt364.1 bt368.1).bind fun t374 => (if t374 = true then (if bt364.2 = bt368.2 then ((quant_Near.f x0 x314000 x314001 x314002 x314003 x314004 x314005 x314006 x314007).bind fun t375 => ((thrumref10_Near.f k x0 x314000 x314001 x314002 x314003 x314004 x314005 x314006 x314007).bind fun t376 => (if (t375 == t376) = true then ((quant_Near.f x0 bt320.1 bt320.2.1 bt320.2.2.1 bt320.2.2.2.1 bt320.2.2.2.2.1 bt320.2.2.2.2.2.1 bt320.2.2.2.2.2.2.1 bt320.2.2.2.2.2.2.2.1).bind fun t377 => ((thrumref10_Near.f k x0 bt338.1 bt338.2.1 bt338.2.2.1 bt338.2.2.2.1 bt338.2.2.2.2.1 bt338.2.2.2.2.2.1 bt338.2.2.2.2.2.2.1 bt338.2.2.2.2.2.2.2.1).bind fun t378 => (if (t377 == t378) = true then ((thrumref02_Same.f x0 (([] : List Int) ++ x0)).bind fun t379 => (some t379)) else (some false)))) else (some false)))) else (some false)) else (some false))) else (some false)) else (some false))) else (some false)) else (some false))) else (some false)))))))) else (none))
def thrumlaw10_QuantPresses.f (k : Nat) (l0 : List Int) (a1 : Int) (a2 : Int) (l3 : List Int) (a4_0 : Int) (a4_1 : Int) (l4_2 : List Int) (l4_3 : List Int) (a4_4 : Int) (a4_5 : Int) (l4_6 : List Int) (l4_7 : List Bool) : Option (Bool) := (thrumlaw10_live.f).bind fun t314 => (if t314 = true then ((thrumlaw10_few.f l0 l3).bind fun t315 => (if t315 = true then ((thrumref07_Big.f a4_0 a4_1 l4_2 l4_3 a4_4 a4_5 l4_6 l4_7).bind fun t316 => (thrumlaw10_QuantPresses.j0 k l0 a1 a2 l3 t314 t316 a4_0 a4_1 l4_2 l4_3 a4_4 a4_5 l4_6 l4_7)) else (thrumlaw10_QuantPresses.j0 k l0 a1 a2 l3 t314 true a4_0 a4_1 l4_2 l4_3 a4_4 a4_5 l4_6 l4_7))) else (some false))
theorem thrumlaw10_QuantPresses.mono_l : ∀ k, (∀ y0 y1 y2 y3 y4 y5 y6 y7 y8 y9 y10 y11 y12 y13, LeO (thrumlaw10_QuantPresses.j0 k y0 y1 y2 y3 y4 y5 y6 y7 y8 y9 y10 y11 y12 y13) (thrumlaw10_QuantPresses.j0 (k + 1) y0 y1 y2 y3 y4 y5 y6 y7 y8 y9 y10 y11 y12 y13))
 | 0 => fun _ _ _ _ _ _ _ _ _ _ _ _ _ _ r h => by simp [thrumlaw10_QuantPresses.j0] at h
 | k + 1 => by
  have ih0 := thrumlaw10_QuantPresses.mono_l k
  ·
   intro y0 y1 y2 y3 y4 y5 y6 y7 y8 y9 y10 y11 y12 y13
   unfold thrumlaw10_QuantPresses.j0
   repeat' first
   | (with_reducible exact ih0 _ _ _ _ _ _ _ _ _ _ _ _ _ _)
   | (with_reducible exact quant_Loosen.mono _ _ _ _ _ _ _ _ _)
   | (with_reducible exact quant_Press.mono _ _ _ _ _)
   | (with_reducible exact thrumref10_Loosen.mono _ _ _ _ _ _ _ _ _)
   | (with_reducible exact thrumref10_Near.mono _ _ _ _ _ _ _ _ _ _)
   | (with_reducible exact thrumref10_Press.mono _ _ _ _ _)
   | (with_reducible exact LeO.refl _)
   | (with_reducible exact LeO.none _)
   | (with_reducible refine LeO.ite ?_ ?_)
   | (with_reducible refine LeO.bind ?_ (fun _ => ?_))
theorem thrumlaw10_QuantPresses.mono : ∀ a0 a1 a2 a3 a4 a5 a6 a7 a8 a9 a10 a11 k, LeO (thrumlaw10_QuantPresses.f k a0 a1 a2 a3 a4 a5 a6 a7 a8 a9 a10 a11) (thrumlaw10_QuantPresses.f (k + 1) a0 a1 a2 a3 a4 a5 a6 a7 a8 a9 a10 a11) := by
 intro a0 a1 a2 a3 a4 a5 a6 a7 a8 a9 a10 a11 k
 have ih0 := thrumlaw10_QuantPresses.mono_l k
 unfold thrumlaw10_QuantPresses.f
 repeat' first
   | (with_reducible exact ih0 _ _ _ _ _ _ _ _ _ _ _ _ _ _)
   | (with_reducible exact quant_Loosen.mono _ _ _ _ _ _ _ _ _)
   | (with_reducible exact quant_Press.mono _ _ _ _ _)
   | (with_reducible exact thrumref10_Loosen.mono _ _ _ _ _ _ _ _ _)
   | (with_reducible exact thrumref10_Near.mono _ _ _ _ _ _ _ _ _ _)
   | (with_reducible exact thrumref10_Press.mono _ _ _ _ _)
   | (with_reducible exact LeO.refl _)
   | (with_reducible exact LeO.none _)
   | (with_reducible refine LeO.ite ?_ ?_)
   | (with_reducible refine LeO.bind ?_ (fun _ => ?_))
def thrumlaw10_QuantPresses.T13 : Bool × List (List Nat × List Nat) := (true, [([], []), ([0], [0]), ([1], [1]), ([1], [1]), ([2, 3, 1, 1], [1, 2, 3]), ([1, 4], [1, 4]), ([5, 4], [5]), ([6], [6]), ([6], [6]), ([7, 8, 6], [6, 7, 8]), ([6, 9], [6, 9]), ([10, 6], [10]), ([11], [11]), ([11], [11]), ([12, 13, 11, 11], [11, 12, 13]), ([11, 14], [11, 14]), ([15, 14], [15]), ([16], [16]), ([16], [16]), ([17, 18, 16], [16, 17, 18]), ([16, 19], [16, 19]), ([20, 16], [20]), ([21], [21]), ([21], [21]), ([22, 23, 21, 21], [21, 22, 23]), ([21, 24], [21, 24]), ([25, 24], [25]), ([26], [26]), ([26], [26]), ([27, 28, 26], [26, 27, 28]), ([26, 29], [26, 29]), ([30, 26], [30]), ([31], [31]), ([31], [31]), ([32, 33, 31, 31], [31, 32, 33]), ([31], [31]), ([31], [31]), ([35, 36, 34, 31], [31, 35, 36]), ([34, 37, 31], [31, 34, 37]), ([31, 38], [31, 38]), ([39, 37], [39]), ([40], [40]), ([40], [40]), ([41, 42, 40, 40], [40, 41, 42]), ([40], [40]), ([40], [40]), ([44, 45, 43, 40], [40, 44, 45]), ([43, 46, 40], [40, 43, 46]), ([40, 47], [40, 47]), ([48, 46], [48]), ([49], [49]), ([49], [49]), ([50, 51, 49, 49], [49, 50, 51]), ([49, 52], [49, 52]), ([53, 52, 0, 1, 2, 3, 4, 5, 6, 7, 8, 9, 10, 11, 12, 13, 14, 15, 16, 17, 18, 19, 20, 21, 22, 23, 24, 25, 26, 27, 28, 29, 30, 31, 32, 33, 34, 35, 36, 37, 38, 39, 40, 41, 42, 43, 44, 45, 46, 47, 48, 49, 50, 51, 52, 53], [53])])
def thrumlaw10_QuantPresses.B13 : List Nat := [0, 1, 3, 3, 15, 31, 63, 127, 127, 511, 1023, 2047, 4095, 4095, 16383, 32767, 65535, 131071, 131071, 524287, 1048575, 2097151, 4194303, 4194303, 16777215, 33554431, 67108863, 134217727, 134217727, 536870911, 1073741823, 2147483647, 4294967295, 4294967295, 17179869183, 4294967295, 4294967295, 137438953471, 274877906943, 549755813887, 1099511627775, 2199023255551, 2199023255551, 8796093022207, 2199023255551, 2199023255551, 70368744177663, 140737488355327, 281474976710655, 562949953421311, 1125899906842623, 1125899906842623, 4503599627370495, 9007199254740991, 18014398509481983]
theorem thrumlaw10_QuantPresses.tab13 : rtab .any (opsOf Try.f11 13) = thrumlaw10_QuantPresses.T13 := by kernel_rfl
theorem thrumlaw10_QuantPresses.bits13 : waitsOk thrumlaw10_QuantPresses.T13.2 thrumlaw10_QuantPresses.B13 = true := by kernel_rfl
set_option maxHeartbeats 80000000 in
set_option maxRecDepth 100000 in
theorem thrumlaw10_QuantPresses.calls (k : Nat) (A0 : Option Addr) (c0 : Nat) (l0 : List Int) (a1 : Int) (a2 : Int) (A3 : Option Addr) (c3 : Nat) (l3 : List Int) (a4_0 : Int) (a4_1 : Int) (A4_2 : Option Addr) (c4_2 : Nat) (l4_2 : List Int) (A4_3 : Option Addr) (c4_3 : Nat) (l4_3 : List Int) (a4_4 : Int) (a4_5 : Int) (A4_6 : Option Addr) (c4_6 : Nat) (l4_6 : List Int) (A4_7 : Option Addr) (c4_7 : Nat) (l4_7 : List Bool) (r : Bool) (w : World) (hr0 : Kd.C (Kd.int .i64) w A0 l0.length l0) (hc0 : l0.length ≤ c0) (hr3 : Kd.C (Kd.int .i64) w A3 l3.length l3) (hc3 : l3.length ≤ c3) (hr4_2 : Kd.C (Kd.int .i64) w A4_2 l4_2.length l4_2) (hc4_2 : l4_2.length ≤ c4_2) (hr4_3 : Kd.C (Kd.int .i64) w A4_3 l4_3.length l4_3) (hc4_3 : l4_3.length ≤ c4_3) (hr4_6 : Kd.C (Kd.int .u64) w A4_6 l4_6.length l4_6) (hc4_6 : l4_6.length ≤ c4_6) (hr4_7 : Kd.C Kd.bool w A4_7 l4_7.length l4_7) (hc4_7 : l4_7.length ≤ c4_7) (h : thrumlaw10_QuantPresses.f k l0 a1 a2 l3 a4_0 a4_1 l4_2 l4_3 a4_4 a4_5 l4_6 l4_7 = some r) (hr_ : r = true) :
  Calls Try.prog 11 #[.slice A0 l0.length c0, .int .i64 a1, .int .u64 a2, .slice A3 l3.length c3, .agg #[.int .i64 a4_0, .int .i64 a4_1, .slice A4_2 l4_2.length c4_2, .slice A4_3 l4_3.length c4_3, .int .i64 a4_4, .int .i64 a4_5, .slice A4_6 l4_6.length c4_6, .slice A4_7 l4_7.length c4_7]] w fun e w' => e = .returned (.bool r) ∧ Below w.heap.size w w' := by
 have HR_ := ZM hr_
 clear hr_
 have hu30 := Try.underlying30
 have HR0 := ZM hr0
 have HC0 := ZM hc0
 clear hr0 hc0
 have HR3 := ZM hr3
 have HC3 := ZM hc3
 clear hr3 hc3
 have HR4_2 := ZM hr4_2
 have HC4_2 := ZM hc4_2
 clear hr4_2 hc4_2
 have HR4_3 := ZM hr4_3
 have HC4_3 := ZM hc4_3
 clear hr4_3 hc4_3
 have HR4_6 := ZM hr4_6
 have HC4_6 := ZM hc4_6
 clear hr4_6 hc4_6
 have HR4_7 := ZM hr4_7
 have HC4_7 := ZM hc4_7
 clear hr4_7 hc4_7
 have HB := ZM (Below.refl w.heap.size w)
 have H : ((thrumlaw10_live.f).bind fun t314 => (if t314 = true then ((thrumlaw10_few.f l0 l3).bind fun t315 => (if t315 = true then ((thrumref07_Big.f a4_0 a4_1 l4_2 l4_3 a4_4 a4_5 l4_6 l4_7).bind fun t316 => (thrumlaw10_QuantPresses.j0 k l0 a1 a2 l3 t314 t316 a4_0 a4_1 l4_2 l4_3 a4_4 a4_5 l4_6 l4_7)) else (thrumlaw10_QuantPresses.j0 k l0 a1 a2 l3 t314 true a4_0 a4_1 l4_2 l4_3 a4_4 a4_5 l4_6 l4_7))) else (some false))) = some r := h
 clear h
 replace H := Option.bind_eq_some_iff.mp H
 obtain ⟨t314, A60, H⟩ := H
 replace H : (if t314 = true then ((thrumlaw10_few.f l0 l3).bind fun t315 => (if t315 = true then ((thrumref07_Big.f a4_0 a4_1 l4_2 l4_3 a4_4 a4_5 l4_6 l4_7).bind fun t316 => (thrumlaw10_QuantPresses.j0 k l0 a1 a2 l3 t314 t316 a4_0 a4_1 l4_2 l4_3 a4_4 a4_5 l4_6 l4_7)) else (thrumlaw10_QuantPresses.j0 k l0 a1 a2 l3 t314 true a4_0 a4_1 l4_2 l4_3 a4_4 a4_5 l4_6 l4_7))) else (some false)) = some r := H
 have A6 := ZM A60
 clear A60
 by_cases c7 : t314 = true
 case neg =>
  replace c7 := Bool.eq_false_iff.mpr c7
  subst c7
  have H1 : (some false) = some r := by rw [if_neg (show ¬ (false = true) by decide)] at H; exact H
  exact absurd (Option.some.inj H1) Z59
 subst c7
 have H1 : ((thrumlaw10_few.f l0 l3).bind fun t315 => (if t315 = true then ((thrumref07_Big.f a4_0 a4_1 l4_2 l4_3 a4_4 a4_5 l4_6 l4_7).bind fun t316 => (thrumlaw10_QuantPresses.j0 k l0 a1 a2 l3 true t316 a4_0 a4_1 l4_2 l4_3 a4_4 a4_5 l4_6 l4_7)) else (thrumlaw10_QuantPresses.j0 k l0 a1 a2 l3 true true a4_0 a4_1 l4_2 l4_3 a4_4 a4_5 l4_6 l4_7))) = some r := by rw [if_pos rfl] at H; exact H
 clear H
 have H := H1
 clear H1
 have HC8 := ZM H
 clear H
 go_enter Try.func11, Try.ntmps11
 go_upto_region 4 with (first | ((with_reducible refine gate_dst (N := 9) rfl ?_); refine box_event ?hg (N := 9) ?hd (cs := #[.int .i64 a4_0, .int .i64 a4_1, .slice A4_2 l4_2.length c4_2, .slice A4_3 l4_3.length c4_3, .int .i64 a4_4, .int .i64 a4_5, .slice A4_6 l4_6.length c4_6, .slice A4_7 l4_7.length c4_7]) (t := 30) ?hr ?_; (case hd => rfl); (case hg => rfl); (case hr => exact Z12); intro gb313 hg w9 hbox hb; have BK313 := ZM (hbox); have GW313 := ZM ((by rw [hg]; exact (zzS Z3) : w.heap.size ≤ gb313)); have GE313 := ZM ((by rw [hg]; exact (zzS Z3) : w.heap.size ≤ gb313)); replace HB := ZM (zzT Z3 hb); clear hb hbox hg) | ((with_reducible refine gate_callee (f := 44) rfl ?_); refine goesL_ (some 25) rfl rfl Try.func44 (by kernel_rfl) rfl #[] rfl Z1 ?_; (with_reducible refine (thrumlaw10_live.calls  true _ A6.out).mono ?_); rintro e w10 ⟨rfl, hb⟩; refine ⟨_, rfl, ?_⟩; replace BK313 := ZM (blk_below (g := gb313) (o := .cells #[.int .i64 a4_0, .int .i64 a4_1, .slice A4_2 l4_2.length c4_2, .slice A4_3 l4_3.length c4_3, .int .i64 a4_4, .int .i64 a4_5, .slice A4_6 l4_6.length c4_6, .slice A4_7 l4_7.length c4_7] 30 (0, 0)) (Zk BK313) hb); replace HB := ZM (zzT Z14 hb); (try clear hb); (try clear hb2); (try clear hk); (try clear hi)))
 (try simp only [Act.put, Zt])
 go_cut [35] (fun v35 wc => ∃ (kq : Nat) (x35_7 : Bool), v35 = .bool x35_7 ∧ Aside0 (thrumlaw10_QuantPresses.j0 kq l0 a1 a2 l3 true x35_7 a4_0 a4_1 l4_2 l4_3 a4_4 a4_5 l4_6 l4_7 = some r) ∧ Aside0 (kq ≤ k) ∧ Aside0 (wc.heap[gb313]? = some (.cells #[.int .i64 a4_0, .int .i64 a4_1, (.slice A4_2 l4_2.length c4_2), (.slice A4_3 l4_3.length c4_3), .int .i64 a4_4, .int .i64 a4_5, (.slice A4_6 l4_6.length c4_6), (.slice A4_7 l4_7.length c4_7)] 30 (0, 0))) ∧ Aside0 (Below w.heap.size w wc))
 case first =>
  have H := HC8.out
  clear HC8
  replace H := Option.bind_eq_some_iff.mp H
  obtain ⟨t315, A110, H⟩ := H
  replace H : (if t315 = true then ((thrumref07_Big.f a4_0 a4_1 l4_2 l4_3 a4_4 a4_5 l4_6 l4_7).bind fun t316 => (thrumlaw10_QuantPresses.j0 k l0 a1 a2 l3 true t316 a4_0 a4_1 l4_2 l4_3 a4_4 a4_5 l4_6 l4_7)) else (thrumlaw10_QuantPresses.j0 k l0 a1 a2 l3 true true a4_0 a4_1 l4_2 l4_3 a4_4 a4_5 l4_6 l4_7)) = some r := H
  have A11 := ZM A110
  clear A110
  by_cases c12 : t315 = true
  case neg =>
   replace c12 := Bool.eq_false_iff.mpr c12
   subst c12
   have H1 : (thrumlaw10_QuantPresses.j0 k l0 a1 a2 l3 true true a4_0 a4_1 l4_2 l4_3 a4_4 a4_5 l4_6 l4_7) = some r := by rw [if_neg (show ¬ (false = true) by decide)] at H; exact H
   clear H
   have H := H1
   clear H1
   have H' := ZM H
   clear H
   go_wp2_with (first | ((with_reducible refine gate_callee (f := 45) rfl ?_); refine goesL_ (some 30) rfl rfl Try.func45 (by kernel_rfl) rfl #[.slice A0 l0.length c0, .slice A3 l3.length c3] rfl Z1 ?_; (with_reducible refine (thrumlaw10_few.calls _ _ l0 _ _ l3 false _ ?side1 ?side2 ?side3 ?side4 A11.out).mono ?_); (case side1 => exact Z17); (case side2 => exact HC0.out); (case side3 => exact Z20); (case side4 => exact HC3.out); rintro e w' ⟨rfl, ⟨nd, rfl⟩⟩; refine ⟨_, rfl, ?_⟩))
   go_meet
   case rel => exact ⟨_, (true), Z5, H', ⟨by first | omega | exact Nat.le_refl _⟩, ⟨by (with_reducible repeat (first | refine kkN ?_ _ | refine kkD ?_ | refine kkA ?_ _)); exact BK313.out⟩, ⟨by repeat (first | (with_reducible first | exact HB.out | apply zzA | apply zzN | apply zzD | refine below_set ?_ GE313.out) | exact HB.out)⟩⟩
  subst c12
  have H1 : ((thrumref07_Big.f a4_0 a4_1 l4_2 l4_3 a4_4 a4_5 l4_6 l4_7).bind fun t316 => (thrumlaw10_QuantPresses.j0 k l0 a1 a2 l3 true t316 a4_0 a4_1 l4_2 l4_3 a4_4 a4_5 l4_6 l4_7)) = some r := by rw [if_pos rfl] at H; exact H
  clear H
  have H := H1
  clear H1
  replace H := Option.bind_eq_some_iff.mp H
  obtain ⟨t316, A130, H⟩ := H
  replace H : (thrumlaw10_QuantPresses.j0 k l0 a1 a2 l3 true t316 a4_0 a4_1 l4_2 l4_3 a4_4 a4_5 l4_6 l4_7) = some r := H
  have A13 := ZM A130
  clear A130
  have H' := ZM H
  clear H
  go_wp2_with (first | ((with_reducible refine gate_callee (f := 45) rfl ?_); refine goesL_ (some 30) rfl rfl Try.func45 (by kernel_rfl) rfl #[.slice A0 l0.length c0, .slice A3 l3.length c3] rfl Z1 ?_; (with_reducible refine (thrumlaw10_few.calls _ _ l0 _ _ l3 true _ ?side1 ?side2 ?side3 ?side4 A11.out).mono ?_); (case side1 => exact Z17); (case side2 => exact HC0.out); (case side3 => exact Z20); (case side4 => exact HC3.out); rintro e w' ⟨rfl, ⟨nd, rfl⟩⟩; refine ⟨_, rfl, ?_⟩; obtain ⟨hcz14_0, hcz14_1, hcz14_2, hcz14_3, hcz14_4, hcz14_5, hcz14_6, hcz14_7, hfz14_0, hfz14_1, hfz14_2, hfz14_3, hfz14_4, hfz14_5, hfz14_6, hfz14_7⟩ := Y8f BK313) | (go_at_call 17; (with_reducible refine (thrumref07_Big.calls a4_0 a4_1 _ _ l4_2 _ _ l4_3 a4_4 a4_5 _ _ l4_6 _ _ l4_7 t316 _ ?side1 ?side2 ?side3 ?side4 ?side5 ?side6 ?side7 ?side8 A13.out).mono ?_); (case side1 => repeat (first | exact (Kd.C_below HR4_2.out Z14) | (with_reducible refine ccA ?_ _) | (with_reducible refine ccN ?_ _) | (with_reducible refine ccD ?_))); (case side2 => exact HC4_2.out); (case side3 => repeat (first | exact (Kd.C_below HR4_3.out Z14) | (with_reducible refine ccA ?_ _) | (with_reducible refine ccN ?_ _) | (with_reducible refine ccD ?_))); (case side4 => exact HC4_3.out); (case side5 => repeat (first | exact (Kd.C_below HR4_6.out Z14) | (with_reducible refine ccA ?_ _) | (with_reducible refine ccN ?_ _) | (with_reducible refine ccD ?_))); (case side6 => exact HC4_6.out); (case side7 => repeat (first | exact (Kd.C_below HR4_7.out Z14) | (with_reducible refine ccA ?_ _) | (with_reducible refine ccN ?_ _) | (with_reducible refine ccD ?_))); (case side8 => exact HC4_7.out); rintro e w15 ⟨rfl, hb⟩; replace BK313 := ZM (blk_below (g := gb313) (o := .cells #[.int .i64 a4_0, .int .i64 a4_1, .slice A4_2 l4_2.length c4_2, .slice A4_3 l4_3.length c4_3, .int .i64 a4_4, .int .i64 a4_5, .slice A4_6 l4_6.length c4_6, .slice A4_7 l4_7.length c4_7] 30 (0, 0)) (Zk BK313) hb); replace HB := ZM (zzT Z14 hb); (try clear hb); (try clear hb2); (try clear hk); (try clear hi)))
  go_meet
  case rel => exact ⟨_, (t316), Z5, H', ⟨by first | omega | exact Nat.le_refl _⟩, ⟨by (with_reducible repeat (first | refine kkN ?_ _ | refine kkD ?_ | refine kkA ?_ _)); exact BK313.out⟩, ⟨by repeat (first | (with_reducible first | exact HB.out | apply zzA | apply zzN | apply zzD | refine below_set ?_ GE313.out) | exact HB.out)⟩⟩
 clear HC8
 try clear c3
 try clear c7
 obtain ⟨kq, x35_7, rfl, HA, HJ7, BK313, HB⟩ := hcut
 cases kq with
 | zero => exact absurd HA.out (by simp [thrumlaw10_QuantPresses.j0])
 | succ kj7 =>
  have H := HA.out
  clear HA
  simp only [thrumlaw10_QuantPresses.j0] at H
  by_cases c16 : x35_7 = true
  ·
   subst c16
   have H1 : (some true) = some r := by rw [if_pos rfl] at H; exact H
   clear H
   have H := H1
   clear H1
   obtain rfl := Option.some.inj H
   go_wp2
   go_ret
   exact ⟨by first | rfl | (simp [errW_none, errW_some] <;> rfl) | (simp [*, errW_none, errW_some] <;> rfl), by repeat (first | (with_reducible first | exact HB.out | apply zzA | apply zzN | apply zzD | refine below_set ?_ GE313.out) | exact HB.out)⟩
  replace c16 := Bool.eq_false_iff.mpr c16
  subst c16
  have H1 : (if ([] : List Int).length + l0.length < 17592186044416 then ((quant_Press.f kj7 l0 a1 a2 l3).bind fun bt320 => ((thrumref10_Press.f kj7 l0 a1 a2 l3).bind fun bt338 => ((quant_Loosen.f kj7 a4_0 a4_1 l4_2 l4_3 a4_4 a4_5 l4_6 l4_7).bind fun bt356 => ((thrumref10_Loosen.f kj7 a4_0 a4_1 l4_2 l4_3 a4_4 a4_5 l4_6 l4_7).bind fun bt360 => ((quant_Loosen.f kj7 bt320.1 bt320.2.1 bt320.2.2.1 bt320.2.2.2.1 bt320.2.2.2.2.1 bt320.2.2.2.2.2.1 bt320.2.2.2.2.2.2.1 bt320.2.2.2.2.2.2.2.1).bind fun bt364 => ((thrumref10_Loosen.f kj7 bt338.1 bt338.2.1 bt338.2.2.1 bt338.2.2.2.1 bt338.2.2.2.2.1 bt338.2.2.2.2.2.1 bt338.2.2.2.2.2.2.1 bt338.2.2.2.2.2.2.2.1).bind fun bt368 => (if true = true then ((thrumref07_SameSent.f bt320.1 bt320.2.1 bt320.2.2.1 bt320.2.2.2.1 bt320.2.2.2.2.1 bt320.2.2.2.2.2.1 bt320.2.2.2.2.2.2.1 bt320.2.2.2.2.2.2.2.1 bt338.1 bt338.2.1 bt338.2.2.1 bt338.2.2.2.1 bt338.2.2.2.2.1 bt338.2.2.2.2.2.1 bt338.2.2.2.2.2.2.1 bt338.2.2.2.2.2.2.2.1).bind fun t372 => (if t372 = true then (if bt320.2.2.2.2.2.2.2.2 = bt338.2.2.2.2.2.2.2.2 then ((thrumref02_Same.f bt356.1 bt360.1).bind fun t373 => (if t373 = true then (if bt356.2 = bt360.2 then ((thrumref02_Same.f bt364.1 bt368.1).bind fun t374 => (if t374 = true then (if bt364.2 = bt368.2 then ((quant_Near.f l0 a4_0 a4_1 l4_2 l4_3 a4_4 a4_5 l4_6 l4_7).bind fun t375 => ((thrumref10_Near.f kj7 l0 a4_0 a4_1 l4_2 l4_3 a4_4 a4_5 l4_6 l4_7).bind fun t376 => (if (t375 == t376) = true then ((quant_Near.f l0 bt320.1 bt320.2.1 bt320.2.2.1 bt320.2.2.2.1 bt320.2.2.2.2.1 bt320.2.2.2.2.2.1 bt320.2.2.2.2.2.2.1 bt320.2.2.2.2.2.2.2.1).bind fun t377 => ((thrumref10_Near.f kj7 l0 bt338.1 bt338.2.1 bt338.2.2.1 bt338.2.2.2.1 bt338.2.2.2.2.1 bt338.2.2.2.2.2.1 bt338.2.2.2.2.2.2.1 bt338.2.2.2.2.2.2.2.1).bind fun t378 => (if (t377 == t378) = true then ((thrumref02_Same.f l0 (([] : List Int) ++ l0)).bind fun t379 => (some t379)) else (some false)))) else (some false)))) else (some false)) else (some false))) else (some false)) else (some false))) else (some false)) else (some false))) else (some false)))))))) else (none)) = some r := by rw [if_neg (show ¬ (false = true) by decide)] at H; exact H
  clear H
  have H := H1
  clear H1
  by_cases c17 : ([] : List Int).length + l0.length < 17592186044416
  case neg =>
   rw [if_neg c17] at H
   exact absurd H (by simp)
  rw [if_pos c17] at H
  have LMc17 := ZM c17
  clear c17
  obtain ⟨y317, hy317⟩ : ∃ y_ : List Int, y_ = (([] : List Int) ++ l0) := ⟨_, rfl⟩
  replace H : ((quant_Press.f kj7 l0 a1 a2 l3).bind fun bt320 => ((thrumref10_Press.f kj7 l0 a1 a2 l3).bind fun bt338 => ((quant_Loosen.f kj7 a4_0 a4_1 l4_2 l4_3 a4_4 a4_5 l4_6 l4_7).bind fun bt356 => ((thrumref10_Loosen.f kj7 a4_0 a4_1 l4_2 l4_3 a4_4 a4_5 l4_6 l4_7).bind fun bt360 => ((quant_Loosen.f kj7 bt320.1 bt320.2.1 bt320.2.2.1 bt320.2.2.2.1 bt320.2.2.2.2.1 bt320.2.2.2.2.2.1 bt320.2.2.2.2.2.2.1 bt320.2.2.2.2.2.2.2.1).bind fun bt364 => ((thrumref10_Loosen.f kj7 bt338.1 bt338.2.1 bt338.2.2.1 bt338.2.2.2.1 bt338.2.2.2.2.1 bt338.2.2.2.2.2.1 bt338.2.2.2.2.2.2.1 bt338.2.2.2.2.2.2.2.1).bind fun bt368 => (if true = true then ((thrumref07_SameSent.f bt320.1 bt320.2.1 bt320.2.2.1 bt320.2.2.2.1 bt320.2.2.2.2.1 bt320.2.2.2.2.2.1 bt320.2.2.2.2.2.2.1 bt320.2.2.2.2.2.2.2.1 bt338.1 bt338.2.1 bt338.2.2.1 bt338.2.2.2.1 bt338.2.2.2.2.1 bt338.2.2.2.2.2.1 bt338.2.2.2.2.2.2.1 bt338.2.2.2.2.2.2.2.1).bind fun t372 => (if t372 = true then (if bt320.2.2.2.2.2.2.2.2 = bt338.2.2.2.2.2.2.2.2 then ((thrumref02_Same.f bt356.1 bt360.1).bind fun t373 => (if t373 = true then (if bt356.2 = bt360.2 then ((thrumref02_Same.f bt364.1 bt368.1).bind fun t374 => (if t374 = true then (if bt364.2 = bt368.2 then ((quant_Near.f l0 a4_0 a4_1 l4_2 l4_3 a4_4 a4_5 l4_6 l4_7).bind fun t375 => ((thrumref10_Near.f kj7 l0 a4_0 a4_1 l4_2 l4_3 a4_4 a4_5 l4_6 l4_7).bind fun t376 => (if (t375 == t376) = true then ((quant_Near.f l0 bt320.1 bt320.2.1 bt320.2.2.1 bt320.2.2.2.1 bt320.2.2.2.2.1 bt320.2.2.2.2.2.1 bt320.2.2.2.2.2.2.1 bt320.2.2.2.2.2.2.2.1).bind fun t377 => ((thrumref10_Near.f kj7 l0 bt338.1 bt338.2.1 bt338.2.2.1 bt338.2.2.2.1 bt338.2.2.2.2.1 bt338.2.2.2.2.2.1 bt338.2.2.2.2.2.2.1 bt338.2.2.2.2.2.2.2.1).bind fun t378 => (if (t377 == t378) = true then ((thrumref02_Same.f l0 y317).bind fun t379 => (some t379)) else (some false)))) else (some false)))) else (some false)) else (some false))) else (some false)) else (some false))) else (some false)) else (some false))) else (some false)))))))) = some r := by first | (rw [hy317]; with_reducible exact H) | (have H2_ := (Option.bind_some _ _).symm.trans H; rw [hy317]; with_reducible exact H2_) | (have H2_ := (Option.bind_some _ _).symm.trans H; with_reducible exact H2_) | with_reducible exact H | (rw [hy317]; exact H) | exact H
  have Ny317 := ZM hy317
  clear hy317
  replace H := Option.bind_eq_some_iff.mp H
  obtain ⟨⟨t320, t321, t322, t325, t328, t329, t330, t333, t336⟩, A180, H⟩ := H
  replace H : ((thrumref10_Press.f kj7 l0 a1 a2 l3).bind fun bt338 => ((quant_Loosen.f kj7 a4_0 a4_1 l4_2 l4_3 a4_4 a4_5 l4_6 l4_7).bind fun bt356 => ((thrumref10_Loosen.f kj7 a4_0 a4_1 l4_2 l4_3 a4_4 a4_5 l4_6 l4_7).bind fun bt360 => ((quant_Loosen.f kj7 t320 t321 t322 t325 t328 t329 t330 t333).bind fun bt364 => ((thrumref10_Loosen.f kj7 bt338.1 bt338.2.1 bt338.2.2.1 bt338.2.2.2.1 bt338.2.2.2.2.1 bt338.2.2.2.2.2.1 bt338.2.2.2.2.2.2.1 bt338.2.2.2.2.2.2.2.1).bind fun bt368 => (if true = true then ((thrumref07_SameSent.f t320 t321 t322 t325 t328 t329 t330 t333 bt338.1 bt338.2.1 bt338.2.2.1 bt338.2.2.2.1 bt338.2.2.2.2.1 bt338.2.2.2.2.2.1 bt338.2.2.2.2.2.2.1 bt338.2.2.2.2.2.2.2.1).bind fun t372 => (if t372 = true then (if t336 = bt338.2.2.2.2.2.2.2.2 then ((thrumref02_Same.f bt356.1 bt360.1).bind fun t373 => (if t373 = true then (if bt356.2 = bt360.2 then ((thrumref02_Same.f bt364.1 bt368.1).bind fun t374 => (if t374 = true then (if bt364.2 = bt368.2 then ((quant_Near.f l0 a4_0 a4_1 l4_2 l4_3 a4_4 a4_5 l4_6 l4_7).bind fun t375 => ((thrumref10_Near.f kj7 l0 a4_0 a4_1 l4_2 l4_3 a4_4 a4_5 l4_6 l4_7).bind fun t376 => (if (t375 == t376) = true then ((quant_Near.f l0 t320 t321 t322 t325 t328 t329 t330 t333).bind fun t377 => ((thrumref10_Near.f kj7 l0 bt338.1 bt338.2.1 bt338.2.2.1 bt338.2.2.2.1 bt338.2.2.2.2.1 bt338.2.2.2.2.2.1 bt338.2.2.2.2.2.2.1 bt338.2.2.2.2.2.2.2.1).bind fun t378 => (if (t377 == t378) = true then ((thrumref02_Same.f l0 y317).bind fun t379 => (some t379)) else (some false)))) else (some false)))) else (some false)) else (some false))) else (some false)) else (some false))) else (some false)) else (some false))) else (some false))))))) = some r := H
  have A18 := ZM A180
  clear A180
  replace H := Option.bind_eq_some_iff.mp H
  obtain ⟨⟨t338, t339, t340, t343, t346, t347, t348, t351, t354⟩, A190, H⟩ := H
  replace H : ((quant_Loosen.f kj7 a4_0 a4_1 l4_2 l4_3 a4_4 a4_5 l4_6 l4_7).bind fun bt356 => ((thrumref10_Loosen.f kj7 a4_0 a4_1 l4_2 l4_3 a4_4 a4_5 l4_6 l4_7).bind fun bt360 => ((quant_Loosen.f kj7 t320 t321 t322 t325 t328 t329 t330 t333).bind fun bt364 => ((thrumref10_Loosen.f kj7 t338 t339 t340 t343 t346 t347 t348 t351).bind fun bt368 => (if true = true then ((thrumref07_SameSent.f t320 t321 t322 t325 t328 t329 t330 t333 t338 t339 t340 t343 t346 t347 t348 t351).bind fun t372 => (if t372 = true then (if t336 = t354 then ((thrumref02_Same.f bt356.1 bt360.1).bind fun t373 => (if t373 = true then (if bt356.2 = bt360.2 then ((thrumref02_Same.f bt364.1 bt368.1).bind fun t374 => (if t374 = true then (if bt364.2 = bt368.2 then ((quant_Near.f l0 a4_0 a4_1 l4_2 l4_3 a4_4 a4_5 l4_6 l4_7).bind fun t375 => ((thrumref10_Near.f kj7 l0 a4_0 a4_1 l4_2 l4_3 a4_4 a4_5 l4_6 l4_7).bind fun t376 => (if (t375 == t376) = true then ((quant_Near.f l0 t320 t321 t322 t325 t328 t329 t330 t333).bind fun t377 => ((thrumref10_Near.f kj7 l0 t338 t339 t340 t343 t346 t347 t348 t351).bind fun t378 => (if (t377 == t378) = true then ((thrumref02_Same.f l0 y317).bind fun t379 => (some t379)) else (some false)))) else (some false)))) else (some false)) else (some false))) else (some false)) else (some false))) else (some false)) else (some false))) else (some false)))))) = some r := H
  have A19 := ZM A190
  clear A190
  replace H := Option.bind_eq_some_iff.mp H
  obtain ⟨⟨t356, t359⟩, A200, H⟩ := H
  replace H : ((thrumref10_Loosen.f kj7 a4_0 a4_1 l4_2 l4_3 a4_4 a4_5 l4_6 l4_7).bind fun bt360 => ((quant_Loosen.f kj7 t320 t321 t322 t325 t328 t329 t330 t333).bind fun bt364 => ((thrumref10_Loosen.f kj7 t338 t339 t340 t343 t346 t347 t348 t351).bind fun bt368 => (if true = true then ((thrumref07_SameSent.f t320 t321 t322 t325 t328 t329 t330 t333 t338 t339 t340 t343 t346 t347 t348 t351).bind fun t372 => (if t372 = true then (if t336 = t354 then ((thrumref02_Same.f t356 bt360.1).bind fun t373 => (if t373 = true then (if t359 = bt360.2 then ((thrumref02_Same.f bt364.1 bt368.1).bind fun t374 => (if t374 = true then (if bt364.2 = bt368.2 then ((quant_Near.f l0 a4_0 a4_1 l4_2 l4_3 a4_4 a4_5 l4_6 l4_7).bind fun t375 => ((thrumref10_Near.f kj7 l0 a4_0 a4_1 l4_2 l4_3 a4_4 a4_5 l4_6 l4_7).bind fun t376 => (if (t375 == t376) = true then ((quant_Near.f l0 t320 t321 t322 t325 t328 t329 t330 t333).bind fun t377 => ((thrumref10_Near.f kj7 l0 t338 t339 t340 t343 t346 t347 t348 t351).bind fun t378 => (if (t377 == t378) = true then ((thrumref02_Same.f l0 y317).bind fun t379 => (some t379)) else (some false)))) else (some false)))) else (some false)) else (some false))) else (some false)) else (some false))) else (some false)) else (some false))) else (some false))))) = some r := H
  have A20 := ZM A200
  clear A200
  replace H := Option.bind_eq_some_iff.mp H
  obtain ⟨⟨t360, t363⟩, A210, H⟩ := H
  replace H : ((quant_Loosen.f kj7 t320 t321 t322 t325 t328 t329 t330 t333).bind fun bt364 => ((thrumref10_Loosen.f kj7 t338 t339 t340 t343 t346 t347 t348 t351).bind fun bt368 => (if true = true then ((thrumref07_SameSent.f t320 t321 t322 t325 t328 t329 t330 t333 t338 t339 t340 t343 t346 t347 t348 t351).bind fun t372 => (if t372 = true then (if t336 = t354 then ((thrumref02_Same.f t356 t360).bind fun t373 => (if t373 = true then (if t359 = t363 then ((thrumref02_Same.f bt364.1 bt368.1).bind fun t374 => (if t374 = true then (if bt364.2 = bt368.2 then ((quant_Near.f l0 a4_0 a4_1 l4_2 l4_3 a4_4 a4_5 l4_6 l4_7).bind fun t375 => ((thrumref10_Near.f kj7 l0 a4_0 a4_1 l4_2 l4_3 a4_4 a4_5 l4_6 l4_7).bind fun t376 => (if (t375 == t376) = true then ((quant_Near.f l0 t320 t321 t322 t325 t328 t329 t330 t333).bind fun t377 => ((thrumref10_Near.f kj7 l0 t338 t339 t340 t343 t346 t347 t348 t351).bind fun t378 => (if (t377 == t378) = true then ((thrumref02_Same.f l0 y317).bind fun t379 => (some t379)) else (some false)))) else (some false)))) else (some false)) else (some false))) else (some false)) else (some false))) else (some false)) else (some false))) else (some false)))) = some r := H
  have A21 := ZM A210
  clear A210
  replace H := Option.bind_eq_some_iff.mp H
  obtain ⟨⟨t364, t367⟩, A220, H⟩ := H
  replace H : ((thrumref10_Loosen.f kj7 t338 t339 t340 t343 t346 t347 t348 t351).bind fun bt368 => (if true = true then ((thrumref07_SameSent.f t320 t321 t322 t325 t328 t329 t330 t333 t338 t339 t340 t343 t346 t347 t348 t351).bind fun t372 => (if t372 = true then (if t336 = t354 then ((thrumref02_Same.f t356 t360).bind fun t373 => (if t373 = true then (if t359 = t363 then ((thrumref02_Same.f t364 bt368.1).bind fun t374 => (if t374 = true then (if t367 = bt368.2 then ((quant_Near.f l0 a4_0 a4_1 l4_2 l4_3 a4_4 a4_5 l4_6 l4_7).bind fun t375 => ((thrumref10_Near.f kj7 l0 a4_0 a4_1 l4_2 l4_3 a4_4 a4_5 l4_6 l4_7).bind fun t376 => (if (t375 == t376) = true then ((quant_Near.f l0 t320 t321 t322 t325 t328 t329 t330 t333).bind fun t377 => ((thrumref10_Near.f kj7 l0 t338 t339 t340 t343 t346 t347 t348 t351).bind fun t378 => (if (t377 == t378) = true then ((thrumref02_Same.f l0 y317).bind fun t379 => (some t379)) else (some false)))) else (some false)))) else (some false)) else (some false))) else (some false)) else (some false))) else (some false)) else (some false))) else (some false))) = some r := H
  have A22 := ZM A220
  clear A220
  replace H := Option.bind_eq_some_iff.mp H
  obtain ⟨⟨t368, t371⟩, A230, H⟩ := H
  replace H : (if true = true then ((thrumref07_SameSent.f t320 t321 t322 t325 t328 t329 t330 t333 t338 t339 t340 t343 t346 t347 t348 t351).bind fun t372 => (if t372 = true then (if t336 = t354 then ((thrumref02_Same.f t356 t360).bind fun t373 => (if t373 = true then (if t359 = t363 then ((thrumref02_Same.f t364 t368).bind fun t374 => (if t374 = true then (if t367 = t371 then ((quant_Near.f l0 a4_0 a4_1 l4_2 l4_3 a4_4 a4_5 l4_6 l4_7).bind fun t375 => ((thrumref10_Near.f kj7 l0 a4_0 a4_1 l4_2 l4_3 a4_4 a4_5 l4_6 l4_7).bind fun t376 => (if (t375 == t376) = true then ((quant_Near.f l0 t320 t321 t322 t325 t328 t329 t330 t333).bind fun t377 => ((thrumref10_Near.f kj7 l0 t338 t339 t340 t343 t346 t347 t348 t351).bind fun t378 => (if (t377 == t378) = true then ((thrumref02_Same.f l0 y317).bind fun t379 => (some t379)) else (some false)))) else (some false)))) else (some false)) else (some false))) else (some false)) else (some false))) else (some false)) else (some false))) else (some false)) = some r := H
  have A23 := ZM A230
  clear A230
  first | rw [if_pos rfl] at H | rw [if_pos trivial] at H
  replace H := Option.bind_eq_some_iff.mp H
  obtain ⟨t372, A240, H⟩ := H
  replace H : (if t372 = true then (if t336 = t354 then ((thrumref02_Same.f t356 t360).bind fun t373 => (if t373 = true then (if t359 = t363 then ((thrumref02_Same.f t364 t368).bind fun t374 => (if t374 = true then (if t367 = t371 then ((quant_Near.f l0 a4_0 a4_1 l4_2 l4_3 a4_4 a4_5 l4_6 l4_7).bind fun t375 => ((thrumref10_Near.f kj7 l0 a4_0 a4_1 l4_2 l4_3 a4_4 a4_5 l4_6 l4_7).bind fun t376 => (if (t375 == t376) = true then ((quant_Near.f l0 t320 t321 t322 t325 t328 t329 t330 t333).bind fun t377 => ((thrumref10_Near.f kj7 l0 t338 t339 t340 t343 t346 t347 t348 t351).bind fun t378 => (if (t377 == t378) = true then ((thrumref02_Same.f l0 y317).bind fun t379 => (some t379)) else (some false)))) else (some false)))) else (some false)) else (some false))) else (some false)) else (some false))) else (some false)) else (some false)) = some r := H
  have A24 := ZM A240
  clear A240
  by_cases c25 : t372 = true
  case neg =>
   replace c25 := Bool.eq_false_iff.mpr c25
   subst c25
   have H1 : (some false) = some r := by rw [if_neg (show ¬ (false = true) by decide)] at H; exact H
   exact absurd (Option.some.inj H1) Z59
  subst c25
  have H1 : (if t336 = t354 then ((thrumref02_Same.f t356 t360).bind fun t373 => (if t373 = true then (if t359 = t363 then ((thrumref02_Same.f t364 t368).bind fun t374 => (if t374 = true then (if t367 = t371 then ((quant_Near.f l0 a4_0 a4_1 l4_2 l4_3 a4_4 a4_5 l4_6 l4_7).bind fun t375 => ((thrumref10_Near.f kj7 l0 a4_0 a4_1 l4_2 l4_3 a4_4 a4_5 l4_6 l4_7).bind fun t376 => (if (t375 == t376) = true then ((quant_Near.f l0 t320 t321 t322 t325 t328 t329 t330 t333).bind fun t377 => ((thrumref10_Near.f kj7 l0 t338 t339 t340 t343 t346 t347 t348 t351).bind fun t378 => (if (t377 == t378) = true then ((thrumref02_Same.f l0 y317).bind fun t379 => (some t379)) else (some false)))) else (some false)))) else (some false)) else (some false))) else (some false)) else (some false))) else (some false)) = some r := by rw [if_pos rfl] at H; exact H
  clear H
  have H := H1
  clear H1
  by_cases c26 : t336 = t354
  case neg =>
   rw [if_neg c26] at H
   exact absurd (Option.some.inj H) Z59
  rw [if_pos c26] at H
  have c26b0 : (t336 == t354) = true := beq_iff_eq.mpr c26
  have c26b1 : (t336 != t354) = false := bne_eq_false_iff_eq.mpr c26
  clear c26
  replace H := Option.bind_eq_some_iff.mp H
  obtain ⟨t373, A270, H⟩ := H
  replace H : (if t373 = true then (if t359 = t363 then ((thrumref02_Same.f t364 t368).bind fun t374 => (if t374 = true then (if t367 = t371 then ((quant_Near.f l0 a4_0 a4_1 l4_2 l4_3 a4_4 a4_5 l4_6 l4_7).bind fun t375 => ((thrumref10_Near.f kj7 l0 a4_0 a4_1 l4_2 l4_3 a4_4 a4_5 l4_6 l4_7).bind fun t376 => (if (t375 == t376) = true then ((quant_Near.f l0 t320 t321 t322 t325 t328 t329 t330 t333).bind fun t377 => ((thrumref10_Near.f kj7 l0 t338 t339 t340 t343 t346 t347 t348 t351).bind fun t378 => (if (t377 == t378) = true then ((thrumref02_Same.f l0 y317).bind fun t379 => (some t379)) else (some false)))) else (some false)))) else (some false)) else (some false))) else (some false)) else (some false)) = some r := H
  have A27 := ZM A270
  clear A270
  by_cases c28 : t373 = true
  case neg =>
   replace c28 := Bool.eq_false_iff.mpr c28
   subst c28
   have H1 : (some false) = some r := by rw [if_neg (show ¬ (false = true) by decide)] at H; exact H
   exact absurd (Option.some.inj H1) Z59
  subst c28
  have H1 : (if t359 = t363 then ((thrumref02_Same.f t364 t368).bind fun t374 => (if t374 = true then (if t367 = t371 then ((quant_Near.f l0 a4_0 a4_1 l4_2 l4_3 a4_4 a4_5 l4_6 l4_7).bind fun t375 => ((thrumref10_Near.f kj7 l0 a4_0 a4_1 l4_2 l4_3 a4_4 a4_5 l4_6 l4_7).bind fun t376 => (if (t375 == t376) = true then ((quant_Near.f l0 t320 t321 t322 t325 t328 t329 t330 t333).bind fun t377 => ((thrumref10_Near.f kj7 l0 t338 t339 t340 t343 t346 t347 t348 t351).bind fun t378 => (if (t377 == t378) = true then ((thrumref02_Same.f l0 y317).bind fun t379 => (some t379)) else (some false)))) else (some false)))) else (some false)) else (some false))) else (some false)) = some r := by rw [if_pos rfl] at H; exact H
  clear H
  have H := H1
  clear H1
  by_cases c29 : t359 = t363
  case neg =>
   rw [if_neg c29] at H
   exact absurd (Option.some.inj H) Z59
  rw [if_pos c29] at H
  have c29b0 : (t359 == t363) = true := beq_iff_eq.mpr c29
  have c29b1 : (t359 != t363) = false := bne_eq_false_iff_eq.mpr c29
  clear c29
  replace H := Option.bind_eq_some_iff.mp H
  obtain ⟨t374, A300, H⟩ := H
  replace H : (if t374 = true then (if t367 = t371 then ((quant_Near.f l0 a4_0 a4_1 l4_2 l4_3 a4_4 a4_5 l4_6 l4_7).bind fun t375 => ((thrumref10_Near.f kj7 l0 a4_0 a4_1 l4_2 l4_3 a4_4 a4_5 l4_6 l4_7).bind fun t376 => (if (t375 == t376) = true then ((quant_Near.f l0 t320 t321 t322 t325 t328 t329 t330 t333).bind fun t377 => ((thrumref10_Near.f kj7 l0 t338 t339 t340 t343 t346 t347 t348 t351).bind fun t378 => (if (t377 == t378) = true then ((thrumref02_Same.f l0 y317).bind fun t379 => (some t379)) else (some false)))) else (some false)))) else (some false)) else (some false)) = some r := H
  have A30 := ZM A300
  clear A300
  by_cases c31 : t374 = true
  case neg =>
   replace c31 := Bool.eq_false_iff.mpr c31
   subst c31
   have H1 : (some false) = some r := by rw [if_neg (show ¬ (false = true) by decide)] at H; exact H
   exact absurd (Option.some.inj H1) Z59
  subst c31
  have H1 : (if t367 = t371 then ((quant_Near.f l0 a4_0 a4_1 l4_2 l4_3 a4_4 a4_5 l4_6 l4_7).bind fun t375 => ((thrumref10_Near.f kj7 l0 a4_0 a4_1 l4_2 l4_3 a4_4 a4_5 l4_6 l4_7).bind fun t376 => (if (t375 == t376) = true then ((quant_Near.f l0 t320 t321 t322 t325 t328 t329 t330 t333).bind fun t377 => ((thrumref10_Near.f kj7 l0 t338 t339 t340 t343 t346 t347 t348 t351).bind fun t378 => (if (t377 == t378) = true then ((thrumref02_Same.f l0 y317).bind fun t379 => (some t379)) else (some false)))) else (some false)))) else (some false)) = some r := by rw [if_pos rfl] at H; exact H
  clear H
  have H := H1
  clear H1
  by_cases c32 : t367 = t371
  case neg =>
   rw [if_neg c32] at H
   exact absurd (Option.some.inj H) Z59
  rw [if_pos c32] at H
  have c32b0 : (t367 == t371) = true := beq_iff_eq.mpr c32
  have c32b1 : (t367 != t371) = false := bne_eq_false_iff_eq.mpr c32
  clear c32
  replace H := Option.bind_eq_some_iff.mp H
  obtain ⟨t375, A330, H⟩ := H
  replace H : ((thrumref10_Near.f kj7 l0 a4_0 a4_1 l4_2 l4_3 a4_4 a4_5 l4_6 l4_7).bind fun t376 => (if (t375 == t376) = true then ((quant_Near.f l0 t320 t321 t322 t325 t328 t329 t330 t333).bind fun t377 => ((thrumref10_Near.f kj7 l0 t338 t339 t340 t343 t346 t347 t348 t351).bind fun t378 => (if (t377 == t378) = true then ((thrumref02_Same.f l0 y317).bind fun t379 => (some t379)) else (some false)))) else (some false))) = some r := H
  have A33 := ZM A330
  clear A330
  replace H := Option.bind_eq_some_iff.mp H
  obtain ⟨t376, A340, H⟩ := H
  replace H : (if (t375 == t376) = true then ((quant_Near.f l0 t320 t321 t322 t325 t328 t329 t330 t333).bind fun t377 => ((thrumref10_Near.f kj7 l0 t338 t339 t340 t343 t346 t347 t348 t351).bind fun t378 => (if (t377 == t378) = true then ((thrumref02_Same.f l0 y317).bind fun t379 => (some t379)) else (some false)))) else (some false)) = some r := H
  have A34 := ZM A340
  clear A340
  by_cases c35 : (t375 == t376) = true
  case neg =>
   rw [if_neg c35] at H
   exact absurd (Option.some.inj H) Z59
  rw [if_pos c35] at H
  have c35b0 : (t375 == t376) = true := c35
  (try (have c35b1 : decide (t375 = t376) = true := by simpa using c35))
  (try (have c35b2 : (t375 == t376) = true := by simpa using c35))
  clear c35
  replace H := Option.bind_eq_some_iff.mp H
  obtain ⟨t377, A360, H⟩ := H
  replace H : ((thrumref10_Near.f kj7 l0 t338 t339 t340 t343 t346 t347 t348 t351).bind fun t378 => (if (t377 == t378) = true then ((thrumref02_Same.f l0 y317).bind fun t379 => (some t379)) else (some false))) = some r := H
  have A36 := ZM A360
  clear A360
  replace H := Option.bind_eq_some_iff.mp H
  obtain ⟨t378, A370, H⟩ := H
  replace H : (if (t377 == t378) = true then ((thrumref02_Same.f l0 y317).bind fun t379 => (some t379)) else (some false)) = some r := H
  have A37 := ZM A370
  clear A370
  by_cases c38 : (t377 == t378) = true
  case neg =>
   rw [if_neg c38] at H
   exact absurd (Option.some.inj H) Z59
  rw [if_pos c38] at H
  have c38b0 : (t377 == t378) = true := c38
  (try (have c38b1 : decide (t377 = t378) = true := by simpa using c38))
  (try (have c38b2 : (t377 == t378) = true := by simpa using c38))
  clear c38
  replace H := Option.bind_eq_some_iff.mp H
  obtain ⟨t379, A390, H⟩ := H
  replace H : (some t379) = some r := H
  have A39 := ZM A390
  clear A390
  obtain rfl := Option.some.inj H
  try go_wp2_with (first | ((with_reducible refine gate_builtin (b := .append) (xs := #[.const (.slice none 0 0), .tmp 37]) rfl ?_); at_builtin; refine Kd.R_append_rows (Kd.int .i64) (w0 := w) w.heap.size rfl (.const (.slice none 0 0)) (.tmp 37) 27 2 (.int .i64 0) 8 rfl Try.underlying27 info2 rfl (by decide) (by omega) (.slice none 0 0) ([] : List Int) l0 _ _ _ (fun _ => True) (fun _ => False) rfl rfl ?aO ?aR (fun _ _ h => h) (fun _ h => h.elim) ?aF ?aB ?aS ?aL ?_; (case aR => exact Z17); (case aB => exact Z14); (case aF => exact (fun _ _ => trivial)); (case aO => exact ((Kd.R_nil _ _ _ _ (fun _ => True)))); (case aS => exact (zzS Z14)); (case aL => have := LMc17.out; omega); intro v318 w40 ho hb hg hat; rw [← Ny317.out] at ho; replace BK313 := ZM (blk_grown (g := gb313) (o := .cells #[.int .i64 a4_0, .int .i64 a4_1, .slice A4_2 l4_2.length c4_2, .slice A4_3 l4_3.length c4_3, .int .i64 a4_4, .int .i64 a4_5, .slice A4_6 l4_6.length c4_6, .slice A4_7 l4_7.length c4_7] 30 (0, 0)) (Zk BK313) hg (by simp [Value.ownBlock])); have HO319 := ZM (ho); replace HB := ZM (hb); clear ho hb hg hat) | ((with_reducible refine gate_callee (f := 46) rfl ?_); refine goesL_ (some 44) rfl rfl Try.func46 (by kernel_rfl) rfl #[.slice A0 l0.length c0, .int .i64 a1, .int .u64 a2, .slice A3 l3.length c3] rfl Z1 ?_; (with_reducible refine (quant_Press.calls kj7 _ _ l0 a1 a2 _ _ l3 t320 t321 t322 t325 t328 t329 t330 t333 t336 _ ?side1 ?side2 ?side3 ?side4 A18.out).mono ?_); (case side1 => exact Z17); (case side2 => exact HC0.out); (case side3 => exact Z20); (case side4 => exact HC3.out); rintro e w41 ⟨v323, v326, v331, v334, rfl, ho0, ho1, ho2, ho3, hb⟩; refine ⟨_, rfl, ?_⟩; have n0_ := ZM (Kd.R_elder' (Zr HO319) (Kd.R_base ho1) hb); have n1_ := ZM (Kd.R_lower ho0 (zzS Z14)); have n2_ := ZM (Kd.R_lower (Kd.R_new' ho1 (Kd.R_lt (Zr HO319))) (zzS Z14)); have n3_ := ZM (Kd.R_lower ho2 (zzS Z14)); have n4_ := ZM (Kd.R_lower ho3 (zzS Z14)); have n5_ := ZM (blk_below (g := gb313) (o := .cells #[.int .i64 a4_0, .int .i64 a4_1, .slice A4_2 l4_2.length c4_2, .slice A4_3 l4_3.length c4_3, .int .i64 a4_4, .int .i64 a4_5, .slice A4_6 l4_6.length c4_6, .slice A4_7 l4_7.length c4_7] 30 (0, 0)) (Zk BK313) hb); have n6_ := ZM (zzT Z14 hb); clear HO319; clear BK313; clear HB; have HO319 := n0_; have HO324 := n1_; have HO327 := n2_; have HO332 := n3_; have HO335 := n4_; have BK313 := n5_; have HB := n6_; clear n0_ n1_ n2_ n3_ n4_ n5_ n6_; (try clear hb); (try clear hb2); (try clear hk); (try clear hi); (try clear ho0); (try clear ho1); (try clear ho2); (try clear ho3)) | ((with_reducible refine gate_dst (N := 13) rfl ?_); refine box_event ?hg (N := 13) ?hd (cs := #[.int .i64 0, .int .i64 0, .slice none 0 0, .slice none 0 0, .int .i64 0, .int .i64 0, .slice none 0 0, .slice none 0 0]) (t := 30) ?hr ?_; (case hd => rfl); (case hg => rfl); (case hr => exact Z12); intro gb337 hg w42 hbox hb; have n0_ := ZM (Kd.R_below (Zr HO319) hb); have n1_ := ZM (Kd.R_below (Zr HO324) hb); have n2_ := ZM (Kd.R_below (Zr HO327) hb); have n3_ := ZM (Kd.R_below (Zr HO332) hb); have n4_ := ZM (Kd.R_below (Zr HO335) hb); have n5_ := ZM (blk_below (g := gb313) (o := .cells #[.int .i64 a4_0, .int .i64 a4_1, .slice A4_2 l4_2.length c4_2, .slice A4_3 l4_3.length c4_3, .int .i64 a4_4, .int .i64 a4_5, .slice A4_6 l4_6.length c4_6, .slice A4_7 l4_7.length c4_7] 30 (0, 0)) (Zk BK313) hb); have n6_ := ZM (zzT Z14 hb); have n7_ := ZM (hbox); have n8_ := ZM ((by rw [hg]; exact (zzS Z14) : w.heap.size ≤ gb337)); have n9_ := ZM ((by rw [hg]; exact (zzS Z14) : w.heap.size ≤ gb337)); have n10_ := ZM ((by rw [hg]; exact Nat.ne_of_lt (blk_lt (g := gb313) (o := .cells #[.int .i64 a4_0, .int .i64 a4_1, .slice A4_2 l4_2.length c4_2, .slice A4_3 l4_3.length c4_3, .int .i64 a4_4, .int .i64 a4_5, .slice A4_6 l4_6.length c4_6, .slice A4_7 l4_7.length c4_7] 30 (0, 0)) (Zk BK313)) : gb313 ≠ gb337)); have n11_ := ZM ((by rw [hg]; exact Nat.ne_of_gt (blk_lt (g := gb313) (o := .cells #[.int .i64 a4_0, .int .i64 a4_1, .slice A4_2 l4_2.length c4_2, .slice A4_3 l4_3.length c4_3, .int .i64 a4_4, .int .i64 a4_5, .slice A4_6 l4_6.length c4_6, .slice A4_7 l4_7.length c4_7] 30 (0, 0)) (Zk BK313)) : gb337 ≠ gb313)); clear HO319; clear HO324; clear HO327; clear HO332; clear HO335; clear BK313; clear HB; have HO319 := n0_; have HO324 := n1_; have HO327 := n2_; have HO332 := n3_; have HO335 := n4_; have BK313 := n5_; have HB := n6_; have BK337 := n7_; have GW337 := n8_; have GE337 := n9_; have NB313_337 := n10_; have NB337_313 := n11_; clear n0_ n1_ n2_ n3_ n4_ n5_ n6_ n7_ n8_ n9_ n10_ n11_; clear hb hbox hg; have hnb43 := NB337_313.out; have hnc43 := NB313_337.out; obtain ⟨hcz44_0, hcz44_1, hcz44_2, hcz44_3, hcz44_4, hcz44_5, hcz44_6, hcz44_7, hfz44_0, hfz44_1, hfz44_2, hfz44_3, hfz44_4, hfz44_5, hfz44_6, hfz44_7⟩ := Y8f BK337; obtain ⟨Ao45, co45, eo45⟩ := Kd.R_slice HO324.out; subst eo45; obtain ⟨Ao46, co46, eo46⟩ := Kd.R_slice HO327.out; subst eo46; obtain ⟨Ao47, co47, eo47⟩ := Kd.R_slice HO332.out; subst eo47; obtain ⟨Ao48, co48, eo48⟩ := Kd.R_slice HO335.out; subst eo48) | ((with_reducible refine gate_callee (f := 54) rfl ?_); refine goesL_ (some 52) rfl rfl Try.func54 (by kernel_rfl) rfl #[.slice A0 l0.length c0, .int .i64 a1, .int .u64 a2, .slice A3 l3.length c3] rfl Z1 ?_; (with_reducible refine (thrumref10_Press.calls kj7 _ _ l0 a1 a2 _ _ l3 t338 t339 t340 t343 t346 t347 t348 t351 t354 _ ?side1 ?side2 ?side3 ?side4 A19.out).mono ?_); (case side1 => exact Kd.C_below HR0.out Z18); (case side2 => exact HC0.out); (case side3 => exact Kd.C_below HR3.out Z18); (case side4 => exact HC3.out); rintro e w49 ⟨v341, v344, v349, v352, rfl, ho0, ho1, ho2, ho3, hb⟩; refine ⟨_, rfl, ?_⟩; have n0_ := ZM (Kd.R_elder' Z24 (Kd.R_base ho1) hb); have n1_ := ZM (Kd.R_elder' Z25 (Kd.R_base ho0) hb); have n2_ := ZM (Kd.R_elder' Z26 (Kd.R_base ho1) hb); have n3_ := ZM (Kd.R_elder' Z27 (Kd.R_base ho2) hb); have n4_ := ZM (Kd.R_elder' Z28 (Kd.R_base ho3) hb); have n5_ := ZM (Kd.R_lower (Kd.R_new' ho0 (Kd.R_lt Z25)) (zzS Z18)); have n6_ := ZM (Kd.R_lower (Kd.R_new' (Kd.R_new' ho1 (Kd.R_lt Z24)) (Kd.R_lt Z26)) (zzS Z18)); have n7_ := ZM (Kd.R_lower (Kd.R_new' ho2 (Kd.R_lt Z27)) (zzS Z18)); have n8_ := ZM (Kd.R_lower (Kd.R_new' ho3 (Kd.R_lt Z28)) (zzS Z18)); have n9_ := ZM (blk_below (g := gb313) (o := .cells #[.int .i64 a4_0, .int .i64 a4_1, .slice A4_2 l4_2.length c4_2, .slice A4_3 l4_3.length c4_3, .int .i64 a4_4, .int .i64 a4_5, .slice A4_6 l4_6.length c4_6, .slice A4_7 l4_7.length c4_7] 30 (0, 0)) (by (with_reducible repeat (first | refine kkN ?_ _ | refine kkD ?_ | refine kkA ?_ _)); refine blk_far ?_ NB313_337.out _; (with_reducible repeat (first | refine kkN ?_ _ | refine kkD ?_ | refine kkA ?_ _)); refine blk_far ?_ NB313_337.out _; (with_reducible repeat (first | refine kkN ?_ _ | refine kkD ?_ | refine kkA ?_ _)); refine blk_far ?_ NB313_337.out _; (with_reducible repeat (first | refine kkN ?_ _ | refine kkD ?_ | refine kkA ?_ _)); refine blk_far ?_ NB313_337.out _; (with_reducible repeat (first | refine kkN ?_ _ | refine kkD ?_ | refine kkA ?_ _)); refine blk_far ?_ NB313_337.out _; (with_reducible repeat (first | refine kkN ?_ _ | refine kkD ?_ | refine kkA ?_ _)); refine blk_far ?_ NB313_337.out _; (with_reducible repeat (first | refine kkN ?_ _ | refine kkD ?_ | refine kkA ?_ _)); refine blk_far ?_ NB313_337.out _; (with_reducible repeat (first | refine kkN ?_ _ | refine kkD ?_ | refine kkA ?_ _)); refine blk_far ?_ NB313_337.out _; (with_reducible repeat (first | refine kkN ?_ _ | refine kkD ?_ | refine kkA ?_ _)); exact BK313.out) hb); have n10_ := ZM (blk_below (g := gb337) (o := .cells #[.int .i64 t320, .int .i64 t321, .slice Ao45 t322.length co45, .slice Ao46 t325.length co46, .int .i64 t328, .int .i64 t329, .slice Ao47 t330.length co47, .slice Ao48 t333.length co48] 30 (0, 0)) (by (with_reducible repeat (first | refine kkN ?_ _ | refine kkD ?_ | refine kkA ?_ _)); refine blk_put (cs := #[.int .i64 t320, .int .i64 t321, .slice Ao45 t322.length co45, .slice Ao46 t325.length co46, .int .i64 t328, .int .i64 t329, .slice Ao47 t330.length co47, .slice none 0 0]) ?_ 7 _ rfl; (with_reducible repeat (first | refine kkN ?_ _ | refine kkD ?_ | refine kkA ?_ _)); refine blk_put (cs := #[.int .i64 t320, .int .i64 t321, .slice Ao45 t322.length co45, .slice Ao46 t325.length co46, .int .i64 t328, .int .i64 t329, .slice none 0 0, .slice none 0 0]) ?_ 6 _ rfl; (with_reducible repeat (first | refine kkN ?_ _ | refine kkD ?_ | refine kkA ?_ _)); refine blk_put (cs := #[.int .i64 t320, .int .i64 t321, .slice Ao45 t322.length co45, .slice Ao46 t325.length co46, .int .i64 t328, .int .i64 0, .slice none 0 0, .slice none 0 0]) ?_ 5 _ rfl; (with_reducible repeat (first | refine kkN ?_ _ | refine kkD ?_ | refine kkA ?_ _)); refine blk_put (cs := #[.int .i64 t320, .int .i64 t321, .slice Ao45 t322.length co45, .slice Ao46 t325.length co46, .int .i64 0, .int .i64 0, .slice none 0 0, .slice none 0 0]) ?_ 4 _ rfl; (with_reducible repeat (first | refine kkN ?_ _ | refine kkD ?_ | refine kkA ?_ _)); refine blk_put (cs := #[.int .i64 t320, .int .i64 t321, .slice Ao45 t322.length co45, .slice none 0 0, .int .i64 0, .int .i64 0, .slice none 0 0, .slice none 0 0]) ?_ 3 _ rfl; (with_reducible repeat (first | refine kkN ?_ _ | refine kkD ?_ | refine kkA ?_ _)); refine blk_put (cs := #[.int .i64 t320, .int .i64 t321, .slice none 0 0, .slice none 0 0, .int .i64 0, .int .i64 0, .slice none 0 0, .slice none 0 0]) ?_ 2 _ rfl; (with_reducible repeat (first | refine kkN ?_ _ | refine kkD ?_ | refine kkA ?_ _)); refine blk_put (cs := #[.int .i64 t320, .int .i64 0, .slice none 0 0, .slice none 0 0, .int .i64 0, .int .i64 0, .slice none 0 0, .slice none 0 0]) ?_ 1 _ rfl; (with_reducible repeat (first | refine kkN ?_ _ | refine kkD ?_ | refine kkA ?_ _)); refine blk_put (cs := #[.int .i64 0, .int .i64 0, .slice none 0 0, .slice none 0 0, .int .i64 0, .int .i64 0, .slice none 0 0, .slice none 0 0]) ?_ 0 _ rfl; (with_reducible repeat (first | refine kkN ?_ _ | refine kkD ?_ | refine kkA ?_ _)); exact BK337.out) hb); have n11_ := ZM (zzT Z18 hb); clear HO319; clear HO324; clear HO327; clear HO332; clear HO335; clear BK313; clear BK337; clear HB; have HO319 := n0_; have HO324 := n1_; have HO327 := n2_; have HO332 := n3_; have HO335 := n4_; have HO342 := n5_; have HO345 := n6_; have HO350 := n7_; have HO353 := n8_; have BK313 := n9_; have BK337 := n10_; have HB := n11_; clear n0_ n1_ n2_ n3_ n4_ n5_ n6_ n7_ n8_ n9_ n10_ n11_; (try clear hb); (try clear hb2); (try clear hk); (try clear hi); (try clear ho0); (try clear ho1); (try clear ho2); (try clear ho3)) | ((with_reducible refine gate_dst (N := 15) rfl ?_); refine box_event ?hg (N := 15) ?hd (cs := #[.int .i64 0, .int .i64 0, .slice none 0 0, .slice none 0 0, .int .i64 0, .int .i64 0, .slice none 0 0, .slice none 0 0]) (t := 30) ?hr ?_; (case hd => rfl); (case hg => rfl); (case hr => exact Z12); intro gb355 hg w50 hbox hb; have n0_ := ZM (Kd.R_below (Zr HO319) hb); have n1_ := ZM (Kd.R_below (Zr HO324) hb); have n2_ := ZM (Kd.R_below (Zr HO327) hb); have n3_ := ZM (Kd.R_below (Zr HO332) hb); have n4_ := ZM (Kd.R_below (Zr HO335) hb); have n5_ := ZM (Kd.R_below (Zr HO342) hb); have n6_ := ZM (Kd.R_below (Zr HO345) hb); have n7_ := ZM (Kd.R_below (Zr HO350) hb); have n8_ := ZM (Kd.R_below (Zr HO353) hb); have n9_ := ZM (blk_below (g := gb313) (o := .cells #[.int .i64 a4_0, .int .i64 a4_1, .slice A4_2 l4_2.length c4_2, .slice A4_3 l4_3.length c4_3, .int .i64 a4_4, .int .i64 a4_5, .slice A4_6 l4_6.length c4_6, .slice A4_7 l4_7.length c4_7] 30 (0, 0)) (Zk BK313) hb); have n10_ := ZM (blk_below (g := gb337) (o := .cells #[.int .i64 t320, .int .i64 t321, .slice Ao45 t322.length co45, .slice Ao46 t325.length co46, .int .i64 t328, .int .i64 t329, .slice Ao47 t330.length co47, .slice Ao48 t333.length co48] 30 (0, 0)) (Zk BK337) hb); have n11_ := ZM (zzT Z18 hb); have n12_ := ZM (hbox); have n13_ := ZM ((by rw [hg]; exact (zzS Z18) : w.heap.size ≤ gb355)); have n14_ := ZM ((by rw [hg]; exact (zzS Z18) : w.heap.size ≤ gb355)); have n15_ := ZM ((by rw [hg]; exact Nat.ne_of_lt (blk_lt (g := gb313) (o := .cells #[.int .i64 a4_0, .int .i64 a4_1, .slice A4_2 l4_2.length c4_2, .slice A4_3 l4_3.length c4_3, .int .i64 a4_4, .int .i64 a4_5, .slice A4_6 l4_6.length c4_6, .slice A4_7 l4_7.length c4_7] 30 (0, 0)) (Zk BK313)) : gb313 ≠ gb355)); have n16_ := ZM ((by rw [hg]; exact Nat.ne_of_gt (blk_lt (g := gb313) (o := .cells #[.int .i64 a4_0, .int .i64 a4_1, .slice A4_2 l4_2.length c4_2, .slice A4_3 l4_3.length c4_3, .int .i64 a4_4, .int .i64 a4_5, .slice A4_6 l4_6.length c4_6, .slice A4_7 l4_7.length c4_7] 30 (0, 0)) (Zk BK313)) : gb355 ≠ gb313)); have n17_ := ZM ((by rw [hg]; exact Nat.ne_of_lt (blk_lt (g := gb337) (o := .cells #[.int .i64 t320, .int .i64 t321, .slice Ao45 t322.length co45, .slice Ao46 t325.length co46, .int .i64 t328, .int .i64 t329, .slice Ao47 t330.length co47, .slice Ao48 t333.length co48] 30 (0, 0)) (Zk BK337)) : gb337 ≠ gb355)); have n18_ := ZM ((by rw [hg]; exact Nat.ne_of_gt (blk_lt (g := gb337) (o := .cells #[.int .i64 t320, .int .i64 t321, .slice Ao45 t322.length co45, .slice Ao46 t325.length co46, .int .i64 t328, .int .i64 t329, .slice Ao47 t330.length co47, .slice Ao48 t333.length co48] 30 (0, 0)) (Zk BK337)) : gb355 ≠ gb337)); clear HO319; clear HO324; clear HO327; clear HO332; clear HO335; clear HO342; clear HO345; clear HO350; clear HO353; clear BK313; clear BK337; clear HB; have HO319 := n0_; have HO324 := n1_; have HO327 := n2_; have HO332 := n3_; have HO335 := n4_; have HO342 := n5_; have HO345 := n6_; have HO350 := n7_; have HO353 := n8_; have BK313 := n9_; have BK337 := n10_; have HB := n11_; have BK355 := n12_; have GW355 := n13_; have GE355 := n14_; have NB313_355 := n15_; have NB355_313 := n16_; have NB337_355 := n17_; have NB355_337 := n18_; clear n0_ n1_ n2_ n3_ n4_ n5_ n6_ n7_ n8_ n9_ n10_ n11_ n12_ n13_ n14_ n15_ n16_ n17_ n18_; clear hb hbox hg; have hnb51 := NB355_313.out; have hnc51 := NB313_355.out; have hnb52 := NB355_337.out; have hnc52 := NB337_355.out; obtain ⟨hcz53_0, hcz53_1, hcz53_2, hcz53_3, hcz53_4, hcz53_5, hcz53_6, hcz53_7, hfz53_0, hfz53_1, hfz53_2, hfz53_3, hfz53_4, hfz53_5, hfz53_6, hfz53_7⟩ := Y8f BK355; obtain ⟨Ao54, co54, eo54⟩ := Kd.R_slice HO342.out; subst eo54; obtain ⟨Ao55, co55, eo55⟩ := Kd.R_slice HO345.out; subst eo55; obtain ⟨Ao56, co56, eo56⟩ := Kd.R_slice HO350.out; subst eo56; obtain ⟨Ao57, co57, eo57⟩ := Kd.R_slice HO353.out; subst eo57; obtain ⟨hcz58_0, hcz58_1, hcz58_2, hcz58_3, hcz58_4, hcz58_5, hcz58_6, hcz58_7, hfz58_0, hfz58_1, hfz58_2, hfz58_3, hfz58_4, hfz58_5, hfz58_6, hfz58_7⟩ := Y8f BK313) | ((with_reducible refine gate_callee (f := 55) rfl ?_); refine goesL_ (some 57) rfl rfl Try.func55 (by kernel_rfl) rfl #[.agg #[.int .i64 a4_0, .int .i64 a4_1, .slice A4_2 l4_2.length c4_2, .slice A4_3 l4_3.length c4_3, .int .i64 a4_4, .int .i64 a4_5, .slice A4_6 l4_6.length c4_6, .slice A4_7 l4_7.length c4_7]] rfl Z1 ?_; (with_reducible refine (quant_Loosen.calls kj7 a4_0 a4_1 _ _ l4_2 _ _ l4_3 a4_4 a4_5 _ _ l4_6 _ _ l4_7 t356 t359 _ ?side1 ?side2 ?side3 ?side4 ?side5 ?side6 ?side7 ?side8 A20.out).mono ?_); (case side1 => exact Kd.C_below HR4_2.out Z6); (case side2 => exact HC4_2.out); (case side3 => exact Kd.C_below HR4_3.out Z6); (case side4 => exact HC4_3.out); (case side5 => exact Kd.C_below HR4_6.out Z6); (case side6 => exact HC4_6.out); (case side7 => exact Kd.C_below HR4_7.out Z6); (case side8 => exact HC4_7.out); rintro e w59 ⟨v357, rfl, ho0, hb⟩; refine ⟨_, rfl, ?_⟩; have n0_ := ZM (Kd.R_elder' Z29 (Kd.R_base ho0) hb); have n1_ := ZM (Kd.R_below (by (with_reducible repeat (first | apply rrA | apply rrN | apply rrD)); exact (Kd.R_mono (Kd.R_far (p := ⟨gb355, 7, none⟩) (Kd.R_far (p := ⟨gb355, 6, none⟩) (Kd.R_far (p := ⟨gb355, 5, none⟩) (Kd.R_far (p := ⟨gb355, 4, none⟩) (Kd.R_far (p := ⟨gb355, 3, none⟩) (Kd.R_far (p := ⟨gb355, 2, none⟩) (Kd.R_far (p := ⟨gb355, 1, none⟩) (Kd.R_far (p := ⟨gb355, 0, none⟩) (Kd.R_types HO324.out BK355.out (by decide)) (fun _ hk => hk.2) (.int .i64 t338)) (fun _ hk => hk.2) (.int .i64 t339)) (fun _ hk => hk.2) (.slice Ao54 t340.length co54)) (fun _ hk => hk.2) (.slice Ao55 t343.length co55)) (fun _ hk => hk.2) (.int .i64 t346)) (fun _ hk => hk.2) (.int .i64 t347)) (fun _ hk => hk.2) (.slice Ao56 t348.length co56)) (fun _ hk => hk.2) (.slice Ao57 t351.length co57)) (fun _ h_ => h_.1))) hb); have n2_ := ZM (Kd.R_elder' Z30 (Kd.R_base ho0) hb); have n3_ := ZM (Kd.R_below (by (with_reducible repeat (first | apply rrA | apply rrN | apply rrD)); exact (Kd.R_mono (Kd.R_far (p := ⟨gb355, 7, none⟩) (Kd.R_far (p := ⟨gb355, 6, none⟩) (Kd.R_far (p := ⟨gb355, 5, none⟩) (Kd.R_far (p := ⟨gb355, 4, none⟩) (Kd.R_far (p := ⟨gb355, 3, none⟩) (Kd.R_far (p := ⟨gb355, 2, none⟩) (Kd.R_far (p := ⟨gb355, 1, none⟩) (Kd.R_far (p := ⟨gb355, 0, none⟩) (Kd.R_types HO332.out BK355.out (by decide)) (fun _ hk => hk.2) (.int .i64 t338)) (fun _ hk => hk.2) (.int .i64 t339)) (fun _ hk => hk.2) (.slice Ao54 t340.length co54)) (fun _ hk => hk.2) (.slice Ao55 t343.length co55)) (fun _ hk => hk.2) (.int .i64 t346)) (fun _ hk => hk.2) (.int .i64 t347)) (fun _ hk => hk.2) (.slice Ao56 t348.length co56)) (fun _ hk => hk.2) (.slice Ao57 t351.length co57)) (fun _ h_ => h_.1))) hb); have n4_ := ZM (Kd.R_below (by (with_reducible repeat (first | apply rrA | apply rrN | apply rrD)); exact (Kd.R_mono (Kd.R_far (p := ⟨gb355, 7, none⟩) (Kd.R_far (p := ⟨gb355, 6, none⟩) (Kd.R_far (p := ⟨gb355, 5, none⟩) (Kd.R_far (p := ⟨gb355, 4, none⟩) (Kd.R_far (p := ⟨gb355, 3, none⟩) (Kd.R_far (p := ⟨gb355, 2, none⟩) (Kd.R_far (p := ⟨gb355, 1, none⟩) (Kd.R_far (p := ⟨gb355, 0, none⟩) (Kd.R_types HO335.out BK355.out (by decide)) (fun _ hk => hk.2) (.int .i64 t338)) (fun _ hk => hk.2) (.int .i64 t339)) (fun _ hk => hk.2) (.slice Ao54 t340.length co54)) (fun _ hk => hk.2) (.slice Ao55 t343.length co55)) (fun _ hk => hk.2) (.int .i64 t346)) (fun _ hk => hk.2) (.int .i64 t347)) (fun _ hk => hk.2) (.slice Ao56 t348.length co56)) (fun _ hk => hk.2) (.slice Ao57 t351.length co57)) (fun _ h_ => h_.1))) hb); have n5_ := ZM (Kd.R_below (by (with_reducible repeat (first | apply rrA | apply rrN | apply rrD)); exact (Kd.R_mono (Kd.R_far (p := ⟨gb355, 7, none⟩) (Kd.R_far (p := ⟨gb355, 6, none⟩) (Kd.R_far (p := ⟨gb355, 5, none⟩) (Kd.R_far (p := ⟨gb355, 4, none⟩) (Kd.R_far (p := ⟨gb355, 3, none⟩) (Kd.R_far (p := ⟨gb355, 2, none⟩) (Kd.R_far (p := ⟨gb355, 1, none⟩) (Kd.R_far (p := ⟨gb355, 0, none⟩) (Kd.R_types HO342.out BK355.out (by decide)) (fun _ hk => hk.2) (.int .i64 t338)) (fun _ hk => hk.2) (.int .i64 t339)) (fun _ hk => hk.2) (.slice Ao54 t340.length co54)) (fun _ hk => hk.2) (.slice Ao55 t343.length co55)) (fun _ hk => hk.2) (.int .i64 t346)) (fun _ hk => hk.2) (.int .i64 t347)) (fun _ hk => hk.2) (.slice Ao56 t348.length co56)) (fun _ hk => hk.2) (.slice Ao57 t351.length co57)) (fun _ h_ => h_.1))) hb); have n6_ := ZM (Kd.R_elder' Z31 (Kd.R_base ho0) hb); have n7_ := ZM (Kd.R_below (by (with_reducible repeat (first | apply rrA | apply rrN | apply rrD)); exact (Kd.R_mono (Kd.R_far (p := ⟨gb355, 7, none⟩) (Kd.R_far (p := ⟨gb355, 6, none⟩) (Kd.R_far (p := ⟨gb355, 5, none⟩) (Kd.R_far (p := ⟨gb355, 4, none⟩) (Kd.R_far (p := ⟨gb355, 3, none⟩) (Kd.R_far (p := ⟨gb355, 2, none⟩) (Kd.R_far (p := ⟨gb355, 1, none⟩) (Kd.R_far (p := ⟨gb355, 0, none⟩) (Kd.R_types HO350.out BK355.out (by decide)) (fun _ hk => hk.2) (.int .i64 t338)) (fun _ hk => hk.2) (.int .i64 t339)) (fun _ hk => hk.2) (.slice Ao54 t340.length co54)) (fun _ hk => hk.2) (.slice Ao55 t343.length co55)) (fun _ hk => hk.2) (.int .i64 t346)) (fun _ hk => hk.2) (.int .i64 t347)) (fun _ hk => hk.2) (.slice Ao56 t348.length co56)) (fun _ hk => hk.2) (.slice Ao57 t351.length co57)) (fun _ h_ => h_.1))) hb); have n8_ := ZM (Kd.R_below (by (with_reducible repeat (first | apply rrA | apply rrN | apply rrD)); exact (Kd.R_mono (Kd.R_far (p := ⟨gb355, 7, none⟩) (Kd.R_far (p := ⟨gb355, 6, none⟩) (Kd.R_far (p := ⟨gb355, 5, none⟩) (Kd.R_far (p := ⟨gb355, 4, none⟩) (Kd.R_far (p := ⟨gb355, 3, none⟩) (Kd.R_far (p := ⟨gb355, 2, none⟩) (Kd.R_far (p := ⟨gb355, 1, none⟩) (Kd.R_far (p := ⟨gb355, 0, none⟩) (Kd.R_types HO353.out BK355.out (by decide)) (fun _ hk => hk.2) (.int .i64 t338)) (fun _ hk => hk.2) (.int .i64 t339)) (fun _ hk => hk.2) (.slice Ao54 t340.length co54)) (fun _ hk => hk.2) (.slice Ao55 t343.length co55)) (fun _ hk => hk.2) (.int .i64 t346)) (fun _ hk => hk.2) (.int .i64 t347)) (fun _ hk => hk.2) (.slice Ao56 t348.length co56)) (fun _ hk => hk.2) (.slice Ao57 t351.length co57)) (fun _ h_ => h_.1))) hb); have n9_ := ZM (Kd.R_lower (Kd.R_new' (Kd.R_new' (Kd.R_new' ho0 (Kd.R_lt Z29)) (Kd.R_lt Z30)) (Kd.R_lt Z31)) (zzS Z6)); have n10_ := ZM (blk_below (g := gb313) (o := .cells #[.int .i64 a4_0, .int .i64 a4_1, .slice A4_2 l4_2.length c4_2, .slice A4_3 l4_3.length c4_3, .int .i64 a4_4, .int .i64 a4_5, .slice A4_6 l4_6.length c4_6, .slice A4_7 l4_7.length c4_7] 30 (0, 0)) (by (with_reducible repeat (first | refine kkN ?_ _ | refine kkD ?_ | refine kkA ?_ _)); refine blk_far ?_ NB313_355.out _; (with_reducible repeat (first | refine kkN ?_ _ | refine kkD ?_ | refine kkA ?_ _)); refine blk_far ?_ NB313_355.out _; (with_reducible repeat (first | refine kkN ?_ _ | refine kkD ?_ | refine kkA ?_ _)); refine blk_far ?_ NB313_355.out _; (with_reducible repeat (first | refine kkN ?_ _ | refine kkD ?_ | refine kkA ?_ _)); refine blk_far ?_ NB313_355.out _; (with_reducible repeat (first | refine kkN ?_ _ | refine kkD ?_ | refine kkA ?_ _)); refine blk_far ?_ NB313_355.out _; (with_reducible repeat (first | refine kkN ?_ _ | refine kkD ?_ | refine kkA ?_ _)); refine blk_far ?_ NB313_355.out _; (with_reducible repeat (first | refine kkN ?_ _ | refine kkD ?_ | refine kkA ?_ _)); refine blk_far ?_ NB313_355.out _; (with_reducible repeat (first | refine kkN ?_ _ | refine kkD ?_ | refine kkA ?_ _)); refine blk_far ?_ NB313_355.out _; (with_reducible repeat (first | refine kkN ?_ _ | refine kkD ?_ | refine kkA ?_ _)); exact BK313.out) hb); have n11_ := ZM (blk_below (g := gb337) (o := .cells #[.int .i64 t320, .int .i64 t321, .slice Ao45 t322.length co45, .slice Ao46 t325.length co46, .int .i64 t328, .int .i64 t329, .slice Ao47 t330.length co47, .slice Ao48 t333.length co48] 30 (0, 0)) (by (with_reducible repeat (first | refine kkN ?_ _ | refine kkD ?_ | refine kkA ?_ _)); refine blk_far ?_ NB337_355.out _; (with_reducible repeat (first | refine kkN ?_ _ | refine kkD ?_ | refine kkA ?_ _)); refine blk_far ?_ NB337_355.out _; (with_reducible repeat (first | refine kkN ?_ _ | refine kkD ?_ | refine kkA ?_ _)); refine blk_far ?_ NB337_355.out _; (with_reducible repeat (first | refine kkN ?_ _ | refine kkD ?_ | refine kkA ?_ _)); refine blk_far ?_ NB337_355.out _; (with_reducible repeat (first | refine kkN ?_ _ | refine kkD ?_ | refine kkA ?_ _)); refine blk_far ?_ NB337_355.out _; (with_reducible repeat (first | refine kkN ?_ _ | refine kkD ?_ | refine kkA ?_ _)); refine blk_far ?_ NB337_355.out _; (with_reducible repeat (first | refine kkN ?_ _ | refine kkD ?_ | refine kkA ?_ _)); refine blk_far ?_ NB337_355.out _; (with_reducible repeat (first | refine kkN ?_ _ | refine kkD ?_ | refine kkA ?_ _)); refine blk_far ?_ NB337_355.out _; (with_reducible repeat (first | refine kkN ?_ _ | refine kkD ?_ | refine kkA ?_ _)); exact BK337.out) hb); have n12_ := ZM (blk_below (g := gb355) (o := .cells #[.int .i64 t338, .int .i64 t339, .slice Ao54 t340.length co54, .slice Ao55 t343.length co55, .int .i64 t346, .int .i64 t347, .slice Ao56 t348.length co56, .slice Ao57 t351.length co57] 30 (0, 0)) (by (with_reducible repeat (first | refine kkN ?_ _ | refine kkD ?_ | refine kkA ?_ _)); refine blk_put (cs := #[.int .i64 t338, .int .i64 t339, .slice Ao54 t340.length co54, .slice Ao55 t343.length co55, .int .i64 t346, .int .i64 t347, .slice Ao56 t348.length co56, .slice none 0 0]) ?_ 7 _ rfl; (with_reducible repeat (first | refine kkN ?_ _ | refine kkD ?_ | refine kkA ?_ _)); refine blk_put (cs := #[.int .i64 t338, .int .i64 t339, .slice Ao54 t340.length co54, .slice Ao55 t343.length co55, .int .i64 t346, .int .i64 t347, .slice none 0 0, .slice none 0 0]) ?_ 6 _ rfl; (with_reducible repeat (first | refine kkN ?_ _ | refine kkD ?_ | refine kkA ?_ _)); refine blk_put (cs := #[.int .i64 t338, .int .i64 t339, .slice Ao54 t340.length co54, .slice Ao55 t343.length co55, .int .i64 t346, .int .i64 0, .slice none 0 0, .slice none 0 0]) ?_ 5 _ rfl; (with_reducible repeat (first | refine kkN ?_ _ | refine kkD ?_ | refine kkA ?_ _)); refine blk_put (cs := #[.int .i64 t338, .int .i64 t339, .slice Ao54 t340.length co54, .slice Ao55 t343.length co55, .int .i64 0, .int .i64 0, .slice none 0 0, .slice none 0 0]) ?_ 4 _ rfl; (with_reducible repeat (first | refine kkN ?_ _ | refine kkD ?_ | refine kkA ?_ _)); refine blk_put (cs := #[.int .i64 t338, .int .i64 t339, .slice Ao54 t340.length co54, .slice none 0 0, .int .i64 0, .int .i64 0, .slice none 0 0, .slice none 0 0]) ?_ 3 _ rfl; (with_reducible repeat (first | refine kkN ?_ _ | refine kkD ?_ | refine kkA ?_ _)); refine blk_put (cs := #[.int .i64 t338, .int .i64 t339, .slice none 0 0, .slice none 0 0, .int .i64 0, .int .i64 0, .slice none 0 0, .slice none 0 0]) ?_ 2 _ rfl; (with_reducible repeat (first | refine kkN ?_ _ | refine kkD ?_ | refine kkA ?_ _)); refine blk_put (cs := #[.int .i64 t338, .int .i64 0, .slice none 0 0, .slice none 0 0, .int .i64 0, .int .i64 0, .slice none 0 0, .slice none 0 0]) ?_ 1 _ rfl; (with_reducible repeat (first | refine kkN ?_ _ | refine kkD ?_ | refine kkA ?_ _)); refine blk_put (cs := #[.int .i64 0, .int .i64 0, .slice none 0 0, .slice none 0 0, .int .i64 0, .int .i64 0, .slice none 0 0, .slice none 0 0]) ?_ 0 _ rfl; (with_reducible repeat (first | refine kkN ?_ _ | refine kkD ?_ | refine kkA ?_ _)); exact BK355.out) hb); have n13_ := ZM (zzT Z6 hb); clear HO319; clear HO324; clear HO327; clear HO332; clear HO335; clear HO342; clear HO345; clear HO350; clear HO353; clear BK313; clear BK337; clear BK355; clear HB; have HO319 := n0_; have HO324 := n1_; have HO327 := n2_; have HO332 := n3_; have HO335 := n4_; have HO342 := n5_; have HO345 := n6_; have HO350 := n7_; have HO353 := n8_; have HO358 := n9_; have BK313 := n10_; have BK337 := n11_; have BK355 := n12_; have HB := n13_; clear n0_ n1_ n2_ n3_ n4_ n5_ n6_ n7_ n8_ n9_ n10_ n11_ n12_ n13_; (try clear hb); (try clear hb2); (try clear hk); (try clear hi); (try clear ho0); obtain ⟨hcz60_0, hcz60_1, hcz60_2, hcz60_3, hcz60_4, hcz60_5, hcz60_6, hcz60_7, hfz60_0, hfz60_1, hfz60_2, hfz60_3, hfz60_4, hfz60_5, hfz60_6, hfz60_7⟩ := Y8f BK313) | ((with_reducible refine gate_callee (f := 56) rfl ?_); refine goesL_ (some 62) rfl rfl Try.func56 (by kernel_rfl) rfl #[.agg #[.int .i64 a4_0, .int .i64 a4_1, .slice A4_2 l4_2.length c4_2, .slice A4_3 l4_3.length c4_3, .int .i64 a4_4, .int .i64 a4_5, .slice A4_6 l4_6.length c4_6, .slice A4_7 l4_7.length c4_7]] rfl Z1 ?_; (with_reducible refine (thrumref10_Loosen.calls kj7 a4_0 a4_1 _ _ l4_2 _ _ l4_3 a4_4 a4_5 _ _ l4_6 _ _ l4_7 t360 t363 _ ?side1 ?side2 ?side3 ?side4 ?side5 ?side6 ?side7 ?side8 A21.out).mono ?_); (case side1 => exact Z62); (case side2 => exact HC4_2.out); (case side3 => exact Z63); (case side4 => exact HC4_3.out); (case side5 => exact Z64); (case side6 => exact HC4_6.out); (case side7 => exact Z65); (case side8 => exact HC4_7.out); rintro e w61 ⟨v361, rfl, ho0, hb⟩; refine ⟨_, rfl, ?_⟩; have n0_ := ZM (Kd.R_elder' (Zr HO319) (Kd.R_base ho0) hb); have n1_ := ZM (Kd.R_below (Zr HO324) hb); have n2_ := ZM (Kd.R_elder' (Zr HO327) (Kd.R_base ho0) hb); have n3_ := ZM (Kd.R_below (Zr HO332) hb); have n4_ := ZM (Kd.R_below (Zr HO335) hb); have n5_ := ZM (Kd.R_below (Zr HO342) hb); have n6_ := ZM (Kd.R_elder' (Zr HO345) (Kd.R_base ho0) hb); have n7_ := ZM (Kd.R_below (Zr HO350) hb); have n8_ := ZM (Kd.R_below (Zr HO353) hb); have n9_ := ZM (Kd.R_elder' (Zr HO358) (Kd.R_base ho0) hb); have n10_ := ZM (Kd.R_lower (Kd.R_new' (Kd.R_new' (Kd.R_new' (Kd.R_new' ho0 (Kd.R_lt (Zr HO319))) (Kd.R_lt (Zr HO327))) (Kd.R_lt (Zr HO345))) (Kd.R_lt (Zr HO358))) (zzS Z6)); have n11_ := ZM (blk_below (g := gb313) (o := .cells #[.int .i64 a4_0, .int .i64 a4_1, .slice A4_2 l4_2.length c4_2, .slice A4_3 l4_3.length c4_3, .int .i64 a4_4, .int .i64 a4_5, .slice A4_6 l4_6.length c4_6, .slice A4_7 l4_7.length c4_7] 30 (0, 0)) (Zk BK313) hb); have n12_ := ZM (blk_below (g := gb337) (o := .cells #[.int .i64 t320, .int .i64 t321, .slice Ao45 t322.length co45, .slice Ao46 t325.length co46, .int .i64 t328, .int .i64 t329, .slice Ao47 t330.length co47, .slice Ao48 t333.length co48] 30 (0, 0)) (Zk BK337) hb); have n13_ := ZM (blk_below (g := gb355) (o := .cells #[.int .i64 t338, .int .i64 t339, .slice Ao54 t340.length co54, .slice Ao55 t343.length co55, .int .i64 t346, .int .i64 t347, .slice Ao56 t348.length co56, .slice Ao57 t351.length co57] 30 (0, 0)) (Zk BK355) hb); have n14_ := ZM (zzT Z6 hb); clear HO319; clear HO324; clear HO327; clear HO332; clear HO335; clear HO342; clear HO345; clear HO350; clear HO353; clear HO358; clear BK313; clear BK337; clear BK355; clear HB; have HO319 := n0_; have HO324 := n1_; have HO327 := n2_; have HO332 := n3_; have HO335 := n4_; have HO342 := n5_; have HO345 := n6_; have HO350 := n7_; have HO353 := n8_; have HO358 := n9_; have HO362 := n10_; have BK313 := n11_; have BK337 := n12_; have BK355 := n13_; have HB := n14_; clear n0_ n1_ n2_ n3_ n4_ n5_ n6_ n7_ n8_ n9_ n10_ n11_ n12_ n13_ n14_; (try clear hb); (try clear hb2); (try clear hk); (try clear hi); (try clear ho0); obtain ⟨hcz62_0, hcz62_1, hcz62_2, hcz62_3, hcz62_4, hcz62_5, hcz62_6, hcz62_7, hfz62_0, hfz62_1, hfz62_2, hfz62_3, hfz62_4, hfz62_5, hfz62_6, hfz62_7⟩ := Y8f BK337) | ((with_reducible refine gate_callee (f := 55) rfl ?_); refine goesL_ (some 67) rfl rfl Try.func55 (by kernel_rfl) rfl #[.agg #[.int .i64 t320, .int .i64 t321, .slice Ao45 t322.length co45, .slice Ao46 t325.length co46, .int .i64 t328, .int .i64 t329, .slice Ao47 t330.length co47, .slice Ao48 t333.length co48]] rfl Z1 ?_; (with_reducible refine (quant_Loosen.calls kj7 t320 t321 _ _ t322 _ _ t325 t328 t329 _ _ t330 _ _ t333 t364 t367 _ ?side1 ?side2 ?side3 ?side4 ?side5 ?side6 ?side7 ?side8 A22.out).mono ?_); (case side1 => exact Z49); (case side2 => exact (Kd.R_reads' HO324.out).2.1); (case side3 => exact Z50); (case side4 => exact (Kd.R_reads' HO327.out).2.1); (case side5 => exact Z51); (case side6 => exact (Kd.R_reads' HO332.out).2.1); (case side7 => exact Z52); (case side8 => exact (Kd.R_reads' HO335.out).2.1); rintro e w63 ⟨v365, rfl, ho0, hb⟩; refine ⟨_, rfl, ?_⟩; have n0_ := ZM (Kd.R_elder' (Zr HO319) (Kd.R_base ho0) hb); have n1_ := ZM (Kd.R_below (Zr HO324) hb); have n2_ := ZM (Kd.R_elder' (Zr HO327) (Kd.R_base ho0) hb); have n3_ := ZM (Kd.R_below (Zr HO332) hb); have n4_ := ZM (Kd.R_below (Zr HO335) hb); have n5_ := ZM (Kd.R_below (Zr HO342) hb); have n6_ := ZM (Kd.R_elder' (Zr HO345) (Kd.R_base ho0) hb); have n7_ := ZM (Kd.R_below (Zr HO350) hb); have n8_ := ZM (Kd.R_below (Zr HO353) hb); have n9_ := ZM (Kd.R_elder' (Zr HO358) (Kd.R_base ho0) hb); have n10_ := ZM (Kd.R_elder' (Zr HO362) (Kd.R_base ho0) hb); have n11_ := ZM (Kd.R_lower (Kd.R_new' (Kd.R_new' (Kd.R_new' (Kd.R_new' (Kd.R_new' ho0 (Kd.R_lt (Zr HO319))) (Kd.R_lt (Zr HO327))) (Kd.R_lt (Zr HO345))) (Kd.R_lt (Zr HO358))) (Kd.R_lt (Zr HO362))) (zzS Z6)); have n12_ := ZM (blk_below (g := gb313) (o := .cells #[.int .i64 a4_0, .int .i64 a4_1, .slice A4_2 l4_2.length c4_2, .slice A4_3 l4_3.length c4_3, .int .i64 a4_4, .int .i64 a4_5, .slice A4_6 l4_6.length c4_6, .slice A4_7 l4_7.length c4_7] 30 (0, 0)) (Zk BK313) hb); have n13_ := ZM (blk_below (g := gb337) (o := .cells #[.int .i64 t320, .int .i64 t321, .slice Ao45 t322.length co45, .slice Ao46 t325.length co46, .int .i64 t328, .int .i64 t329, .slice Ao47 t330.length co47, .slice Ao48 t333.length co48] 30 (0, 0)) (Zk BK337) hb); have n14_ := ZM (blk_below (g := gb355) (o := .cells #[.int .i64 t338, .int .i64 t339, .slice Ao54 t340.length co54, .slice Ao55 t343.length co55, .int .i64 t346, .int .i64 t347, .slice Ao56 t348.length co56, .slice Ao57 t351.length co57] 30 (0, 0)) (Zk BK355) hb); have n15_ := ZM (zzT Z6 hb); clear HO319; clear HO324; clear HO327; clear HO332; clear HO335; clear HO342; clear HO345; clear HO350; clear HO353; clear HO358; clear HO362; clear BK313; clear BK337; clear BK355; clear HB; have HO319 := n0_; have HO324 := n1_; have HO327 := n2_; have HO332 := n3_; have HO335 := n4_; have HO342 := n5_; have HO345 := n6_; have HO350 := n7_; have HO353 := n8_; have HO358 := n9_; have HO362 := n10_; have HO366 := n11_; have BK313 := n12_; have BK337 := n13_; have BK355 := n14_; have HB := n15_; clear n0_ n1_ n2_ n3_ n4_ n5_ n6_ n7_ n8_ n9_ n10_ n11_ n12_ n13_ n14_ n15_; (try clear hb); (try clear hb2); (try clear hk); (try clear hi); (try clear ho0); obtain ⟨hcz64_0, hcz64_1, hcz64_2, hcz64_3, hcz64_4, hcz64_5, hcz64_6, hcz64_7, hfz64_0, hfz64_1, hfz64_2, hfz64_3, hfz64_4, hfz64_5, hfz64_6, hfz64_7⟩ := Y8f BK355) | ((with_reducible refine gate_callee (f := 56) rfl ?_); refine goesL_ (some 72) rfl rfl Try.func56 (by kernel_rfl) rfl #[.agg #[.int .i64 t338, .int .i64 t339, .slice Ao54 t340.length co54, .slice Ao55 t343.length co55, .int .i64 t346, .int .i64 t347, .slice Ao56 t348.length co56, .slice Ao57 t351.length co57]] rfl Z1 ?_; (with_reducible refine (thrumref10_Loosen.calls kj7 t338 t339 _ _ t340 _ _ t343 t346 t347 _ _ t348 _ _ t351 t368 t371 _ ?side1 ?side2 ?side3 ?side4 ?side5 ?side6 ?side7 ?side8 A23.out).mono ?_); (case side1 => exact Z53); (case side2 => exact (Kd.R_reads' HO342.out).2.1); (case side3 => exact Z54); (case side4 => exact (Kd.R_reads' HO345.out).2.1); (case side5 => exact Z55); (case side6 => exact (Kd.R_reads' HO350.out).2.1); (case side7 => exact Z56); (case side8 => exact (Kd.R_reads' HO353.out).2.1); rintro e w65 ⟨v369, rfl, ho0, hb⟩; refine ⟨_, rfl, ?_⟩; have n0_ := ZM (Kd.R_elder' (Zr HO319) (Kd.R_base ho0) hb); have n1_ := ZM (Kd.R_below (Zr HO324) hb); have n2_ := ZM (Kd.R_elder' (Zr HO327) (Kd.R_base ho0) hb); have n3_ := ZM (Kd.R_below (Zr HO332) hb); have n4_ := ZM (Kd.R_below (Zr HO335) hb); have n5_ := ZM (Kd.R_below (Zr HO342) hb); have n6_ := ZM (Kd.R_elder' (Zr HO345) (Kd.R_base ho0) hb); have n7_ := ZM (Kd.R_below (Zr HO350) hb); have n8_ := ZM (Kd.R_below (Zr HO353) hb); have n9_ := ZM (Kd.R_elder' (Zr HO358) (Kd.R_base ho0) hb); have n10_ := ZM (Kd.R_elder' (Zr HO362) (Kd.R_base ho0) hb); have n11_ := ZM (Kd.R_elder' (Zr HO366) (Kd.R_base ho0) hb); have n12_ := ZM (Kd.R_lower (Kd.R_new' (Kd.R_new' (Kd.R_new' (Kd.R_new' (Kd.R_new' (Kd.R_new' ho0 (Kd.R_lt (Zr HO319))) (Kd.R_lt (Zr HO327))) (Kd.R_lt (Zr HO345))) (Kd.R_lt (Zr HO358))) (Kd.R_lt (Zr HO362))) (Kd.R_lt (Zr HO366))) (zzS Z6)); have n13_ := ZM (blk_below (g := gb313) (o := .cells #[.int .i64 a4_0, .int .i64 a4_1, .slice A4_2 l4_2.length c4_2, .slice A4_3 l4_3.length c4_3, .int .i64 a4_4, .int .i64 a4_5, .slice A4_6 l4_6.length c4_6, .slice A4_7 l4_7.length c4_7] 30 (0, 0)) (Zk BK313) hb); have n14_ := ZM (blk_below (g := gb337) (o := .cells #[.int .i64 t320, .int .i64 t321, .slice Ao45 t322.length co45, .slice Ao46 t325.length co46, .int .i64 t328, .int .i64 t329, .slice Ao47 t330.length co47, .slice Ao48 t333.length co48] 30 (0, 0)) (Zk BK337) hb); have n15_ := ZM (blk_below (g := gb355) (o := .cells #[.int .i64 t338, .int .i64 t339, .slice Ao54 t340.length co54, .slice Ao55 t343.length co55, .int .i64 t346, .int .i64 t347, .slice Ao56 t348.length co56, .slice Ao57 t351.length co57] 30 (0, 0)) (Zk BK355) hb); have n16_ := ZM (zzT Z6 hb); clear HO319; clear HO324; clear HO327; clear HO332; clear HO335; clear HO342; clear HO345; clear HO350; clear HO353; clear HO358; clear HO362; clear HO366; clear BK313; clear BK337; clear BK355; clear HB; have HO319 := n0_; have HO324 := n1_; have HO327 := n2_; have HO332 := n3_; have HO335 := n4_; have HO342 := n5_; have HO345 := n6_; have HO350 := n7_; have HO353 := n8_; have HO358 := n9_; have HO362 := n10_; have HO366 := n11_; have HO370 := n12_; have BK313 := n13_; have BK337 := n14_; have BK355 := n15_; have HB := n16_; clear n0_ n1_ n2_ n3_ n4_ n5_ n6_ n7_ n8_ n9_ n10_ n11_ n12_ n13_ n14_ n15_ n16_; (try clear hb); (try clear hb2); (try clear hk); (try clear hi); (try clear ho0)))
  have n0_ := ZM (rrD HO319.out)
  have n1_ := ZM (rrD HO324.out)
  have n2_ := ZM (rrD HO327.out)
  have n3_ := ZM (rrD HO332.out)
  have n4_ := ZM (rrD HO335.out)
  have n5_ := ZM (rrD HO342.out)
  have n6_ := ZM (rrD HO345.out)
  have n7_ := ZM (rrD HO350.out)
  have n8_ := ZM (rrD HO353.out)
  have n9_ := ZM (rrD HO358.out)
  have n10_ := ZM (rrD HO362.out)
  have n11_ := ZM (rrD HO366.out)
  have n12_ := ZM (rrD HO370.out)
  have n13_ := ZM (kkD BK313.out)
  have n14_ := ZM (kkD BK337.out)
  have n15_ := ZM (kkD BK355.out)
  have n16_ := ZM (zzD HB.out)
  clear HO319
  clear HO324
  clear HO327
  clear HO332
  clear HO335
  clear HO342
  clear HO345
  clear HO350
  clear HO353
  clear HO358
  clear HO362
  clear HO366
  clear HO370
  clear BK313
  clear BK337
  clear BK355
  clear HB
  have HO319 := n0_
  have HO324 := n1_
  have HO327 := n2_
  have HO332 := n3_
  have HO335 := n4_
  have HO342 := n5_
  have HO345 := n6_
  have HO350 := n7_
  have HO353 := n8_
  have HO358 := n9_
  have HO362 := n10_
  have HO366 := n11_
  have HO370 := n12_
  have BK313 := n13_
  have BK337 := n14_
  have BK355 := n15_
  have HB := n16_
  clear n0_ n1_ n2_ n3_ n4_ n5_ n6_ n7_ n8_ n9_ n10_ n11_ n12_ n13_ n14_ n15_ n16_
  refine start_ (n := 55) (S := fun w' => w'.cell? ⟨gb337, 0, none⟩ = some (.int .i64 t320) ∧ w'.cell? ⟨gb337, 1, none⟩ = some (.int .i64 t321) ∧ w'.cell? ⟨gb337, 2, none⟩ = some (.slice Ao45 t322.length co45) ∧ w'.cell? ⟨gb337, 3, none⟩ = some (.slice Ao46 t325.length co46) ∧ w'.cell? ⟨gb337, 4, none⟩ = some (.int .i64 t328) ∧ w'.cell? ⟨gb337, 5, none⟩ = some (.int .i64 t329) ∧ w'.cell? ⟨gb337, 6, none⟩ = some (.slice Ao47 t330.length co47) ∧ w'.cell? ⟨gb337, 7, none⟩ = some (.slice Ao48 t333.length co48) ∧ w'.cell? ⟨gb355, 0, none⟩ = some (.int .i64 t338) ∧ w'.cell? ⟨gb355, 1, none⟩ = some (.int .i64 t339) ∧ w'.cell? ⟨gb355, 2, none⟩ = some (.slice Ao54 t340.length co54) ∧ w'.cell? ⟨gb355, 3, none⟩ = some (.slice Ao55 t343.length co55) ∧ w'.cell? ⟨gb355, 4, none⟩ = some (.int .i64 t346) ∧ w'.cell? ⟨gb355, 5, none⟩ = some (.int .i64 t347) ∧ w'.cell? ⟨gb355, 6, none⟩ = some (.slice Ao56 t348.length co56) ∧ w'.cell? ⟨gb355, 7, none⟩ = some (.slice Ao57 t351.length co57) ∧ w'.cell? ⟨gb313, 0, none⟩ = some (.int .i64 a4_0) ∧ w'.cell? ⟨gb313, 1, none⟩ = some (.int .i64 a4_1) ∧ w'.cell? ⟨gb313, 2, none⟩ = some (.slice A4_2 l4_2.length c4_2) ∧ w'.cell? ⟨gb313, 3, none⟩ = some (.slice A4_3 l4_3.length c4_3) ∧ w'.cell? ⟨gb313, 4, none⟩ = some (.int .i64 a4_4) ∧ w'.cell? ⟨gb313, 5, none⟩ = some (.int .i64 a4_5) ∧ w'.cell? ⟨gb313, 6, none⟩ = some (.slice A4_6 l4_6.length c4_6) ∧ w'.cell? ⟨gb313, 7, none⟩ = some (.slice A4_7 l4_7.length c4_7)) (ds := []) #[false, false, false, false, false, false, false, false, false, false, false, false, false, false, false, false, false, false, false, false, false, false, false, false, false, false, false, false, false, false, false, false, false, false, false, false, false, false, false, false, false, false, false, false, false, false, false, false, false, false, false, false, false, false, false] (by kernel_rfl) rfl rfl ⟨(blk_cell BK337.out 0).trans rfl, (blk_cell BK337.out 1).trans rfl, (blk_cell BK337.out 2).trans rfl, (blk_cell BK337.out 3).trans rfl, (blk_cell BK337.out 4).trans rfl, (blk_cell BK337.out 5).trans rfl, (blk_cell BK337.out 6).trans rfl, (blk_cell BK337.out 7).trans rfl, (blk_cell BK355.out 0).trans rfl, (blk_cell BK355.out 1).trans rfl, (blk_cell BK355.out 2).trans rfl, (blk_cell BK355.out 3).trans rfl, (blk_cell BK355.out 4).trans rfl, (blk_cell BK355.out 5).trans rfl, (blk_cell BK355.out 6).trans rfl, (blk_cell BK355.out 7).trans rfl, (blk_cell BK313.out 0).trans rfl, (blk_cell BK313.out 1).trans rfl, (blk_cell BK313.out 2).trans rfl, (blk_cell BK313.out 3).trans rfl, (blk_cell BK313.out 4).trans rfl, (blk_cell BK313.out 5).trans rfl, (blk_cell BK313.out 6).trans rfl, (blk_cell BK313.out 7).trans rfl⟩ (fun hHeld => ?_); refine with_tabW thrumlaw10_QuantPresses.tab13 thrumlaw10_QuantPresses.bits13 (fun HT_ HW_ => ?_)
  generalize w65.drew = w66 at HO319 HO324 HO327 HO332 HO335 HO342 HO345 HO350 HO353 HO358 HO362 HO366 HO370 BK313 BK337 BK355 HB hHeld ⊢
  refine pure_ (i := 0) (N := some 75) (v := ?_) (a' := ?_) #[true, false, false, false, false, false, false, false, false, false, false, false, false, false, false, false, false, false, false, false, false, false, false, false, false, false, false, false, false, false, false, false, false, false, false, false, false, false, false, false, false, false, false, false, false, false, false, false, false, false, false, false, false, false, false] rfl rfl (any_of HT_.out (by kernel_rfl)) (fun _ _ _ h => h) (Or.inl ⟨by rfl, ?_⟩) ?_ ?_
  rotate_left
  ·
   intro w'
   go_simp
   with_reducible rfl
  rotate_left
  ·
   simp only [Act.put, Zs]
   rfl
  refine pure_ (i := 1) (N := some 76) (v := ?_) (a' := ?_) #[true, true, false, false, false, false, false, false, false, false, false, false, false, false, false, false, false, false, false, false, false, false, false, false, false, false, false, false, false, false, false, false, false, false, false, false, false, false, false, false, false, false, false, false, false, false, false, false, false, false, false, false, false, false, false] rfl rfl (any_of HT_.out (by kernel_rfl)) (fun _ _ _ h => h) (Or.inl ⟨by rfl, ?_⟩) ?_ ?_
  rotate_left
  ·
   intro w'
   go_simp
   with_reducible rfl
  rotate_left
  ·
   simp only [Act.put, Zs]
   rfl
  refine take_ (i := 2) (N := some 77) (v := ?_) (a' := ?_) #[true, true, true, false, false, false, false, false, false, false, false, false, false, false, false, false, false, false, false, false, false, false, false, false, false, false, false, false, false, false, false, false, false, false, false, false, false, false, false, false, false, false, false, false, false, false, false, false, false, false, false, false, false, false, false] rfl rfl (take_ofW HT_.out HW_.out (by kernel_rfl)) (fun _ _ _ h => h) (Or.inl ⟨by rfl, ?_⟩) hHeld ?_ ?_
  rotate_left
  ·
   rintro w' ⟨s0, s1, s2, s3, s4, s5, s6, s7, s8, s9, s10, s11, s12, s13, s14, s15, s16, s17, s18, s19, s20, s21, s22, s23⟩
   go_simp
   with_reducible rfl
  rotate_left
  ·
   simp only [Act.put, Zs]
   rfl
  refine take_ (i := 3) (N := some 78) (v := ?_) (a' := ?_) #[true, true, true, true, false, false, false, false, false, false, false, false, false, false, false, false, false, false, false, false, false, false, false, false, false, false, false, false, false, false, false, false, false, false, false, false, false, false, false, false, false, false, false, false, false, false, false, false, false, false, false, false, false, false, false] rfl rfl (take_ofW HT_.out HW_.out (by kernel_rfl)) (fun _ _ _ h => h) (Or.inl ⟨by rfl, ?_⟩) hHeld ?_ ?_
  rotate_left
  ·
   rintro w' ⟨s0, s1, s2, s3, s4, s5, s6, s7, s8, s9, s10, s11, s12, s13, s14, s15, s16, s17, s18, s19, s20, s21, s22, s23⟩
   go_simp
   with_reducible rfl
  rotate_left
  ·
   simp only [Act.put, Zs]
   rfl
  refine one_ (i := 4) (N := some 79) #[true, true, true, true, true, false, false, false, false, false, false, false, false, false, false, false, false, false, false, false, false, false, false, false, false, false, false, false, false, false, false, false, false, false, false, false, false, false, false, false, false, false, false, false, false, false, false, false, false, false, false, false, false, false, false] rfl rfl (one_of HT_.out (by kernel_rfl)) (by decide) (fun K hK => ?_)
  refine goes_ Try.func27 (by kernel_rfl) rfl #[.agg #[.int .i64 t320, .int .i64 t321, .slice Ao45 t322.length co45, .slice Ao46 t325.length co46, .int .i64 t328, .int .i64 t329, .slice Ao47 t330.length co47, .slice Ao48 t333.length co48], .agg #[.int .i64 t338, .int .i64 t339, .slice Ao54 t340.length co54, .slice Ao55 t343.length co55, .int .i64 t346, .int .i64 t347, .slice Ao56 t348.length co56, .slice Ao57 t351.length co57]] (by rfl) rfl rfl Z1 ?_
  with_reducible refine (thrumref07_SameSent.calls t320 t321 _ _ t322 _ _ t325 t328 t329 _ _ t330 _ _ t333 t338 t339 _ _ t340 _ _ t343 t346 t347 _ _ t348 _ _ t351 true _ ?side1 ?side2 ?side3 ?side4 ?side5 ?side6 ?side7 ?side8 ?side9 ?side10 ?side11 ?side12 ?side13 ?side14 ?side15 ?side16 A24.out).mono ?_
  (case side1 => exact Z49)
  (case side2 => exact (Kd.R_reads' HO324.out).2.1)
  (case side3 => exact Z50)
  (case side4 => exact (Kd.R_reads' HO327.out).2.1)
  (case side5 => exact Z51)
  (case side6 => exact (Kd.R_reads' HO332.out).2.1)
  (case side7 => exact Z52)
  (case side8 => exact (Kd.R_reads' HO335.out).2.1)
  (case side9 => exact Z53)
  (case side10 => exact (Kd.R_reads' HO342.out).2.1)
  (case side11 => exact Z54)
  (case side12 => exact (Kd.R_reads' HO345.out).2.1)
  (case side13 => exact Z55)
  (case side14 => exact (Kd.R_reads' HO350.out).2.1)
  (case side15 => exact Z56)
  (case side16 => exact (Kd.R_reads' HO353.out).2.1)
  rintro e w67 ⟨rfl, hb⟩
  refine ⟨_, rfl, ?_⟩
  have n0_ := ZM (Kd.R_below (Zr HO319) hb)
  have n1_ := ZM (Kd.R_below (Zr HO324) hb)
  have n2_ := ZM (Kd.R_below (Zr HO327) hb)
  have n3_ := ZM (Kd.R_below (Zr HO332) hb)
  have n4_ := ZM (Kd.R_below (Zr HO335) hb)
  have n5_ := ZM (Kd.R_below (Zr HO342) hb)
  have n6_ := ZM (Kd.R_below (Zr HO345) hb)
  have n7_ := ZM (Kd.R_below (Zr HO350) hb)
  have n8_ := ZM (Kd.R_below (Zr HO353) hb)
  have n9_ := ZM (Kd.R_below (Zr HO358) hb)
  have n10_ := ZM (Kd.R_below (Zr HO362) hb)
  have n11_ := ZM (Kd.R_below (Zr HO366) hb)
  have n12_ := ZM (Kd.R_below (Zr HO370) hb)
  have n13_ := ZM (blk_below (g := gb313) (o := .cells #[.int .i64 a4_0, .int .i64 a4_1, .slice A4_2 l4_2.length c4_2, .slice A4_3 l4_3.length c4_3, .int .i64 a4_4, .int .i64 a4_5, .slice A4_6 l4_6.length c4_6, .slice A4_7 l4_7.length c4_7] 30 (0, 0)) (Zk BK313) hb)
  have n14_ := ZM (blk_below (g := gb337) (o := .cells #[.int .i64 t320, .int .i64 t321, .slice Ao45 t322.length co45, .slice Ao46 t325.length co46, .int .i64 t328, .int .i64 t329, .slice Ao47 t330.length co47, .slice Ao48 t333.length co48] 30 (0, 0)) (Zk BK337) hb)
  have n15_ := ZM (blk_below (g := gb355) (o := .cells #[.int .i64 t338, .int .i64 t339, .slice Ao54 t340.length co54, .slice Ao55 t343.length co55, .int .i64 t346, .int .i64 t347, .slice Ao56 t348.length co56, .slice Ao57 t351.length co57] 30 (0, 0)) (Zk BK355) hb)
  have n16_ := ZM (zzT Z6 hb)
  clear HO319
  clear HO324
  clear HO327
  clear HO332
  clear HO335
  clear HO342
  clear HO345
  clear HO350
  clear HO353
  clear HO358
  clear HO362
  clear HO366
  clear HO370
  clear BK313
  clear BK337
  clear BK355
  clear HB
  have HO319 := n0_
  have HO324 := n1_
  have HO327 := n2_
  have HO332 := n3_
  have HO335 := n4_
  have HO342 := n5_
  have HO345 := n6_
  have HO350 := n7_
  have HO353 := n8_
  have HO358 := n9_
  have HO362 := n10_
  have HO366 := n11_
  have HO370 := n12_
  have BK313 := n13_
  have BK337 := n14_
  have BK355 := n15_
  have HB := n16_
  clear n0_ n1_ n2_ n3_ n4_ n5_ n6_ n7_ n8_ n9_ n10_ n11_ n12_ n13_ n14_ n15_ n16_
  (try clear hb)
  (try clear hb2)
  (try clear hk)
  (try clear hi)
  obtain ⟨Ao68, co68, eo68⟩ := Kd.R_slice HO358.out
  (first | subst eo68 | (injection eo68 with f1_ f2_ f3_; have f4_ := f1_.symm; have f5_ := f3_.symm; clear f1_ f2_ f3_; subst f4_; subst f5_))
  obtain ⟨Ao69, co69, eo69⟩ := Kd.R_slice HO362.out
  (first | subst eo69 | (injection eo69 with f1_ f2_ f3_; have f4_ := f1_.symm; have f5_ := f3_.symm; clear f1_ f2_ f3_; subst f4_; subst f5_))
  refine hK.out _ _ ⟨(blk_cell BK337.out 0).trans rfl, (blk_cell BK337.out 1).trans rfl, (blk_cell BK337.out 2).trans rfl, (blk_cell BK337.out 3).trans rfl, (blk_cell BK337.out 4).trans rfl, (blk_cell BK337.out 5).trans rfl, (blk_cell BK337.out 6).trans rfl, (blk_cell BK337.out 7).trans rfl, (blk_cell BK355.out 0).trans rfl, (blk_cell BK355.out 1).trans rfl, (blk_cell BK355.out 2).trans rfl, (blk_cell BK355.out 3).trans rfl, (blk_cell BK355.out 4).trans rfl, (blk_cell BK355.out 5).trans rfl, (blk_cell BK355.out 6).trans rfl, (blk_cell BK355.out 7).trans rfl, (blk_cell BK313.out 0).trans rfl, (blk_cell BK313.out 1).trans rfl, (blk_cell BK313.out 2).trans rfl, (blk_cell BK313.out 3).trans rfl, (blk_cell BK313.out 4).trans rfl, (blk_cell BK313.out 5).trans rfl, (blk_cell BK313.out 6).trans rfl, (blk_cell BK313.out 7).trans rfl⟩ (fun hHeld => ?_)
  clear hK K
  refine norm_ (a' := ?_) ?_ ?_
  rotate_left
  ·
   show Act.put _ (some 79) _ = _
   simp only [Act.put, Zs]
   rfl
  refine pure_ (i := 5) (N := some 80) (v := ?_) (a' := ?_) #[true, true, true, true, true, true, false, false, false, false, false, false, false, false, false, false, false, false, false, false, false, false, false, false, false, false, false, false, false, false, false, false, false, false, false, false, false, false, false, false, false, false, false, false, false, false, false, false, false, false, false, false, false, false, false] rfl rfl (any_of HT_.out (by kernel_rfl)) (fun _ _ _ h => h) (Or.inl ⟨by rfl, ?_⟩) ?_ ?_
  rotate_left
  ·
   intro w'
   go_simp
   with_reducible rfl
  rotate_left
  ·
   simp only [Act.put, Zs]
   rfl
  refine pure_ (i := 6) (N := some 81) (v := ?_) (a' := ?_) #[true, true, true, true, true, true, true, false, false, false, false, false, false, false, false, false, false, false, false, false, false, false, false, false, false, false, false, false, false, false, false, false, false, false, false, false, false, false, false, false, false, false, false, false, false, false, false, false, false, false, false, false, false, false, false] rfl rfl (any_of HT_.out (by kernel_rfl)) (fun _ _ _ h => h) (Or.inl ⟨by rfl, ?_⟩) ?_ ?_
  rotate_left
  ·
   intro w'
   go_simp
   with_reducible rfl
  rotate_left
  ·
   simp only [Act.put, Zs]
   rfl
  refine pure_ (i := 7) (N := some 82) (v := ?_) (a' := ?_) #[true, true, true, true, true, true, true, true, false, false, false, false, false, false, false, false, false, false, false, false, false, false, false, false, false, false, false, false, false, false, false, false, false, false, false, false, false, false, false, false, false, false, false, false, false, false, false, false, false, false, false, false, false, false, false] rfl rfl (any_of HT_.out (by kernel_rfl)) (fun _ _ _ h => h) (Or.inl ⟨by rfl, ?_⟩) ?_ ?_
  rotate_left
  ·
   intro w'
   go_simp
   with_reducible rfl
  rotate_left
  ·
   simp only [Act.put, Zs]
   rfl
  refine pure_ (i := 8) (N := some 83) (v := ?_) (a' := ?_) #[true, true, true, true, true, true, true, true, true, false, false, false, false, false, false, false, false, false, false, false, false, false, false, false, false, false, false, false, false, false, false, false, false, false, false, false, false, false, false, false, false, false, false, false, false, false, false, false, false, false, false, false, false, false, false] rfl rfl (any_of HT_.out (by kernel_rfl)) (fun _ _ _ h => h) (Or.inl ⟨by rfl, ?_⟩) ?_ ?_
  rotate_left
  ·
   intro w'
   go_simp
   with_reducible rfl
  rotate_left
  ·
   simp only [Act.put, Zs]
   rfl
  refine pure_ (i := 9) (N := some 84) (v := ?_) (a' := ?_) #[true, true, true, true, true, true, true, true, true, true, false, false, false, false, false, false, false, false, false, false, false, false, false, false, false, false, false, false, false, false, false, false, false, false, false, false, false, false, false, false, false, false, false, false, false, false, false, false, false, false, false, false, false, false, false] rfl rfl (any_of HT_.out (by kernel_rfl)) (fun _ _ _ h => h) (Or.inl ⟨by rfl, ?_⟩) ?_ ?_
  rotate_left
  ·
   intro w'
   go_simp
   with_reducible rfl
  rotate_left
  ·
   simp only [Act.put, Zs]
   rfl
  refine pure_ (i := 10) (N := some 85) (v := ?_) (a' := ?_) #[true, true, true, true, true, true, true, true, true, true, true, false, false, false, false, false, false, false, false, false, false, false, false, false, false, false, false, false, false, false, false, false, false, false, false, false, false, false, false, false, false, false, false, false, false, false, false, false, false, false, false, false, false, false, false] rfl rfl (any_of HT_.out (by kernel_rfl)) (fun _ _ _ h => h) (Or.inl ⟨by rfl, ?_⟩) ?_ ?_
  rotate_left
  ·
   intro w'
   go_simp
   with_reducible rfl
  rotate_left
  ·
   simp only [Act.put, Zs]
   rfl
  refine pure_ (i := 11) (N := some 86) (v := ?_) (a' := ?_) #[true, true, true, true, true, true, true, true, true, true, true, true, false, false, false, false, false, false, false, false, false, false, false, false, false, false, false, false, false, false, false, false, false, false, false, false, false, false, false, false, false, false, false, false, false, false, false, false, false, false, false, false, false, false, false] rfl rfl (any_of HT_.out (by kernel_rfl)) (fun _ _ _ h => h) (Or.inl ⟨by rfl, ?_⟩) ?_ ?_
  rotate_left
  ·
   intro w'
   go_simp
   with_reducible rfl
  rotate_left
  ·
   simp only [Act.put, Zs]
   rfl
  refine pure_ (i := 12) (N := some 87) (v := ?_) (a' := ?_) #[true, true, true, true, true, true, true, true, true, true, true, true, true, false, false, false, false, false, false, false, false, false, false, false, false, false, false, false, false, false, false, false, false, false, false, false, false, false, false, false, false, false, false, false, false, false, false, false, false, false, false, false, false, false, false] rfl rfl (any_of HT_.out (by kernel_rfl)) (fun _ _ _ h => h) (Or.inl ⟨by rfl, ?_⟩) ?_ ?_
  rotate_left
  ·
   intro w'
   go_simp
   with_reducible rfl
  rotate_left
  ·
   simp only [Act.put, Zs]
   rfl
  refine pure_ (i := 13) (N := some 88) (v := ?_) (a' := ?_) #[true, true, true, true, true, true, true, true, true, true, true, true, true, true, false, false, false, false, false, false, false, false, false, false, false, false, false, false, false, false, false, false, false, false, false, false, false, false, false, false, false, false, false, false, false, false, false, false, false, false, false, false, false, false, false] rfl rfl (any_of HT_.out (by kernel_rfl)) (fun _ _ _ h => h) (Or.inl ⟨by rfl, ?_⟩) ?_ ?_
  rotate_left
  ·
   intro w'
   go_simp
   with_reducible rfl
  rotate_left
  ·
   simp only [Act.put, Zs]
   rfl
  refine one_ (i := 14) (N := some 89) #[true, true, true, true, true, true, true, true, true, true, true, true, true, true, true, false, false, false, false, false, false, false, false, false, false, false, false, false, false, false, false, false, false, false, false, false, false, false, false, false, false, false, false, false, false, false, false, false, false, false, false, false, false, false, false] rfl rfl (one_of HT_.out (by kernel_rfl)) (by decide) (fun K hK => ?_)
  refine goes_ Try.func57 (by kernel_rfl) rfl #[.slice Ao68 t356.length co68, .slice Ao69 t360.length co69] (by rfl) rfl rfl Z1 ?_
  with_reducible refine (thrumref02_Same.calls _ _ t356 _ _ t360 true _ ?side1 ?side2 ?side3 ?side4 A27.out).mono ?_
  (case side1 => repeat (first | exact (Kd.R_reads' HO358.out).2.2 | (with_reducible refine ccA ?_ _) | (with_reducible refine ccN ?_ _) | (with_reducible refine ccD ?_)))
  (case side2 => exact (Kd.R_reads' HO358.out).2.1)
  (case side3 => repeat (first | exact (Kd.R_reads' HO362.out).2.2 | (with_reducible refine ccA ?_ _) | (with_reducible refine ccN ?_ _) | (with_reducible refine ccD ?_)))
  (case side4 => exact (Kd.R_reads' HO362.out).2.1)
  rintro e w' ⟨rfl, ⟨nd, rfl⟩⟩
  refine ⟨_, rfl, ?_⟩
  obtain ⟨Ao70, co70, eo70⟩ := Kd.R_slice HO366.out
  (first | subst eo70 | (injection eo70 with f1_ f2_ f3_; have f4_ := f1_.symm; have f5_ := f3_.symm; clear f1_ f2_ f3_; subst f4_; subst f5_))
  obtain ⟨Ao71, co71, eo71⟩ := Kd.R_slice HO370.out
  (first | subst eo71 | (injection eo71 with f1_ f2_ f3_; have f4_ := f1_.symm; have f5_ := f3_.symm; clear f1_ f2_ f3_; subst f4_; subst f5_))
  refine hK.out _ _ ⟨(blk_cell BK337.out 0).trans rfl, (blk_cell BK337.out 1).trans rfl, (blk_cell BK337.out 2).trans rfl, (blk_cell BK337.out 3).trans rfl, (blk_cell BK337.out 4).trans rfl, (blk_cell BK337.out 5).trans rfl, (blk_cell BK337.out 6).trans rfl, (blk_cell BK337.out 7).trans rfl, (blk_cell BK355.out 0).trans rfl, (blk_cell BK355.out 1).trans rfl, (blk_cell BK355.out 2).trans rfl, (blk_cell BK355.out 3).trans rfl, (blk_cell BK355.out 4).trans rfl, (blk_cell BK355.out 5).trans rfl, (blk_cell BK355.out 6).trans rfl, (blk_cell BK355.out 7).trans rfl, (blk_cell BK313.out 0).trans rfl, (blk_cell BK313.out 1).trans rfl, (blk_cell BK313.out 2).trans rfl, (blk_cell BK313.out 3).trans rfl, (blk_cell BK313.out 4).trans rfl, (blk_cell BK313.out 5).trans rfl, (blk_cell BK313.out 6).trans rfl, (blk_cell BK313.out 7).trans rfl⟩ (fun hHeld => ?_)
  clear hK K
  refine norm_ (a' := ?_) ?_ ?_
  rotate_left
  ·
   show Act.put _ (some 89) _ = _
   simp only [Act.put, Zs]
   rfl
  refine pure_ (i := 15) (N := some 90) (v := ?_) (a' := ?_) #[true, true, true, true, true, true, true, true, true, true, true, true, true, true, true, true, false, false, false, false, false, false, false, false, false, false, false, false, false, false, false, false, false, false, false, false, false, false, false, false, false, false, false, false, false, false, false, false, false, false, false, false, false, false, false] rfl rfl (any_of HT_.out (by kernel_rfl)) (fun _ _ _ h => h) (Or.inl ⟨by rfl, ?_⟩) ?_ ?_
  rotate_left
  ·
   intro w'
   go_simp
   with_reducible rfl
  rotate_left
  ·
   simp only [Act.put, Zs]
   rfl
  refine pure_ (i := 16) (N := some 91) (v := ?_) (a' := ?_) #[true, true, true, true, true, true, true, true, true, true, true, true, true, true, true, true, true, false, false, false, false, false, false, false, false, false, false, false, false, false, false, false, false, false, false, false, false, false, false, false, false, false, false, false, false, false, false, false, false, false, false, false, false, false, false] rfl rfl (any_of HT_.out (by kernel_rfl)) (fun _ _ _ h => h) (Or.inl ⟨by rfl, ?_⟩) ?_ ?_
  rotate_left
  ·
   intro w'
   go_simp
   with_reducible rfl
  rotate_left
  ·
   simp only [Act.put, Zs]
   rfl
  refine pure_ (i := 17) (N := some 92) (v := ?_) (a' := ?_) #[true, true, true, true, true, true, true, true, true, true, true, true, true, true, true, true, true, true, false, false, false, false, false, false, false, false, false, false, false, false, false, false, false, false, false, false, false, false, false, false, false, false, false, false, false, false, false, false, false, false, false, false, false, false, false] rfl rfl (any_of HT_.out (by kernel_rfl)) (fun _ _ _ h => h) (Or.inl ⟨by rfl, ?_⟩) ?_ ?_
  rotate_left
  ·
   intro w'
   go_simp
   with_reducible rfl
  rotate_left
  ·
   simp only [Act.put, Zs]
   rfl
  refine pure_ (i := 18) (N := some 93) (v := ?_) (a' := ?_) #[true, true, true, true, true, true, true, true, true, true, true, true, true, true, true, true, true, true, true, false, false, false, false, false, false, false, false, false, false, false, false, false, false, false, false, false, false, false, false, false, false, false, false, false, false, false, false, false, false, false, false, false, false, false, false] rfl rfl (any_of HT_.out (by kernel_rfl)) (fun _ _ _ h => h) (Or.inl ⟨by rfl, ?_⟩) ?_ ?_
  rotate_left
  ·
   intro w'
   go_simp
   with_reducible rfl
  rotate_left
  ·
   simp only [Act.put, Zs]
   rfl
  refine pure_ (i := 19) (N := some 94) (v := ?_) (a' := ?_) #[true, true, true, true, true, true, true, true, true, true, true, true, true, true, true, true, true, true, true, true, false, false, false, false, false, false, false, false, false, false, false, false, false, false, false, false, false, false, false, false, false, false, false, false, false, false, false, false, false, false, false, false, false, false, false] rfl rfl (any_of HT_.out (by kernel_rfl)) (fun _ _ _ h => h) (Or.inl ⟨by rfl, ?_⟩) ?_ ?_
  rotate_left
  ·
   intro w'
   go_simp
   with_reducible rfl
  rotate_left
  ·
   simp only [Act.put, Zs]
   rfl
  refine pure_ (i := 20) (N := some 95) (v := ?_) (a' := ?_) #[true, true, true, true, true, true, true, true, true, true, true, true, true, true, true, true, true, true, true, true, true, false, false, false, false, false, false, false, false, false, false, false, false, false, false, false, false, false, false, false, false, false, false, false, false, false, false, false, false, false, false, false, false, false, false] rfl rfl (any_of HT_.out (by kernel_rfl)) (fun _ _ _ h => h) (Or.inl ⟨by rfl, ?_⟩) ?_ ?_
  rotate_left
  ·
   intro w'
   go_simp
   with_reducible rfl
  rotate_left
  ·
   simp only [Act.put, Zs]
   rfl
  refine pure_ (i := 21) (N := some 96) (v := ?_) (a' := ?_) #[true, true, true, true, true, true, true, true, true, true, true, true, true, true, true, true, true, true, true, true, true, true, false, false, false, false, false, false, false, false, false, false, false, false, false, false, false, false, false, false, false, false, false, false, false, false, false, false, false, false, false, false, false, false, false] rfl rfl (any_of HT_.out (by kernel_rfl)) (fun _ _ _ h => h) (Or.inl ⟨by rfl, ?_⟩) ?_ ?_
  rotate_left
  ·
   intro w'
   go_simp
   with_reducible rfl
  rotate_left
  ·
   simp only [Act.put, Zs]
   rfl
  refine pure_ (i := 22) (N := some 97) (v := ?_) (a' := ?_) #[true, true, true, true, true, true, true, true, true, true, true, true, true, true, true, true, true, true, true, true, true, true, true, false, false, false, false, false, false, false, false, false, false, false, false, false, false, false, false, false, false, false, false, false, false, false, false, false, false, false, false, false, false, false, false] rfl rfl (any_of HT_.out (by kernel_rfl)) (fun _ _ _ h => h) (Or.inl ⟨by rfl, ?_⟩) ?_ ?_
  rotate_left
  ·
   intro w'
   go_simp
   with_reducible rfl
  rotate_left
  ·
   simp only [Act.put, Zs]
   rfl
  refine pure_ (i := 23) (N := some 98) (v := ?_) (a' := ?_) #[true, true, true, true, true, true, true, true, true, true, true, true, true, true, true, true, true, true, true, true, true, true, true, true, false, false, false, false, false, false, false, false, false, false, false, false, false, false, false, false, false, false, false, false, false, false, false, false, false, false, false, false, false, false, false] rfl rfl (any_of HT_.out (by kernel_rfl)) (fun _ _ _ h => h) (Or.inl ⟨by rfl, ?_⟩) ?_ ?_
  rotate_left
  ·
   intro w'
   go_simp
   with_reducible rfl
  rotate_left
  ·
   simp only [Act.put, Zs]
   rfl
  refine one_ (i := 24) (N := some 99) #[true, true, true, true, true, true, true, true, true, true, true, true, true, true, true, true, true, true, true, true, true, true, true, true, true, false, false, false, false, false, false, false, false, false, false, false, false, false, false, false, false, false, false, false, false, false, false, false, false, false, false, false, false, false, false] rfl rfl (one_of HT_.out (by kernel_rfl)) (by decide) (fun K hK => ?_)
  refine goes_ Try.func57 (by kernel_rfl) rfl #[.slice Ao70 t364.length co70, .slice Ao71 t368.length co71] (by rfl) rfl rfl Z1 ?_
  with_reducible refine (thrumref02_Same.calls _ _ t364 _ _ t368 true _ ?side1 ?side2 ?side3 ?side4 A30.out).mono ?_
  (case side1 => repeat (first | exact (Kd.R_reads' HO366.out).2.2 | (with_reducible refine ccA ?_ _) | (with_reducible refine ccN ?_ _) | (with_reducible refine ccD ?_)))
  (case side2 => exact (Kd.R_reads' HO366.out).2.1)
  (case side3 => repeat (first | exact (Kd.R_reads' HO370.out).2.2 | (with_reducible refine ccA ?_ _) | (with_reducible refine ccN ?_ _) | (with_reducible refine ccD ?_)))
  (case side4 => exact (Kd.R_reads' HO370.out).2.1)
  rintro e w' ⟨rfl, ⟨nd, rfl⟩⟩
  refine ⟨_, rfl, ?_⟩
  refine hK.out _ _ ⟨(blk_cell BK337.out 0).trans rfl, (blk_cell BK337.out 1).trans rfl, (blk_cell BK337.out 2).trans rfl, (blk_cell BK337.out 3).trans rfl, (blk_cell BK337.out 4).trans rfl, (blk_cell BK337.out 5).trans rfl, (blk_cell BK337.out 6).trans rfl, (blk_cell BK337.out 7).trans rfl, (blk_cell BK355.out 0).trans rfl, (blk_cell BK355.out 1).trans rfl, (blk_cell BK355.out 2).trans rfl, (blk_cell BK355.out 3).trans rfl, (blk_cell BK355.out 4).trans rfl, (blk_cell BK355.out 5).trans rfl, (blk_cell BK355.out 6).trans rfl, (blk_cell BK355.out 7).trans rfl, (blk_cell BK313.out 0).trans rfl, (blk_cell BK313.out 1).trans rfl, (blk_cell BK313.out 2).trans rfl, (blk_cell BK313.out 3).trans rfl, (blk_cell BK313.out 4).trans rfl, (blk_cell BK313.out 5).trans rfl, (blk_cell BK313.out 6).trans rfl, (blk_cell BK313.out 7).trans rfl⟩ (fun hHeld => ?_)
  clear hK K
  refine norm_ (a' := ?_) ?_ ?_
  rotate_left
  ·
   show Act.put _ (some 99) _ = _
   simp only [Act.put, Zs]
   rfl
  refine pure_ (i := 25) (N := some 100) (v := ?_) (a' := ?_) #[true, true, true, true, true, true, true, true, true, true, true, true, true, true, true, true, true, true, true, true, true, true, true, true, true, true, false, false, false, false, false, false, false, false, false, false, false, false, false, false, false, false, false, false, false, false, false, false, false, false, false, false, false, false, false] rfl rfl (any_of HT_.out (by kernel_rfl)) (fun _ _ _ h => h) (Or.inl ⟨by rfl, ?_⟩) ?_ ?_
  rotate_left
  ·
   intro w'
   go_simp
   with_reducible rfl
  rotate_left
  ·
   simp only [Act.put, Zs]
   rfl
  refine pure_ (i := 26) (N := some 101) (v := ?_) (a' := ?_) #[true, true, true, true, true, true, true, true, true, true, true, true, true, true, true, true, true, true, true, true, true, true, true, true, true, true, true, false, false, false, false, false, false, false, false, false, false, false, false, false, false, false, false, false, false, false, false, false, false, false, false, false, false, false, false] rfl rfl (any_of HT_.out (by kernel_rfl)) (fun _ _ _ h => h) (Or.inl ⟨by rfl, ?_⟩) ?_ ?_
  rotate_left
  ·
   intro w'
   go_simp
   with_reducible rfl
  rotate_left
  ·
   simp only [Act.put, Zs]
   rfl
  refine pure_ (i := 27) (N := some 102) (v := ?_) (a' := ?_) #[true, true, true, true, true, true, true, true, true, true, true, true, true, true, true, true, true, true, true, true, true, true, true, true, true, true, true, true, false, false, false, false, false, false, false, false, false, false, false, false, false, false, false, false, false, false, false, false, false, false, false, false, false, false, false] rfl rfl (any_of HT_.out (by kernel_rfl)) (fun _ _ _ h => h) (Or.inl ⟨by rfl, ?_⟩) ?_ ?_
  rotate_left
  ·
   intro w'
   go_simp
   with_reducible rfl
  rotate_left
  ·
   simp only [Act.put, Zs]
   rfl
  refine pure_ (i := 28) (N := some 103) (v := ?_) (a' := ?_) #[true, true, true, true, true, true, true, true, true, true, true, true, true, true, true, true, true, true, true, true, true, true, true, true, true, true, true, true, true, false, false, false, false, false, false, false, false, false, false, false, false, false, false, false, false, false, false, false, false, false, false, false, false, false, false] rfl rfl (any_of HT_.out (by kernel_rfl)) (fun _ _ _ h => h) (Or.inl ⟨by rfl, ?_⟩) ?_ ?_
  rotate_left
  ·
   intro w'
   go_simp
   with_reducible rfl
  rotate_left
  ·
   simp only [Act.put, Zs]
   rfl
  refine pure_ (i := 29) (N := some 104) (v := ?_) (a' := ?_) #[true, true, true, true, true, true, true, true, true, true, true, true, true, true, true, true, true, true, true, true, true, true, true, true, true, true, true, true, true, true, false, false, false, false, false, false, false, false, false, false, false, false, false, false, false, false, false, false, false, false, false, false, false, false, false] rfl rfl (any_of HT_.out (by kernel_rfl)) (fun _ _ _ h => h) (Or.inl ⟨by rfl, ?_⟩) ?_ ?_
  rotate_left
  ·
   intro w'
   go_simp
   with_reducible rfl
  rotate_left
  ·
   simp only [Act.put, Zs]
   rfl
  refine pure_ (i := 30) (N := some 105) (v := ?_) (a' := ?_) #[true, true, true, true, true, true, true, true, true, true, true, true, true, true, true, true, true, true, true, true, true, true, true, true, true, true, true, true, true, true, true, false, false, false, false, false, false, false, false, false, false, false, false, false, false, false, false, false, false, false, false, false, false, false, false] rfl rfl (any_of HT_.out (by kernel_rfl)) (fun _ _ _ h => h) (Or.inl ⟨by rfl, ?_⟩) ?_ ?_
  rotate_left
  ·
   intro w'
   go_simp
   with_reducible rfl
  rotate_left
  ·
   simp only [Act.put, Zs]
   rfl
  refine pure_ (i := 31) (N := some 106) (v := ?_) (a' := ?_) #[true, true, true, true, true, true, true, true, true, true, true, true, true, true, true, true, true, true, true, true, true, true, true, true, true, true, true, true, true, true, true, true, false, false, false, false, false, false, false, false, false, false, false, false, false, false, false, false, false, false, false, false, false, false, false] rfl rfl (any_of HT_.out (by kernel_rfl)) (fun _ _ _ h => h) (Or.inl ⟨by rfl, ?_⟩) ?_ ?_
  rotate_left
  ·
   intro w'
   go_simp
   with_reducible rfl
  rotate_left
  ·
   simp only [Act.put, Zs]
   rfl
  refine pure_ (i := 32) (N := some 107) (v := ?_) (a' := ?_) #[true, true, true, true, true, true, true, true, true, true, true, true, true, true, true, true, true, true, true, true, true, true, true, true, true, true, true, true, true, true, true, true, true, false, false, false, false, false, false, false, false, false, false, false, false, false, false, false, false, false, false, false, false, false, false] rfl rfl (any_of HT_.out (by kernel_rfl)) (fun _ _ _ h => h) (Or.inl ⟨by rfl, ?_⟩) ?_ ?_
  rotate_left
  ·
   intro w'
   go_simp
   with_reducible rfl
  rotate_left
  ·
   simp only [Act.put, Zs]
   rfl
  refine pure_ (i := 35) (N := some 110) (v := ?_) (a' := ?_) #[true, true, true, true, true, true, true, true, true, true, true, true, true, true, true, true, true, true, true, true, true, true, true, true, true, true, true, true, true, true, true, true, true, false, false, true, false, false, false, false, false, false, false, false, false, false, false, false, false, false, false, false, false, false, false] rfl rfl (any_of HT_.out (by kernel_rfl)) (fun _ _ _ h => h) (Or.inl ⟨by rfl, ?_⟩) ?_ ?_
  rotate_left
  ·
   intro w'
   go_simp
   with_reducible rfl
  rotate_left
  ·
   simp only [Act.put, Zs]
   rfl
  refine take_ (i := 33) (N := some 108) (v := ?_) (a' := ?_) #[true, true, true, true, true, true, true, true, true, true, true, true, true, true, true, true, true, true, true, true, true, true, true, true, true, true, true, true, true, true, true, true, true, true, false, true, false, false, false, false, false, false, false, false, false, false, false, false, false, false, false, false, false, false, false] rfl rfl (take_ofW HT_.out HW_.out (by kernel_rfl)) (fun _ _ _ h => h) (Or.inl ⟨by rfl, ?_⟩) hHeld ?_ ?_
  rotate_left
  ·
   rintro w' ⟨s0, s1, s2, s3, s4, s5, s6, s7, s8, s9, s10, s11, s12, s13, s14, s15, s16, s17, s18, s19, s20, s21, s22, s23⟩
   go_simp
   with_reducible rfl
  rotate_left
  ·
   simp only [Act.put, Zs]
   rfl
  refine take_ (i := 36) (N := some 111) (v := ?_) (a' := ?_) #[true, true, true, true, true, true, true, true, true, true, true, true, true, true, true, true, true, true, true, true, true, true, true, true, true, true, true, true, true, true, true, true, true, true, false, true, true, false, false, false, false, false, false, false, false, false, false, false, false, false, false, false, false, false, false] rfl rfl (take_ofW HT_.out HW_.out (by kernel_rfl)) (fun _ _ _ h => h) (Or.inl ⟨by rfl, ?_⟩) hHeld ?_ ?_
  rotate_left
  ·
   rintro w' ⟨s0, s1, s2, s3, s4, s5, s6, s7, s8, s9, s10, s11, s12, s13, s14, s15, s16, s17, s18, s19, s20, s21, s22, s23⟩
   go_simp
   with_reducible rfl
  rotate_left
  ·
   simp only [Act.put, Zs]
   rfl
  refine one_ (i := 34) (N := some 109) #[true, true, true, true, true, true, true, true, true, true, true, true, true, true, true, true, true, true, true, true, true, true, true, true, true, true, true, true, true, true, true, true, true, true, true, true, true, false, false, false, false, false, false, false, false, false, false, false, false, false, false, false, false, false, false] rfl rfl (one_of HT_.out (by kernel_rfl)) (by decide) (fun K hK => ?_)
  refine goes_ Try.func58 (by kernel_rfl) rfl #[.slice A0 l0.length c0, .agg #[.int .i64 a4_0, .int .i64 a4_1, .slice A4_2 l4_2.length c4_2, .slice A4_3 l4_3.length c4_3, .int .i64 a4_4, .int .i64 a4_5, .slice A4_6 l4_6.length c4_6, .slice A4_7 l4_7.length c4_7]] (by rfl) rfl rfl Z1 ?_
  with_reducible refine (quant_Near.calls _ _ l0 a4_0 a4_1 _ _ l4_2 _ _ l4_3 a4_4 a4_5 _ _ l4_6 _ _ l4_7 t375 _ ?side1 ?side2 ?side3 ?side4 ?side5 ?side6 ?side7 ?side8 ?side9 ?side10 A33.out).mono ?_
  (case side1 => repeat (first | exact (Kd.C_below HR0.out Z6) | (with_reducible refine ccA ?_ _) | (with_reducible refine ccN ?_ _) | (with_reducible refine ccD ?_)))
  (case side2 => exact HC0.out)
  (case side3 => repeat (first | exact (Kd.C_below HR4_2.out Z6) | (with_reducible refine ccA ?_ _) | (with_reducible refine ccN ?_ _) | (with_reducible refine ccD ?_)))
  (case side4 => exact HC4_2.out)
  (case side5 => repeat (first | exact (Kd.C_below HR4_3.out Z6) | (with_reducible refine ccA ?_ _) | (with_reducible refine ccN ?_ _) | (with_reducible refine ccD ?_)))
  (case side6 => exact HC4_3.out)
  (case side7 => repeat (first | exact (Kd.C_below HR4_6.out Z6) | (with_reducible refine ccA ?_ _) | (with_reducible refine ccN ?_ _) | (with_reducible refine ccD ?_)))
  (case side8 => exact HC4_6.out)
  (case side9 => repeat (first | exact (Kd.C_below HR4_7.out Z6) | (with_reducible refine ccA ?_ _) | (with_reducible refine ccN ?_ _) | (with_reducible refine ccD ?_)))
  (case side10 => exact HC4_7.out)
  rintro e w72 ⟨rfl, hb⟩
  refine ⟨_, rfl, ?_⟩
  have n0_ := ZM (Kd.R_below (Zr HO319) hb)
  have n1_ := ZM (Kd.R_below (Zr HO324) hb)
  have n2_ := ZM (Kd.R_below (Zr HO327) hb)
  have n3_ := ZM (Kd.R_below (Zr HO332) hb)
  have n4_ := ZM (Kd.R_below (Zr HO335) hb)
  have n5_ := ZM (Kd.R_below (Zr HO342) hb)
  have n6_ := ZM (Kd.R_below (Zr HO345) hb)
  have n7_ := ZM (Kd.R_below (Zr HO350) hb)
  have n8_ := ZM (Kd.R_below (Zr HO353) hb)
  have n9_ := ZM (Kd.R_below (Zr HO358) hb)
  have n10_ := ZM (Kd.R_below (Zr HO362) hb)
  have n11_ := ZM (Kd.R_below (Zr HO366) hb)
  have n12_ := ZM (Kd.R_below (Zr HO370) hb)
  have n13_ := ZM (blk_below (g := gb313) (o := .cells #[.int .i64 a4_0, .int .i64 a4_1, .slice A4_2 l4_2.length c4_2, .slice A4_3 l4_3.length c4_3, .int .i64 a4_4, .int .i64 a4_5, .slice A4_6 l4_6.length c4_6, .slice A4_7 l4_7.length c4_7] 30 (0, 0)) (Zk BK313) hb)
  have n14_ := ZM (blk_below (g := gb337) (o := .cells #[.int .i64 t320, .int .i64 t321, .slice Ao45 t322.length co45, .slice Ao46 t325.length co46, .int .i64 t328, .int .i64 t329, .slice Ao47 t330.length co47, .slice Ao48 t333.length co48] 30 (0, 0)) (Zk BK337) hb)
  have n15_ := ZM (blk_below (g := gb355) (o := .cells #[.int .i64 t338, .int .i64 t339, .slice Ao54 t340.length co54, .slice Ao55 t343.length co55, .int .i64 t346, .int .i64 t347, .slice Ao56 t348.length co56, .slice Ao57 t351.length co57] 30 (0, 0)) (Zk BK355) hb)
  have n16_ := ZM (zzT Z6 hb)
  clear HO319
  clear HO324
  clear HO327
  clear HO332
  clear HO335
  clear HO342
  clear HO345
  clear HO350
  clear HO353
  clear HO358
  clear HO362
  clear HO366
  clear HO370
  clear BK313
  clear BK337
  clear BK355
  clear HB
  have HO319 := n0_
  have HO324 := n1_
  have HO327 := n2_
  have HO332 := n3_
  have HO335 := n4_
  have HO342 := n5_
  have HO345 := n6_
  have HO350 := n7_
  have HO353 := n8_
  have HO358 := n9_
  have HO362 := n10_
  have HO366 := n11_
  have HO370 := n12_
  have BK313 := n13_
  have BK337 := n14_
  have BK355 := n15_
  have HB := n16_
  clear n0_ n1_ n2_ n3_ n4_ n5_ n6_ n7_ n8_ n9_ n10_ n11_ n12_ n13_ n14_ n15_ n16_
  (try clear hb)
  (try clear hb2)
  (try clear hk)
  (try clear hi)
  refine hK.out _ _ ⟨(blk_cell BK337.out 0).trans rfl, (blk_cell BK337.out 1).trans rfl, (blk_cell BK337.out 2).trans rfl, (blk_cell BK337.out 3).trans rfl, (blk_cell BK337.out 4).trans rfl, (blk_cell BK337.out 5).trans rfl, (blk_cell BK337.out 6).trans rfl, (blk_cell BK337.out 7).trans rfl, (blk_cell BK355.out 0).trans rfl, (blk_cell BK355.out 1).trans rfl, (blk_cell BK355.out 2).trans rfl, (blk_cell BK355.out 3).trans rfl, (blk_cell BK355.out 4).trans rfl, (blk_cell BK355.out 5).trans rfl, (blk_cell BK355.out 6).trans rfl, (blk_cell BK355.out 7).trans rfl, (blk_cell BK313.out 0).trans rfl, (blk_cell BK313.out 1).trans rfl, (blk_cell BK313.out 2).trans rfl, (blk_cell BK313.out 3).trans rfl, (blk_cell BK313.out 4).trans rfl, (blk_cell BK313.out 5).trans rfl, (blk_cell BK313.out 6).trans rfl, (blk_cell BK313.out 7).trans rfl⟩ (fun hHeld => ?_)
  clear hK K
  refine norm_ (a' := ?_) ?_ ?_
  rotate_left
  ·
   show Act.put _ (some 109) _ = _
   simp only [Act.put, Zs]
   rfl
  refine one_ (i := 37) (N := some 112) #[true, true, true, true, true, true, true, true, true, true, true, true, true, true, true, true, true, true, true, true, true, true, true, true, true, true, true, true, true, true, true, true, true, true, true, true, true, true, false, false, false, false, false, false, false, false, false, false, false, false, false, false, false, false, false] rfl rfl (one_of HT_.out (by kernel_rfl)) (by decide) (fun K hK => ?_)
  refine goes_ Try.func59 (by kernel_rfl) rfl #[.slice A0 l0.length c0, .agg #[.int .i64 a4_0, .int .i64 a4_1, .slice A4_2 l4_2.length c4_2, .slice A4_3 l4_3.length c4_3, .int .i64 a4_4, .int .i64 a4_5, .slice A4_6 l4_6.length c4_6, .slice A4_7 l4_7.length c4_7]] (by rfl) rfl rfl Z1 ?_
  with_reducible refine (thrumref10_Near.calls kj7 _ _ l0 a4_0 a4_1 _ _ l4_2 _ _ l4_3 a4_4 a4_5 _ _ l4_6 _ _ l4_7 t376 _ ?side1 ?side2 ?side3 ?side4 ?side5 ?side6 ?side7 ?side8 ?side9 ?side10 A34.out).mono ?_
  (case side1 => exact Z17)
  (case side2 => exact HC0.out)
  (case side3 => exact Z62)
  (case side4 => exact HC4_2.out)
  (case side5 => exact Z63)
  (case side6 => exact HC4_3.out)
  (case side7 => exact Z64)
  (case side8 => exact HC4_6.out)
  (case side9 => exact Z65)
  (case side10 => exact HC4_7.out)
  rintro e w73 ⟨rfl, hb⟩
  refine ⟨_, rfl, ?_⟩
  have n0_ := ZM (Kd.R_below (Zr HO319) hb)
  have n1_ := ZM (Kd.R_below (Zr HO324) hb)
  have n2_ := ZM (Kd.R_below (Zr HO327) hb)
  have n3_ := ZM (Kd.R_below (Zr HO332) hb)
  have n4_ := ZM (Kd.R_below (Zr HO335) hb)
  have n5_ := ZM (Kd.R_below (Zr HO342) hb)
  have n6_ := ZM (Kd.R_below (Zr HO345) hb)
  have n7_ := ZM (Kd.R_below (Zr HO350) hb)
  have n8_ := ZM (Kd.R_below (Zr HO353) hb)
  have n9_ := ZM (Kd.R_below (Zr HO358) hb)
  have n10_ := ZM (Kd.R_below (Zr HO362) hb)
  have n11_ := ZM (Kd.R_below (Zr HO366) hb)
  have n12_ := ZM (Kd.R_below (Zr HO370) hb)
  have n13_ := ZM (blk_below (g := gb313) (o := .cells #[.int .i64 a4_0, .int .i64 a4_1, .slice A4_2 l4_2.length c4_2, .slice A4_3 l4_3.length c4_3, .int .i64 a4_4, .int .i64 a4_5, .slice A4_6 l4_6.length c4_6, .slice A4_7 l4_7.length c4_7] 30 (0, 0)) (Zk BK313) hb)
  have n14_ := ZM (blk_below (g := gb337) (o := .cells #[.int .i64 t320, .int .i64 t321, .slice Ao45 t322.length co45, .slice Ao46 t325.length co46, .int .i64 t328, .int .i64 t329, .slice Ao47 t330.length co47, .slice Ao48 t333.length co48] 30 (0, 0)) (Zk BK337) hb)
  have n15_ := ZM (blk_below (g := gb355) (o := .cells #[.int .i64 t338, .int .i64 t339, .slice Ao54 t340.length co54, .slice Ao55 t343.length co55, .int .i64 t346, .int .i64 t347, .slice Ao56 t348.length co56, .slice Ao57 t351.length co57] 30 (0, 0)) (Zk BK355) hb)
  have n16_ := ZM (zzT Z6 hb)
  clear HO319
  clear HO324
  clear HO327
  clear HO332
  clear HO335
  clear HO342
  clear HO345
  clear HO350
  clear HO353
  clear HO358
  clear HO362
  clear HO366
  clear HO370
  clear BK313
  clear BK337
  clear BK355
  clear HB
  have HO319 := n0_
  have HO324 := n1_
  have HO327 := n2_
  have HO332 := n3_
  have HO335 := n4_
  have HO342 := n5_
  have HO345 := n6_
  have HO350 := n7_
  have HO353 := n8_
  have HO358 := n9_
  have HO362 := n10_
  have HO366 := n11_
  have HO370 := n12_
  have BK313 := n13_
  have BK337 := n14_
  have BK355 := n15_
  have HB := n16_
  clear n0_ n1_ n2_ n3_ n4_ n5_ n6_ n7_ n8_ n9_ n10_ n11_ n12_ n13_ n14_ n15_ n16_
  (try clear hb)
  (try clear hb2)
  (try clear hk)
  (try clear hi)
  refine hK.out _ _ ⟨(blk_cell BK337.out 0).trans rfl, (blk_cell BK337.out 1).trans rfl, (blk_cell BK337.out 2).trans rfl, (blk_cell BK337.out 3).trans rfl, (blk_cell BK337.out 4).trans rfl, (blk_cell BK337.out 5).trans rfl, (blk_cell BK337.out 6).trans rfl, (blk_cell BK337.out 7).trans rfl, (blk_cell BK355.out 0).trans rfl, (blk_cell BK355.out 1).trans rfl, (blk_cell BK355.out 2).trans rfl, (blk_cell BK355.out 3).trans rfl, (blk_cell BK355.out 4).trans rfl, (blk_cell BK355.out 5).trans rfl, (blk_cell BK355.out 6).trans rfl, (blk_cell BK355.out 7).trans rfl, (blk_cell BK313.out 0).trans rfl, (blk_cell BK313.out 1).trans rfl, (blk_cell BK313.out 2).trans rfl, (blk_cell BK313.out 3).trans rfl, (blk_cell BK313.out 4).trans rfl, (blk_cell BK313.out 5).trans rfl, (blk_cell BK313.out 6).trans rfl, (blk_cell BK313.out 7).trans rfl⟩ (fun hHeld => ?_)
  clear hK K
  refine norm_ (a' := ?_) ?_ ?_
  rotate_left
  ·
   show Act.put _ (some 112) _ = _
   simp only [Act.put, Zs]
   rfl
  refine pure_ (i := 38) (N := some 113) (v := ?_) (a' := ?_) #[true, true, true, true, true, true, true, true, true, true, true, true, true, true, true, true, true, true, true, true, true, true, true, true, true, true, true, true, true, true, true, true, true, true, true, true, true, true, true, false, false, false, false, false, false, false, false, false, false, false, false, false, false, false, false] rfl rfl (any_of HT_.out (by kernel_rfl)) (fun _ _ _ h => h) (Or.inl ⟨by rfl, ?_⟩) ?_ ?_
  rotate_left
  ·
   intro w'
   go_simp
   with_reducible rfl
  rotate_left
  ·
   simp only [Act.put, Zs]
   rfl
  refine pure_ (i := 39) (N := some 114) (v := ?_) (a' := ?_) #[true, true, true, true, true, true, true, true, true, true, true, true, true, true, true, true, true, true, true, true, true, true, true, true, true, true, true, true, true, true, true, true, true, true, true, true, true, true, true, true, false, false, false, false, false, false, false, false, false, false, false, false, false, false, false] rfl rfl (any_of HT_.out (by kernel_rfl)) (fun _ _ _ h => h) (Or.inl ⟨by rfl, ?_⟩) ?_ ?_
  rotate_left
  ·
   intro w'
   go_simp
   with_reducible rfl
  rotate_left
  ·
   simp only [Act.put, Zs]
   rfl
  refine pure_ (i := 40) (N := some 115) (v := ?_) (a' := ?_) #[true, true, true, true, true, true, true, true, true, true, true, true, true, true, true, true, true, true, true, true, true, true, true, true, true, true, true, true, true, true, true, true, true, true, true, true, true, true, true, true, true, false, false, false, false, false, false, false, false, false, false, false, false, false, false] rfl rfl (any_of HT_.out (by kernel_rfl)) (fun _ _ _ h => h) (Or.inl ⟨by rfl, ?_⟩) ?_ ?_
  rotate_left
  ·
   intro w'
   go_simp
   with_reducible rfl
  rotate_left
  ·
   simp only [Act.put, Zs]
   rfl
  refine pure_ (i := 41) (N := some 116) (v := ?_) (a' := ?_) #[true, true, true, true, true, true, true, true, true, true, true, true, true, true, true, true, true, true, true, true, true, true, true, true, true, true, true, true, true, true, true, true, true, true, true, true, true, true, true, true, true, true, false, false, false, false, false, false, false, false, false, false, false, false, false] rfl rfl (any_of HT_.out (by kernel_rfl)) (fun _ _ _ h => h) (Or.inl ⟨by rfl, ?_⟩) ?_ ?_
  rotate_left
  ·
   intro w'
   go_simp
   with_reducible rfl
  rotate_left
  ·
   simp only [Act.put, Zs]
   rfl
  refine pure_ (i := 44) (N := some 119) (v := ?_) (a' := ?_) #[true, true, true, true, true, true, true, true, true, true, true, true, true, true, true, true, true, true, true, true, true, true, true, true, true, true, true, true, true, true, true, true, true, true, true, true, true, true, true, true, true, true, false, false, true, false, false, false, false, false, false, false, false, false, false] rfl rfl (any_of HT_.out (by kernel_rfl)) (fun _ _ _ h => h) (Or.inl ⟨by rfl, ?_⟩) ?_ ?_
  rotate_left
  ·
   intro w'
   go_simp
   with_reducible rfl
  rotate_left
  ·
   simp only [Act.put, Zs]
   rfl
  refine take_ (i := 42) (N := some 117) (v := ?_) (a' := ?_) #[true, true, true, true, true, true, true, true, true, true, true, true, true, true, true, true, true, true, true, true, true, true, true, true, true, true, true, true, true, true, true, true, true, true, true, true, true, true, true, true, true, true, true, false, true, false, false, false, false, false, false, false, false, false, false] rfl rfl (take_ofW HT_.out HW_.out (by kernel_rfl)) (fun _ _ _ h => h) (Or.inl ⟨by rfl, ?_⟩) hHeld ?_ ?_
  rotate_left
  ·
   rintro w' ⟨s0, s1, s2, s3, s4, s5, s6, s7, s8, s9, s10, s11, s12, s13, s14, s15, s16, s17, s18, s19, s20, s21, s22, s23⟩
   go_simp
   with_reducible rfl
  rotate_left
  ·
   simp only [Act.put, Zs]
   rfl
  refine take_ (i := 45) (N := some 120) (v := ?_) (a' := ?_) #[true, true, true, true, true, true, true, true, true, true, true, true, true, true, true, true, true, true, true, true, true, true, true, true, true, true, true, true, true, true, true, true, true, true, true, true, true, true, true, true, true, true, true, false, true, true, false, false, false, false, false, false, false, false, false] rfl rfl (take_ofW HT_.out HW_.out (by kernel_rfl)) (fun _ _ _ h => h) (Or.inl ⟨by rfl, ?_⟩) hHeld ?_ ?_
  rotate_left
  ·
   rintro w' ⟨s0, s1, s2, s3, s4, s5, s6, s7, s8, s9, s10, s11, s12, s13, s14, s15, s16, s17, s18, s19, s20, s21, s22, s23⟩
   go_simp
   with_reducible rfl
  rotate_left
  ·
   simp only [Act.put, Zs]
   rfl
  refine one_ (i := 43) (N := some 118) #[true, true, true, true, true, true, true, true, true, true, true, true, true, true, true, true, true, true, true, true, true, true, true, true, true, true, true, true, true, true, true, true, true, true, true, true, true, true, true, true, true, true, true, true, true, true, false, false, false, false, false, false, false, false, false] rfl rfl (one_of HT_.out (by kernel_rfl)) (by decide) (fun K hK => ?_)
  refine goes_ Try.func58 (by kernel_rfl) rfl #[.slice A0 l0.length c0, .agg #[.int .i64 t320, .int .i64 t321, .slice Ao45 t322.length co45, .slice Ao46 t325.length co46, .int .i64 t328, .int .i64 t329, .slice Ao47 t330.length co47, .slice Ao48 t333.length co48]] (by rfl) rfl rfl Z1 ?_
  with_reducible refine (quant_Near.calls _ _ l0 t320 t321 _ _ t322 _ _ t325 t328 t329 _ _ t330 _ _ t333 t377 _ ?side1 ?side2 ?side3 ?side4 ?side5 ?side6 ?side7 ?side8 ?side9 ?side10 A36.out).mono ?_
  (case side1 => exact Z17)
  (case side2 => exact HC0.out)
  (case side3 => exact Z49)
  (case side4 => exact (Kd.R_reads' HO324.out).2.1)
  (case side5 => exact Z50)
  (case side6 => exact (Kd.R_reads' HO327.out).2.1)
  (case side7 => exact Z51)
  (case side8 => exact (Kd.R_reads' HO332.out).2.1)
  (case side9 => exact Z52)
  (case side10 => exact (Kd.R_reads' HO335.out).2.1)
  rintro e w74 ⟨rfl, hb⟩
  refine ⟨_, rfl, ?_⟩
  have n0_ := ZM (Kd.R_below (Zr HO319) hb)
  have n1_ := ZM (Kd.R_below (Zr HO324) hb)
  have n2_ := ZM (Kd.R_below (Zr HO327) hb)
  have n3_ := ZM (Kd.R_below (Zr HO332) hb)
  have n4_ := ZM (Kd.R_below (Zr HO335) hb)
  have n5_ := ZM (Kd.R_below (Zr HO342) hb)
  have n6_ := ZM (Kd.R_below (Zr HO345) hb)
  have n7_ := ZM (Kd.R_below (Zr HO350) hb)
  have n8_ := ZM (Kd.R_below (Zr HO353) hb)
  have n9_ := ZM (Kd.R_below (Zr HO358) hb)
  have n10_ := ZM (Kd.R_below (Zr HO362) hb)
  have n11_ := ZM (Kd.R_below (Zr HO366) hb)
  have n12_ := ZM (Kd.R_below (Zr HO370) hb)
  have n13_ := ZM (blk_below (g := gb313) (o := .cells #[.int .i64 a4_0, .int .i64 a4_1, .slice A4_2 l4_2.length c4_2, .slice A4_3 l4_3.length c4_3, .int .i64 a4_4, .int .i64 a4_5, .slice A4_6 l4_6.length c4_6, .slice A4_7 l4_7.length c4_7] 30 (0, 0)) (Zk BK313) hb)
  have n14_ := ZM (blk_below (g := gb337) (o := .cells #[.int .i64 t320, .int .i64 t321, .slice Ao45 t322.length co45, .slice Ao46 t325.length co46, .int .i64 t328, .int .i64 t329, .slice Ao47 t330.length co47, .slice Ao48 t333.length co48] 30 (0, 0)) (Zk BK337) hb)
  have n15_ := ZM (blk_below (g := gb355) (o := .cells #[.int .i64 t338, .int .i64 t339, .slice Ao54 t340.length co54, .slice Ao55 t343.length co55, .int .i64 t346, .int .i64 t347, .slice Ao56 t348.length co56, .slice Ao57 t351.length co57] 30 (0, 0)) (Zk BK355) hb)
  have n16_ := ZM (zzT Z6 hb)
  clear HO319
  clear HO324
  clear HO327
  clear HO332
  clear HO335
  clear HO342
  clear HO345
  clear HO350
  clear HO353
  clear HO358
  clear HO362
  clear HO366
  clear HO370
  clear BK313
  clear BK337
  clear BK355
  clear HB
  have HO319 := n0_
  have HO324 := n1_
  have HO327 := n2_
  have HO332 := n3_
  have HO335 := n4_
  have HO342 := n5_
  have HO345 := n6_
  have HO350 := n7_
  have HO353 := n8_
  have HO358 := n9_
  have HO362 := n10_
  have HO366 := n11_
  have HO370 := n12_
  have BK313 := n13_
  have BK337 := n14_
  have BK355 := n15_
  have HB := n16_
  clear n0_ n1_ n2_ n3_ n4_ n5_ n6_ n7_ n8_ n9_ n10_ n11_ n12_ n13_ n14_ n15_ n16_
  (try clear hb)
  (try clear hb2)
  (try clear hk)
  (try clear hi)
  refine hK.out _ _ ⟨(blk_cell BK337.out 0).trans rfl, (blk_cell BK337.out 1).trans rfl, (blk_cell BK337.out 2).trans rfl, (blk_cell BK337.out 3).trans rfl, (blk_cell BK337.out 4).trans rfl, (blk_cell BK337.out 5).trans rfl, (blk_cell BK337.out 6).trans rfl, (blk_cell BK337.out 7).trans rfl, (blk_cell BK355.out 0).trans rfl, (blk_cell BK355.out 1).trans rfl, (blk_cell BK355.out 2).trans rfl, (blk_cell BK355.out 3).trans rfl, (blk_cell BK355.out 4).trans rfl, (blk_cell BK355.out 5).trans rfl, (blk_cell BK355.out 6).trans rfl, (blk_cell BK355.out 7).trans rfl, (blk_cell BK313.out 0).trans rfl, (blk_cell BK313.out 1).trans rfl, (blk_cell BK313.out 2).trans rfl, (blk_cell BK313.out 3).trans rfl, (blk_cell BK313.out 4).trans rfl, (blk_cell BK313.out 5).trans rfl, (blk_cell BK313.out 6).trans rfl, (blk_cell BK313.out 7).trans rfl⟩ (fun hHeld => ?_)
  clear hK K
  refine norm_ (a' := ?_) ?_ ?_
  rotate_left
  ·
   show Act.put _ (some 118) _ = _
   simp only [Act.put, Zs]
   rfl
  refine one_ (i := 46) (N := some 121) #[true, true, true, true, true, true, true, true, true, true, true, true, true, true, true, true, true, true, true, true, true, true, true, true, true, true, true, true, true, true, true, true, true, true, true, true, true, true, true, true, true, true, true, true, true, true, true, false, false, false, false, false, false, false, false] rfl rfl (one_of HT_.out (by kernel_rfl)) (by decide) (fun K hK => ?_)
  refine goes_ Try.func59 (by kernel_rfl) rfl #[.slice A0 l0.length c0, .agg #[.int .i64 t338, .int .i64 t339, .slice Ao54 t340.length co54, .slice Ao55 t343.length co55, .int .i64 t346, .int .i64 t347, .slice Ao56 t348.length co56, .slice Ao57 t351.length co57]] (by rfl) rfl rfl Z1 ?_
  with_reducible refine (thrumref10_Near.calls kj7 _ _ l0 t338 t339 _ _ t340 _ _ t343 t346 t347 _ _ t348 _ _ t351 t378 _ ?side1 ?side2 ?side3 ?side4 ?side5 ?side6 ?side7 ?side8 ?side9 ?side10 A37.out).mono ?_
  (case side1 => exact Z17)
  (case side2 => exact HC0.out)
  (case side3 => exact Z53)
  (case side4 => exact (Kd.R_reads' HO342.out).2.1)
  (case side5 => exact Z54)
  (case side6 => exact (Kd.R_reads' HO345.out).2.1)
  (case side7 => exact Z55)
  (case side8 => exact (Kd.R_reads' HO350.out).2.1)
  (case side9 => exact Z56)
  (case side10 => exact (Kd.R_reads' HO353.out).2.1)
  rintro e w75 ⟨rfl, hb⟩
  refine ⟨_, rfl, ?_⟩
  have n0_ := ZM (Kd.R_below (Zr HO319) hb)
  have n1_ := ZM (Kd.R_below (Zr HO324) hb)
  have n2_ := ZM (Kd.R_below (Zr HO327) hb)
  have n3_ := ZM (Kd.R_below (Zr HO332) hb)
  have n4_ := ZM (Kd.R_below (Zr HO335) hb)
  have n5_ := ZM (Kd.R_below (Zr HO342) hb)
  have n6_ := ZM (Kd.R_below (Zr HO345) hb)
  have n7_ := ZM (Kd.R_below (Zr HO350) hb)
  have n8_ := ZM (Kd.R_below (Zr HO353) hb)
  have n9_ := ZM (Kd.R_below (Zr HO358) hb)
  have n10_ := ZM (Kd.R_below (Zr HO362) hb)
  have n11_ := ZM (Kd.R_below (Zr HO366) hb)
  have n12_ := ZM (Kd.R_below (Zr HO370) hb)
  have n13_ := ZM (blk_below (g := gb313) (o := .cells #[.int .i64 a4_0, .int .i64 a4_1, .slice A4_2 l4_2.length c4_2, .slice A4_3 l4_3.length c4_3, .int .i64 a4_4, .int .i64 a4_5, .slice A4_6 l4_6.length c4_6, .slice A4_7 l4_7.length c4_7] 30 (0, 0)) (Zk BK313) hb)
  have n14_ := ZM (blk_below (g := gb337) (o := .cells #[.int .i64 t320, .int .i64 t321, .slice Ao45 t322.length co45, .slice Ao46 t325.length co46, .int .i64 t328, .int .i64 t329, .slice Ao47 t330.length co47, .slice Ao48 t333.length co48] 30 (0, 0)) (Zk BK337) hb)
  have n15_ := ZM (blk_below (g := gb355) (o := .cells #[.int .i64 t338, .int .i64 t339, .slice Ao54 t340.length co54, .slice Ao55 t343.length co55, .int .i64 t346, .int .i64 t347, .slice Ao56 t348.length co56, .slice Ao57 t351.length co57] 30 (0, 0)) (Zk BK355) hb)
  have n16_ := ZM (zzT Z6 hb)
  clear HO319
  clear HO324
  clear HO327
  clear HO332
  clear HO335
  clear HO342
  clear HO345
  clear HO350
  clear HO353
  clear HO358
  clear HO362
  clear HO366
  clear HO370
  clear BK313
  clear BK337
  clear BK355
  clear HB
  have HO319 := n0_
  have HO324 := n1_
  have HO327 := n2_
  have HO332 := n3_
  have HO335 := n4_
  have HO342 := n5_
  have HO345 := n6_
  have HO350 := n7_
  have HO353 := n8_
  have HO358 := n9_
  have HO362 := n10_
  have HO366 := n11_
  have HO370 := n12_
  have BK313 := n13_
  have BK337 := n14_
  have BK355 := n15_
  have HB := n16_
  clear n0_ n1_ n2_ n3_ n4_ n5_ n6_ n7_ n8_ n9_ n10_ n11_ n12_ n13_ n14_ n15_ n16_
  (try clear hb)
  (try clear hb2)
  (try clear hk)
  (try clear hi)
  obtain ⟨Ao76, co76, eo76⟩ := Kd.R_slice HO319.out
  (first | subst eo76 | (injection eo76 with f1_ f2_ f3_; have f4_ := f1_.symm; have f5_ := f3_.symm; clear f1_ f2_ f3_; subst f4_; subst f5_))
  refine hK.out _ _ ⟨(blk_cell BK337.out 0).trans rfl, (blk_cell BK337.out 1).trans rfl, (blk_cell BK337.out 2).trans rfl, (blk_cell BK337.out 3).trans rfl, (blk_cell BK337.out 4).trans rfl, (blk_cell BK337.out 5).trans rfl, (blk_cell BK337.out 6).trans rfl, (blk_cell BK337.out 7).trans rfl, (blk_cell BK355.out 0).trans rfl, (blk_cell BK355.out 1).trans rfl, (blk_cell BK355.out 2).trans rfl, (blk_cell BK355.out 3).trans rfl, (blk_cell BK355.out 4).trans rfl, (blk_cell BK355.out 5).trans rfl, (blk_cell BK355.out 6).trans rfl, (blk_cell BK355.out 7).trans rfl, (blk_cell BK313.out 0).trans rfl, (blk_cell BK313.out 1).trans rfl, (blk_cell BK313.out 2).trans rfl, (blk_cell BK313.out 3).trans rfl, (blk_cell BK313.out 4).trans rfl, (blk_cell BK313.out 5).trans rfl, (blk_cell BK313.out 6).trans rfl, (blk_cell BK313.out 7).trans rfl⟩ (fun hHeld => ?_)
  clear hK K
  refine norm_ (a' := ?_) ?_ ?_
  rotate_left
  ·
   show Act.put _ (some 121) _ = _
   simp only [Act.put, Zs]
   rfl
  refine pure_ (i := 47) (N := some 122) (v := ?_) (a' := ?_) #[true, true, true, true, true, true, true, true, true, true, true, true, true, true, true, true, true, true, true, true, true, true, true, true, true, true, true, true, true, true, true, true, true, true, true, true, true, true, true, true, true, true, true, true, true, true, true, true, false, false, false, false, false, false, false] rfl rfl (any_of HT_.out (by kernel_rfl)) (fun _ _ _ h => h) (Or.inl ⟨by rfl, ?_⟩) ?_ ?_
  rotate_left
  ·
   intro w'
   go_simp
   with_reducible rfl
  rotate_left
  ·
   simp only [Act.put, Zs]
   rfl
  refine pure_ (i := 48) (N := some 123) (v := ?_) (a' := ?_) #[true, true, true, true, true, true, true, true, true, true, true, true, true, true, true, true, true, true, true, true, true, true, true, true, true, true, true, true, true, true, true, true, true, true, true, true, true, true, true, true, true, true, true, true, true, true, true, true, true, false, false, false, false, false, false] rfl rfl (any_of HT_.out (by kernel_rfl)) (fun _ _ _ h => h) (Or.inl ⟨by rfl, ?_⟩) ?_ ?_
  rotate_left
  ·
   intro w'
   go_simp
   with_reducible rfl
  rotate_left
  ·
   simp only [Act.put, Zs]
   rfl
  refine pure_ (i := 49) (N := some 124) (v := ?_) (a' := ?_) #[true, true, true, true, true, true, true, true, true, true, true, true, true, true, true, true, true, true, true, true, true, true, true, true, true, true, true, true, true, true, true, true, true, true, true, true, true, true, true, true, true, true, true, true, true, true, true, true, true, true, false, false, false, false, false] rfl rfl (any_of HT_.out (by kernel_rfl)) (fun _ _ _ h => h) (Or.inl ⟨by rfl, ?_⟩) ?_ ?_
  rotate_left
  ·
   intro w'
   go_simp
   with_reducible rfl
  rotate_left
  ·
   simp only [Act.put, Zs]
   rfl
  refine pure_ (i := 50) (N := some 125) (v := ?_) (a' := ?_) #[true, true, true, true, true, true, true, true, true, true, true, true, true, true, true, true, true, true, true, true, true, true, true, true, true, true, true, true, true, true, true, true, true, true, true, true, true, true, true, true, true, true, true, true, true, true, true, true, true, true, true, false, false, false, false] rfl rfl (any_of HT_.out (by kernel_rfl)) (fun _ _ _ h => h) (Or.inl ⟨by rfl, ?_⟩) ?_ ?_
  rotate_left
  ·
   intro w'
   go_simp
   with_reducible rfl
  rotate_left
  ·
   simp only [Act.put, Zs]
   rfl
  refine pure_ (i := 51) (N := some 126) (v := ?_) (a' := ?_) #[true, true, true, true, true, true, true, true, true, true, true, true, true, true, true, true, true, true, true, true, true, true, true, true, true, true, true, true, true, true, true, true, true, true, true, true, true, true, true, true, true, true, true, true, true, true, true, true, true, true, true, true, false, false, false] rfl rfl (any_of HT_.out (by kernel_rfl)) (fun _ _ _ h => h) (Or.inl ⟨by rfl, ?_⟩) ?_ ?_
  rotate_left
  ·
   intro w'
   go_simp
   with_reducible rfl
  rotate_left
  ·
   simp only [Act.put, Zs]
   rfl
  refine one_ (i := 52) (N := some 127) #[true, true, true, true, true, true, true, true, true, true, true, true, true, true, true, true, true, true, true, true, true, true, true, true, true, true, true, true, true, true, true, true, true, true, true, true, true, true, true, true, true, true, true, true, true, true, true, true, true, true, true, true, true, false, false] rfl rfl (one_of HT_.out (by kernel_rfl)) (by decide) (fun K hK => ?_)
  refine goes_ Try.func57 (by kernel_rfl) rfl #[.slice A0 l0.length c0, .slice Ao76 y317.length co76] (by rfl) rfl rfl Z1 ?_
  with_reducible refine (thrumref02_Same.calls _ _ l0 _ _ y317 t379 _ ?side1 ?side2 ?side3 ?side4 A39.out).mono ?_
  (case side1 => exact Z17)
  (case side2 => exact HC0.out)
  (case side3 => repeat (first | exact (Kd.R_reads' HO319.out).2.2 | (with_reducible refine ccA ?_ _) | (with_reducible refine ccN ?_ _) | (with_reducible refine ccD ?_)))
  (case side4 => exact (Kd.R_reads' HO319.out).2.1)
  rintro e w' ⟨rfl, ⟨nd, rfl⟩⟩
  refine ⟨_, rfl, ?_⟩
  refine hK.out _ _ ⟨(blk_cell BK337.out 0).trans rfl, (blk_cell BK337.out 1).trans rfl, (blk_cell BK337.out 2).trans rfl, (blk_cell BK337.out 3).trans rfl, (blk_cell BK337.out 4).trans rfl, (blk_cell BK337.out 5).trans rfl, (blk_cell BK337.out 6).trans rfl, (blk_cell BK337.out 7).trans rfl, (blk_cell BK355.out 0).trans rfl, (blk_cell BK355.out 1).trans rfl, (blk_cell BK355.out 2).trans rfl, (blk_cell BK355.out 3).trans rfl, (blk_cell BK355.out 4).trans rfl, (blk_cell BK355.out 5).trans rfl, (blk_cell BK355.out 6).trans rfl, (blk_cell BK355.out 7).trans rfl, (blk_cell BK313.out 0).trans rfl, (blk_cell BK313.out 1).trans rfl, (blk_cell BK313.out 2).trans rfl, (blk_cell BK313.out 3).trans rfl, (blk_cell BK313.out 4).trans rfl, (blk_cell BK313.out 5).trans rfl, (blk_cell BK313.out 6).trans rfl, (blk_cell BK313.out 7).trans rfl⟩ (fun hHeld => ?_)
  clear hK K
  refine norm_ (a' := ?_) ?_ ?_
  rotate_left
  ·
   show Act.put _ (some 127) _ = _
   simp only [Act.put, Zs]
   rfl
  refine pure_ (i := 53) (N := some 128) (v := ?_) (a' := ?_) #[true, true, true, true, true, true, true, true, true, true, true, true, true, true, true, true, true, true, true, true, true, true, true, true, true, true, true, true, true, true, true, true, true, true, true, true, true, true, true, true, true, true, true, true, true, true, true, true, true, true, true, true, true, true, false] rfl rfl (any_of HT_.out (by kernel_rfl)) (fun _ _ _ h => h) (Or.inl ⟨by rfl, ?_⟩) ?_ ?_
  rotate_left
  ·
   intro w'
   go_simp
   with_reducible rfl
  rotate_left
  ·
   simp only [Act.put, Zs]
   rfl
  refine pure_ (i := 54) (N := some 10) (v := ?_) (a' := ?_) #[true, true, true, true, true, true, true, true, true, true, true, true, true, true, true, true, true, true, true, true, true, true, true, true, true, true, true, true, true, true, true, true, true, true, true, true, true, true, true, true, true, true, true, true, true, true, true, true, true, true, true, true, true, true, true] rfl rfl (any_of HT_.out (by kernel_rfl)) (fun _ _ _ h => h) (Or.inl ⟨by rfl, ?_⟩) ?_ ?_
  rotate_left
  ·
   intro w'
   go_simp
   with_reducible rfl
  rotate_left
  ·
   simp only [Act.put, Zs]
   rfl
  refine done_ (done_of HT_.out (by kernel_rfl)) ?_
  try go_wp2
  go_ret
  exact ⟨by first | rfl | (simp [errW_none, errW_some] <;> rfl) | (simp [*, errW_none, errW_some] <;> rfl), by repeat (first | (with_reducible first | exact HB.out | apply zzA | apply zzN | apply zzD | refine below_set ?_ GE313.out | refine below_set ?_ GE337.out | refine below_set ?_ GE355.out) | exact HB.out)⟩
/-- THE ONE PURE STATEMENT of thrumlaw10_QuantPresses: yours. -/
def thrumlaw10_QuantPresses.Pure : Prop := ∀ (l0 : List Int) (a1 : Int) (a2 : Int) (l3 : List Int) (a4_0 : Int) (a4_1 : Int) (l4_2 : List Int) (l4_3 : List Int) (a4_4 : Int) (a4_5 : Int) (l4_6 : List Int) (l4_7 : List Bool), l0.length ≤ maxLen → l0.length * 8 ≤ 140737488351232 → (∀ x ∈ l0, (Lit.int .i64 x).wf = true) → (Lit.int .i64 a1).wf = true → (Lit.int .u64 a2).wf = true → l3.length ≤ maxLen → l3.length * 8 ≤ 140737488351232 → (∀ x ∈ l3, (Lit.int .i64 x).wf = true) → (Lit.int .i64 a4_0).wf = true → (Lit.int .i64 a4_1).wf = true → (l4_2.length ≤ maxLen ∧ ∀ x__ ∈ l4_2, (Lit.int .i64 x__).wf = true) → (l4_3.length ≤ maxLen ∧ ∀ x__ ∈ l4_3, (Lit.int .i64 x__).wf = true) → (Lit.int .i64 a4_4).wf = true → (Lit.int .i64 a4_5).wf = true → (l4_6.length ≤ maxLen ∧ ∀ x__ ∈ l4_6, (Lit.int .u64 x__).wf = true) → (l4_7.length ≤ maxLen ∧ ∀ x__ ∈ l4_7, True) → ∃ k, thrumlaw10_QuantPresses.f k l0 a1 a2 l3 a4_0 a4_1 l4_2 l4_3 a4_4 a4_5 l4_6 l4_7 = some true
theorem thrumlaw10_QuantPresses.walk (P : thrumlaw10_QuantPresses.Pure) (a0 : Option Addr) (len0 cap0 : Nat) (z0 : List Int) (a1 : Int) (a2 : Int) (a3 : Option Addr) (len3 cap3 : Nat) (z3 : List Int) (a4_0 : Int) (a4_1 : Int) (A4_2 : Option Addr) (c4_2 : Nat) (l4_2 : List Int) (A4_3 : Option Addr) (c4_3 : Nat) (l4_3 : List Int) (a4_4 : Int) (a4_5 : Int) (A4_6 : Option Addr) (c4_6 : Nat) (l4_6 : List Int) (A4_7 : Option Addr) (c4_7 : Nat) (l4_7 : List Bool) (w : World) (w0 : (a0 = none ∧ len0 = 0 ∧ cap0 = 0 ∧ z0 = []) ∨ ∃ x, a0 = some x ∧ len0 ≤ cap0 ∧ cap0 ≤ maxLen ∧ z0.length = cap0 ∧ (∀ i, i < z0.length → w.cell? (x.add i) = some (.int .i64 (z0.getD i 0))) ∧ ∀ n ∈ z0, (Lit.int .i64 n).wf = true) (y0 : len0 * 8 ≤ 140737488351232) (w1 : (Lit.int .i64 a1).wf = true) (w2 : (Lit.int .u64 a2).wf = true) (w3 : (a3 = none ∧ len3 = 0 ∧ cap3 = 0 ∧ z3 = []) ∨ ∃ x, a3 = some x ∧ len3 ≤ cap3 ∧ cap3 ≤ maxLen ∧ z3.length = cap3 ∧ (∀ i, i < z3.length → w.cell? (x.add i) = some (.int .i64 (z3.getD i 0))) ∧ ∀ n ∈ z3, (Lit.int .i64 n).wf = true) (y3 : len3 * 8 ≤ 140737488351232) (w4_0 : (Lit.int .i64 a4_0).wf = true) (w4_1 : (Lit.int .i64 a4_1).wf = true) (hr4_2 : Kd.C (Kd.int .i64) w A4_2 l4_2.length l4_2) (hc4_2 : l4_2.length ≤ c4_2) (hg4_2 : (l4_2.length ≤ maxLen ∧ ∀ x__ ∈ l4_2, (Lit.int .i64 x__).wf = true)) (hr4_3 : Kd.C (Kd.int .i64) w A4_3 l4_3.length l4_3) (hc4_3 : l4_3.length ≤ c4_3) (hg4_3 : (l4_3.length ≤ maxLen ∧ ∀ x__ ∈ l4_3, (Lit.int .i64 x__).wf = true)) (w4_4 : (Lit.int .i64 a4_4).wf = true) (w4_5 : (Lit.int .i64 a4_5).wf = true) (hr4_6 : Kd.C (Kd.int .u64) w A4_6 l4_6.length l4_6) (hc4_6 : l4_6.length ≤ c4_6) (hg4_6 : (l4_6.length ≤ maxLen ∧ ∀ x__ ∈ l4_6, (Lit.int .u64 x__).wf = true)) (hr4_7 : Kd.C Kd.bool w A4_7 l4_7.length l4_7) (hc4_7 : l4_7.length ≤ c4_7) (hg4_7 : (l4_7.length ≤ maxLen ∧ ∀ x__ ∈ l4_7, True)) :
  Calls Try.prog 11 #[.slice a0 len0 cap0, .int .i64 a1, .int .u64 a2, .slice a3 len3 cap3, .agg #[.int .i64 a4_0, .int .i64 a4_1, .slice A4_2 l4_2.length c4_2, .slice A4_3 l4_3.length c4_3, .int .i64 a4_4, .int .i64 a4_5, .slice A4_6 l4_6.length c4_6, .slice A4_7 l4_7.length c4_7]] w fun e w' => e = .returned (.bool true) ∧ Below w.heap.size w w' := by
 obtain ⟨l0, rfl, hr0, hm0, hw0, hc0⟩ := ReadsInt.ofRowC w0
 obtain ⟨l3, rfl, hr3, hm3, hw3, hc3⟩ := ReadsInt.ofRowC w3
 obtain ⟨k, h⟩ := P l0 a1 a2 l3 a4_0 a4_1 l4_2 l4_3 a4_4 a4_5 l4_6 l4_7 hm0 y0 hw0 w1 w2 hm3 y3 hw3 w4_0 w4_1 hg4_2 hg4_3 w4_4 w4_5 hg4_6 hg4_7
 refine (thrumlaw10_QuantPresses.calls k _ _ l0 a1 a2 _ _ l3 a4_0 a4_1 _ _ l4_2 _ _ l4_3 a4_4 a4_5 _ _ l4_6 _ _ l4_7 true w (Kd.C_of_reads (d := (0 : Int)) (h1 := fun _ => rfl) hr0) hc0 (Kd.C_of_reads (d := (0 : Int)) (h1 := fun _ => rfl) hr3) hc3 hr4_2 hc4_2 hr4_3 hc4_3 hr4_6 hc4_6 hr4_7 hc4_7 h rfl).mono ?_
 rintro e w' ⟨rfl, hd⟩
 exact ⟨rfl, hd⟩















































































































































































































































































































































































































































































































































































































































































































































































































































































































































end Go.Proofs.Ytkfhdpnfcaghbaa.HQ
