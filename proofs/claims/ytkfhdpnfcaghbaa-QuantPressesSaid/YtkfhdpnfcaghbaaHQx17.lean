/- What Go functions do, each as a plain Lean function with the same answers, and the proof of it, in every world: printed by the session's driver over the kit's print, with texts by hand. -/
import Derived.Test.YtkfhdpnfcaghbaaHQx0
import Derived.Test.YtkfhdpnfcaghbaaHQx11
import Derived.Test.YtkfhdpnfcaghbaaHQx12
import Derived.Test.YtkfhdpnfcaghbaaHQx15
import Derived.Test.YtkfhdpnfcaghbaaMini
namespace Go.Proofs.Ytkfhdpnfcaghbaa.HQ
open Go.RowKit Go.Proofs.YtkfhdpnfcaghbaaW.PrintWords Go.Proofs.YtkfhdpnfcaghbaaW.PrintLast Go.Proofs.YtkfhdpnfcaghbaaW.PrintMore
attribute [local go_sem] max2_int min2_int max_two min_two max_three min_three max_four min_four   -- for this text's walks alone
open Go.Proofs.Ytkfhdpnfcaghbaa.Sp
attribute [local go_sem] Go.Proofs.Ytkfhdpnfcaghbaa.Sp.u64_not
set_option linter.unusedVariables false
set_option linter.unusedSimpArgs false

/-! ### thrumref10_Near: function 59 -/
mutual
def thrumref10_Near.j0 : Nat → List Int → Int → Bool → Int → Int → List Int → List Int → Int → Int → List Int → List Bool → Option (Bool)
 | 0, _, _, _, _, _, _, _, _, _, _, _ => none
 | k + 1, x0, x5, x41, x303000, x303001, x303002, x303003, x303004, x303005, x303006, x303007 => if x41 = true then (some false) else (thrumref10_Near.l0 k x5 x0 (x0.length : Int) 0 x303000 x303001 x303002 x303003 x303004 x303005 x303006 x303007)
def thrumref10_Near.l0 : Nat → Int → List Int → Int → Int → Int → Int → List Int → List Int → Int → Int → List Int → List Bool → Option (Bool)
 | 0, _, _, _, _, _, _, _, _, _, _, _, _ => none
 | k + 1, x5, x42, x43, x44, x303000, x303001, x303002, x303003, x303004, x303005, x303006, x303007 => if x44 < x43 then (if 0 ≤ x44 then (if x44 < (x42.length : Int) then ((thrumref10_Level.f (rd x42 x44) x5 x303005).bind fun bt307 => (if x44 < (x303007.length : Int) then (if ((rdOf false x303007 x44) != (decide ((rd x42 x44) < 0))) = true then (some false) else (if x44 < (x303006.length : Int) then (if (rd x303006 x44) = bt307.1 then (thrumref10_Near.l0 k x5 x42 x43 (wrap64 (x44 + 1)) x303000 x303001 x303002 x303003 x303004 x303005 x303006 x303007) else (if bt307.2.1 = 0 then (some false) else (if (rd x303006 x44) = (IntKind.u64.wrap (bt307.1 + 1)) then (thrumref10_Near.l0 k x5 x42 x43 (wrap64 (x44 + 1)) x303000 x303001 x303002 x303003 x303004 x303005 x303006 x303007) else (some false)))) else (none))) else (none))) else (none)) else (none)) else (some true)
end
def thrumref10_Near.f (k : Nat) (l0 : List Int) (a1_0 : Int) (a1_1 : Int) (l1_2 : List Int) (l1_3 : List Int) (a1_4 : Int) (a1_5 : Int) (l1_6 : List Int) (l1_7 : List Bool) : Option (Bool) := (thrumref02_Most.f l0).bind fun bt303 => (if bt303.2 = 0 then ((thrumref07_May.f a1_0 a1_1 l1_2 l1_3 a1_4 a1_5 l1_6 l1_7).bind fun t305 => (if t305 = true then (if a1_0 = 2 then (if a1_1 = (l0.length : Int) then (thrumref10_Near.j0 k l0 bt303.1 (a1_4 != bt303.1) a1_0 a1_1 l1_2 l1_3 a1_4 a1_5 l1_6 l1_7) else (thrumref10_Near.j0 k l0 bt303.1 true a1_0 a1_1 l1_2 l1_3 a1_4 a1_5 l1_6 l1_7)) else (thrumref10_Near.j0 k l0 bt303.1 true a1_0 a1_1 l1_2 l1_3 a1_4 a1_5 l1_6 l1_7)) else (thrumref10_Near.j0 k l0 bt303.1 true a1_0 a1_1 l1_2 l1_3 a1_4 a1_5 l1_6 l1_7))) else (thrumref10_Near.j0 k l0 bt303.1 true a1_0 a1_1 l1_2 l1_3 a1_4 a1_5 l1_6 l1_7))
theorem thrumref10_Near.mono_l : ∀ k, (∀ y0 y1 y2 y3 y4 y5 y6 y7 y8 y9 y10, LeO (thrumref10_Near.j0 k y0 y1 y2 y3 y4 y5 y6 y7 y8 y9 y10) (thrumref10_Near.j0 (k + 1) y0 y1 y2 y3 y4 y5 y6 y7 y8 y9 y10)) ∧ (∀ y0 y1 y2 y3 y4 y5 y6 y7 y8 y9 y10 y11, LeO (thrumref10_Near.l0 k y0 y1 y2 y3 y4 y5 y6 y7 y8 y9 y10 y11) (thrumref10_Near.l0 (k + 1) y0 y1 y2 y3 y4 y5 y6 y7 y8 y9 y10 y11))
 | 0 => ⟨fun _ _ _ _ _ _ _ _ _ _ _ r h => by simp [thrumref10_Near.j0] at h, fun _ _ _ _ _ _ _ _ _ _ _ _ r h => by simp [thrumref10_Near.l0] at h⟩
 | k + 1 => by
  obtain ⟨ih0, ih1⟩ := thrumref10_Near.mono_l k
  refine ⟨?_, ?_⟩
  ·
   intro y0 y1 y2 y3 y4 y5 y6 y7 y8 y9 y10
   unfold thrumref10_Near.j0
   repeat' first
   | (with_reducible exact ih0 _ _ _ _ _ _ _ _ _ _ _)
   | (with_reducible exact ih1 _ _ _ _ _ _ _ _ _ _ _ _)
   | (with_reducible exact LeO.refl _)
   | (with_reducible exact LeO.none _)
   | (with_reducible refine LeO.ite ?_ ?_)
   | (with_reducible refine LeO.bind ?_ (fun _ => ?_))
  ·
   intro y0 y1 y2 y3 y4 y5 y6 y7 y8 y9 y10 y11
   unfold thrumref10_Near.l0
   repeat' first
   | (with_reducible exact ih0 _ _ _ _ _ _ _ _ _ _ _)
   | (with_reducible exact ih1 _ _ _ _ _ _ _ _ _ _ _ _)
   | (with_reducible exact LeO.refl _)
   | (with_reducible exact LeO.none _)
   | (with_reducible refine LeO.ite ?_ ?_)
   | (with_reducible refine LeO.bind ?_ (fun _ => ?_))
theorem thrumref10_Near.mono : ∀ a0 a1 a2 a3 a4 a5 a6 a7 a8 k, LeO (thrumref10_Near.f k a0 a1 a2 a3 a4 a5 a6 a7 a8) (thrumref10_Near.f (k + 1) a0 a1 a2 a3 a4 a5 a6 a7 a8) := by
 intro a0 a1 a2 a3 a4 a5 a6 a7 a8 k
 obtain ⟨ih0, ih1⟩ := thrumref10_Near.mono_l k
 unfold thrumref10_Near.f
 repeat' first
   | (with_reducible exact ih0 _ _ _ _ _ _ _ _ _ _ _)
   | (with_reducible exact ih1 _ _ _ _ _ _ _ _ _ _ _ _)
   | (with_reducible exact LeO.refl _)
   | (with_reducible exact LeO.none _)
   | (with_reducible refine LeO.ite ?_ ?_)
   | (with_reducible refine LeO.bind ?_ (fun _ => ?_))
set_option maxHeartbeats 8000000 in
set_option maxRecDepth 100000 in
theorem thrumref10_Near.calls (k : Nat) (A0 : Option Addr) (c0 : Nat) (l0 : List Int) (a1_0 : Int) (a1_1 : Int) (A1_2 : Option Addr) (c1_2 : Nat) (l1_2 : List Int) (A1_3 : Option Addr) (c1_3 : Nat) (l1_3 : List Int) (a1_4 : Int) (a1_5 : Int) (A1_6 : Option Addr) (c1_6 : Nat) (l1_6 : List Int) (A1_7 : Option Addr) (c1_7 : Nat) (l1_7 : List Bool) (r : Bool) (w : World) (hr0 : Kd.C (Kd.int .i64) w A0 l0.length l0) (hc0 : l0.length ≤ c0) (hr1_2 : Kd.C (Kd.int .i64) w A1_2 l1_2.length l1_2) (hc1_2 : l1_2.length ≤ c1_2) (hr1_3 : Kd.C (Kd.int .i64) w A1_3 l1_3.length l1_3) (hc1_3 : l1_3.length ≤ c1_3) (hr1_6 : Kd.C (Kd.int .u64) w A1_6 l1_6.length l1_6) (hc1_6 : l1_6.length ≤ c1_6) (hr1_7 : Kd.C Kd.bool w A1_7 l1_7.length l1_7) (hc1_7 : l1_7.length ≤ c1_7) (h : thrumref10_Near.f k l0 a1_0 a1_1 l1_2 l1_3 a1_4 a1_5 l1_6 l1_7 = some r) :
  Calls Try.prog 59 #[.slice A0 l0.length c0, .agg #[.int .i64 a1_0, .int .i64 a1_1, .slice A1_2 l1_2.length c1_2, .slice A1_3 l1_3.length c1_3, .int .i64 a1_4, .int .i64 a1_5, .slice A1_6 l1_6.length c1_6, .slice A1_7 l1_7.length c1_7]] w fun e w' => e = .returned (.bool r) ∧ Below w.heap.size w w' := by
 have hu30 := Try.underlying30
 have HR0 := ZM hr0
 have HC0 := ZM hc0
 clear hr0 hc0
 have HR1_2 := ZM hr1_2
 have HC1_2 := ZM hc1_2
 clear hr1_2 hc1_2
 have HR1_3 := ZM hr1_3
 have HC1_3 := ZM hc1_3
 clear hr1_3 hc1_3
 have HR1_6 := ZM hr1_6
 have HC1_6 := ZM hc1_6
 clear hr1_6 hc1_6
 have HR1_7 := ZM hr1_7
 have HC1_7 := ZM hc1_7
 clear hr1_7 hc1_7
 have HB := ZM (Below.refl w.heap.size w)
 have H : ((thrumref02_Most.f l0).bind fun bt303 => (if bt303.2 = 0 then ((thrumref07_May.f a1_0 a1_1 l1_2 l1_3 a1_4 a1_5 l1_6 l1_7).bind fun t305 => (if t305 = true then (if a1_0 = 2 then (if a1_1 = (l0.length : Int) then (thrumref10_Near.j0 k l0 bt303.1 (a1_4 != bt303.1) a1_0 a1_1 l1_2 l1_3 a1_4 a1_5 l1_6 l1_7) else (thrumref10_Near.j0 k l0 bt303.1 true a1_0 a1_1 l1_2 l1_3 a1_4 a1_5 l1_6 l1_7)) else (thrumref10_Near.j0 k l0 bt303.1 true a1_0 a1_1 l1_2 l1_3 a1_4 a1_5 l1_6 l1_7)) else (thrumref10_Near.j0 k l0 bt303.1 true a1_0 a1_1 l1_2 l1_3 a1_4 a1_5 l1_6 l1_7))) else (thrumref10_Near.j0 k l0 bt303.1 true a1_0 a1_1 l1_2 l1_3 a1_4 a1_5 l1_6 l1_7))) = some r := h
 clear h
 replace H := Option.bind_eq_some_iff.mp H
 obtain ⟨⟨t303, t304⟩, A30, H⟩ := H
 replace H : (if t304 = 0 then ((thrumref07_May.f a1_0 a1_1 l1_2 l1_3 a1_4 a1_5 l1_6 l1_7).bind fun t305 => (if t305 = true then (if a1_0 = 2 then (if a1_1 = (l0.length : Int) then (thrumref10_Near.j0 k l0 t303 (a1_4 != t303) a1_0 a1_1 l1_2 l1_3 a1_4 a1_5 l1_6 l1_7) else (thrumref10_Near.j0 k l0 t303 true a1_0 a1_1 l1_2 l1_3 a1_4 a1_5 l1_6 l1_7)) else (thrumref10_Near.j0 k l0 t303 true a1_0 a1_1 l1_2 l1_3 a1_4 a1_5 l1_6 l1_7)) else (thrumref10_Near.j0 k l0 t303 true a1_0 a1_1 l1_2 l1_3 a1_4 a1_5 l1_6 l1_7))) else (thrumref10_Near.j0 k l0 t303 true a1_0 a1_1 l1_2 l1_3 a1_4 a1_5 l1_6 l1_7)) = some r := H
 have A3 := ZM A30
 clear A30
 have HC4 := ZM H
 clear H
 go_enter Try.func59, Try.ntmps59
 go_upto_region 2 with (first | ((with_reducible refine gate_dst (N := 3) rfl ?_); (try (refine gate_guard (by rfl) ?_; dsimp only)); refine box_event ?hg (N := 3) ?hd (cs := #[.int .i64 a1_0, .int .i64 a1_1, .slice A1_2 l1_2.length c1_2, .slice A1_3 l1_3.length c1_3, .int .i64 a1_4, .int .i64 a1_5, .slice A1_6 l1_6.length c1_6, .slice A1_7 l1_7.length c1_7]) (t := 30) ?hr ?_; (case hd => rfl); (case hg => rfl); (case hr => exact Z12); intro gb302 hg w5 hbox hb; have BK302 := ZM (hbox); have GW302 := ZM ((by rw [hg]; exact (zzS Z3) : w.heap.size ≤ gb302)); have GE302 := ZM ((by rw [hg]; exact (zzS Z3) : w.heap.size ≤ gb302)); replace HB := ZM (zzT Z3 hb); clear hb hbox hg) | ((with_reducible refine gate_callee (f := 91) rfl ?_); refine goesL_ (some 14) rfl rfl Try.func91 (by kernel_rfl) rfl #[.slice A0 l0.length c0] rfl Z1 ?_; (with_reducible refine (thrumref02_Most.calls _ _ l0 t303 t304 _ ?side1 ?side2 A3.out).mono ?_); (case side1 => exact Z17); (case side2 => exact HC0.out); rintro e w6 ⟨rfl, hb⟩; refine ⟨_, rfl, ?_⟩; replace BK302 := ZM (blk_below (g := gb302) (o := .cells #[.int .i64 a1_0, .int .i64 a1_1, .slice A1_2 l1_2.length c1_2, .slice A1_3 l1_3.length c1_3, .int .i64 a1_4, .int .i64 a1_5, .slice A1_6 l1_6.length c1_6, .slice A1_7 l1_7.length c1_7] 30 (0, 0)) (Zk BK302) hb); replace HB := ZM (zzT Z39 hb); (try clear hb); (try clear hb2); (try clear hk); (try clear hi)))
 (try simp only [Act.put, Zt])
 go_cut [41] (fun v41 wc => ∃ (kq : Nat) (x41_3 : Bool), v41 = .bool x41_3 ∧ Aside0 (thrumref10_Near.j0 kq l0 t303 x41_3 a1_0 a1_1 l1_2 l1_3 a1_4 a1_5 l1_6 l1_7 = some r) ∧ Aside0 (kq ≤ k) ∧ Aside0 (wc.heap[gb302]? = some (.cells #[.int .i64 a1_0, .int .i64 a1_1, (.slice A1_2 l1_2.length c1_2), (.slice A1_3 l1_3.length c1_3), .int .i64 a1_4, .int .i64 a1_5, (.slice A1_6 l1_6.length c1_6), (.slice A1_7 l1_7.length c1_7)] 30 (0, 0))) ∧ Aside0 (Below w.heap.size w wc))
 case first =>
  have H := HC4.out
  clear HC4
  by_cases c7 : t304 = 0
  case neg =>
   rw [if_neg c7] at H
   have c7b0 : (t304 == 0) = false := beq_eq_false_iff_ne.mpr c7
   have c7b1 : (t304 != 0) = true := bne_iff_ne.mpr c7
   (first | rw [c7b0] | (simp only [i64_w, i32_w]; rw [c7b0]) | skip)
   have H' := ZM H
   clear H
   go_wp2
   go_meet
   case rel => exact ⟨_, (true), Z5, H', ⟨by first | omega | exact Nat.le_refl _⟩, ⟨by (with_reducible repeat (first | refine kkN ?_ _ | refine kkD ?_ | refine kkA ?_ _)); exact BK302.out⟩, ⟨by repeat (first | (with_reducible first | exact HB.out | apply zzA | apply zzN | apply zzD | refine below_set ?_ GE302.out) | exact HB.out)⟩⟩
  rw [if_pos c7] at H
  have c7b0 : (t304 == 0) = true := beq_iff_eq.mpr c7
  have c7b1 : (t304 != 0) = false := bne_eq_false_iff_eq.mpr c7
  clear c7
  (first | rw [c7b0] | (simp only [i64_w, i32_w]; rw [c7b0]) | skip)
  replace H := Option.bind_eq_some_iff.mp H
  obtain ⟨t305, A80, H⟩ := H
  replace H : (if t305 = true then (if a1_0 = 2 then (if a1_1 = (l0.length : Int) then (thrumref10_Near.j0 k l0 t303 (a1_4 != t303) a1_0 a1_1 l1_2 l1_3 a1_4 a1_5 l1_6 l1_7) else (thrumref10_Near.j0 k l0 t303 true a1_0 a1_1 l1_2 l1_3 a1_4 a1_5 l1_6 l1_7)) else (thrumref10_Near.j0 k l0 t303 true a1_0 a1_1 l1_2 l1_3 a1_4 a1_5 l1_6 l1_7)) else (thrumref10_Near.j0 k l0 t303 true a1_0 a1_1 l1_2 l1_3 a1_4 a1_5 l1_6 l1_7)) = some r := H
  have A8 := ZM A80
  clear A80
  by_cases c9 : t305 = true
  case neg =>
   replace c9 := Bool.eq_false_iff.mpr c9
   subst c9
   have H1 : (thrumref10_Near.j0 k l0 t303 true a1_0 a1_1 l1_2 l1_3 a1_4 a1_5 l1_6 l1_7) = some r := by rw [if_neg (show ¬ (false = true) by decide)] at H; exact H
   clear H
   have H := H1
   clear H1
   have H' := ZM H
   clear H
   obtain ⟨hcz21_0, hcz21_1, hcz21_2, hcz21_3, hcz21_4, hcz21_5, hcz21_6, hcz21_7, hfz21_0, hfz21_1, hfz21_2, hfz21_3, hfz21_4, hfz21_5, hfz21_6, hfz21_7⟩ := Y8f BK302
   go_wp2_with (first | (go_at_call 85; (with_reducible refine (thrumref07_May.calls a1_0 a1_1 _ _ l1_2 _ _ l1_3 a1_4 a1_5 _ _ l1_6 _ _ l1_7 false _ ?side1 ?side2 ?side3 ?side4 ?side5 ?side6 ?side7 ?side8 A8.out).mono ?_); (case side1 => exact Z19); (case side2 => exact HC1_2.out); (case side3 => exact Z43); (case side4 => exact HC1_3.out); (case side5 => exact Z44); (case side6 => exact HC1_6.out); (case side7 => exact Z45); (case side8 => exact HC1_7.out); rintro e w22 ⟨rfl, hb⟩; replace BK302 := ZM (blk_below (g := gb302) (o := .cells #[.int .i64 a1_0, .int .i64 a1_1, .slice A1_2 l1_2.length c1_2, .slice A1_3 l1_3.length c1_3, .int .i64 a1_4, .int .i64 a1_5, .slice A1_6 l1_6.length c1_6, .slice A1_7 l1_7.length c1_7] 30 (0, 0)) (Zk BK302) hb); replace HB := ZM (zzT Z39 hb); (try clear hb); (try clear hb2); (try clear hk); (try clear hi)))
   go_meet
   case rel => exact ⟨_, (true), Z5, H', ⟨by first | omega | exact Nat.le_refl _⟩, ⟨by (with_reducible repeat (first | refine kkN ?_ _ | refine kkD ?_ | refine kkA ?_ _)); exact BK302.out⟩, ⟨by repeat (first | (with_reducible first | exact HB.out | apply zzA | apply zzN | apply zzD | refine below_set ?_ GE302.out) | exact HB.out)⟩⟩
  subst c9
  have H1 : (if a1_0 = 2 then (if a1_1 = (l0.length : Int) then (thrumref10_Near.j0 k l0 t303 (a1_4 != t303) a1_0 a1_1 l1_2 l1_3 a1_4 a1_5 l1_6 l1_7) else (thrumref10_Near.j0 k l0 t303 true a1_0 a1_1 l1_2 l1_3 a1_4 a1_5 l1_6 l1_7)) else (thrumref10_Near.j0 k l0 t303 true a1_0 a1_1 l1_2 l1_3 a1_4 a1_5 l1_6 l1_7)) = some r := by rw [if_pos rfl] at H; exact H
  clear H
  have H := H1
  clear H1
  by_cases c10 : a1_0 = 2
  case neg =>
   rw [if_neg c10] at H
   have c10b0 : (a1_0 == 2) = false := beq_eq_false_iff_ne.mpr c10
   have c10b1 : (a1_0 != 2) = true := bne_iff_ne.mpr c10
   have H' := ZM H
   clear H
   obtain ⟨hcz18_0, hcz18_1, hcz18_2, hcz18_3, hcz18_4, hcz18_5, hcz18_6, hcz18_7, hfz18_0, hfz18_1, hfz18_2, hfz18_3, hfz18_4, hfz18_5, hfz18_6, hfz18_7⟩ := Y8f BK302
   go_wp2_with (first | (go_at_call 85; (with_reducible refine (thrumref07_May.calls a1_0 a1_1 _ _ l1_2 _ _ l1_3 a1_4 a1_5 _ _ l1_6 _ _ l1_7 true _ ?side1 ?side2 ?side3 ?side4 ?side5 ?side6 ?side7 ?side8 A8.out).mono ?_); (case side1 => exact Z19); (case side2 => exact HC1_2.out); (case side3 => exact Z43); (case side4 => exact HC1_3.out); (case side5 => exact Z44); (case side6 => exact HC1_6.out); (case side7 => exact Z45); (case side8 => exact HC1_7.out); rintro e w19 ⟨rfl, hb⟩; replace BK302 := ZM (blk_below (g := gb302) (o := .cells #[.int .i64 a1_0, .int .i64 a1_1, .slice A1_2 l1_2.length c1_2, .slice A1_3 l1_3.length c1_3, .int .i64 a1_4, .int .i64 a1_5, .slice A1_6 l1_6.length c1_6, .slice A1_7 l1_7.length c1_7] 30 (0, 0)) (Zk BK302) hb); replace HB := ZM (zzT Z39 hb); (try clear hb); (try clear hb2); (try clear hk); (try clear hi); obtain ⟨hcz20_0, hcz20_1, hcz20_2, hcz20_3, hcz20_4, hcz20_5, hcz20_6, hcz20_7, hfz20_0, hfz20_1, hfz20_2, hfz20_3, hfz20_4, hfz20_5, hfz20_6, hfz20_7⟩ := Y8f BK302))
   go_meet
   case rel => exact ⟨_, (true), Z5, H', ⟨by first | omega | exact Nat.le_refl _⟩, ⟨by (with_reducible repeat (first | refine kkN ?_ _ | refine kkD ?_ | refine kkA ?_ _)); exact BK302.out⟩, ⟨by repeat (first | (with_reducible first | exact HB.out | apply zzA | apply zzN | apply zzD | refine below_set ?_ GE302.out) | exact HB.out)⟩⟩
  rw [if_pos c10] at H
  have c10b0 : (a1_0 == 2) = true := beq_iff_eq.mpr c10
  have c10b1 : (a1_0 != 2) = false := bne_eq_false_iff_eq.mpr c10
  clear c10
  by_cases c11 : a1_1 = (l0.length : Int)
  case neg =>
   rw [if_neg c11] at H
   have c11b0 : (a1_1 == (l0.length : Int)) = false := beq_eq_false_iff_ne.mpr c11
   have c11b1 : (a1_1 != (l0.length : Int)) = true := bne_iff_ne.mpr c11
   have H' := ZM H
   clear H
   obtain ⟨hcz15_0, hcz15_1, hcz15_2, hcz15_3, hcz15_4, hcz15_5, hcz15_6, hcz15_7, hfz15_0, hfz15_1, hfz15_2, hfz15_3, hfz15_4, hfz15_5, hfz15_6, hfz15_7⟩ := Y8f BK302
   go_wp2_with (first | (go_at_call 85; (with_reducible refine (thrumref07_May.calls a1_0 a1_1 _ _ l1_2 _ _ l1_3 a1_4 a1_5 _ _ l1_6 _ _ l1_7 true _ ?side1 ?side2 ?side3 ?side4 ?side5 ?side6 ?side7 ?side8 A8.out).mono ?_); (case side1 => exact Z19); (case side2 => exact HC1_2.out); (case side3 => exact Z43); (case side4 => exact HC1_3.out); (case side5 => exact Z44); (case side6 => exact HC1_6.out); (case side7 => exact Z45); (case side8 => exact HC1_7.out); rintro e w16 ⟨rfl, hb⟩; replace BK302 := ZM (blk_below (g := gb302) (o := .cells #[.int .i64 a1_0, .int .i64 a1_1, .slice A1_2 l1_2.length c1_2, .slice A1_3 l1_3.length c1_3, .int .i64 a1_4, .int .i64 a1_5, .slice A1_6 l1_6.length c1_6, .slice A1_7 l1_7.length c1_7] 30 (0, 0)) (Zk BK302) hb); replace HB := ZM (zzT Z39 hb); (try clear hb); (try clear hb2); (try clear hk); (try clear hi); obtain ⟨hcz17_0, hcz17_1, hcz17_2, hcz17_3, hcz17_4, hcz17_5, hcz17_6, hcz17_7, hfz17_0, hfz17_1, hfz17_2, hfz17_3, hfz17_4, hfz17_5, hfz17_6, hfz17_7⟩ := Y8f BK302))
   go_meet
   case rel => exact ⟨_, (true), Z5, H', ⟨by first | omega | exact Nat.le_refl _⟩, ⟨by (with_reducible repeat (first | refine kkN ?_ _ | refine kkD ?_ | refine kkA ?_ _)); exact BK302.out⟩, ⟨by repeat (first | (with_reducible first | exact HB.out | apply zzA | apply zzN | apply zzD | refine below_set ?_ GE302.out) | exact HB.out)⟩⟩
  rw [if_pos c11] at H
  have c11b0 : (a1_1 == (l0.length : Int)) = true := beq_iff_eq.mpr c11
  have c11b1 : (a1_1 != (l0.length : Int)) = false := bne_eq_false_iff_eq.mpr c11
  clear c11
  have H' := ZM H
  clear H
  obtain ⟨hcz12_0, hcz12_1, hcz12_2, hcz12_3, hcz12_4, hcz12_5, hcz12_6, hcz12_7, hfz12_0, hfz12_1, hfz12_2, hfz12_3, hfz12_4, hfz12_5, hfz12_6, hfz12_7⟩ := Y8f BK302
  go_wp2_with (first | (go_at_call 85; (with_reducible refine (thrumref07_May.calls a1_0 a1_1 _ _ l1_2 _ _ l1_3 a1_4 a1_5 _ _ l1_6 _ _ l1_7 true _ ?side1 ?side2 ?side3 ?side4 ?side5 ?side6 ?side7 ?side8 A8.out).mono ?_); (case side1 => exact Z19); (case side2 => exact HC1_2.out); (case side3 => exact Z43); (case side4 => exact HC1_3.out); (case side5 => exact Z44); (case side6 => exact HC1_6.out); (case side7 => exact Z45); (case side8 => exact HC1_7.out); rintro e w13 ⟨rfl, hb⟩; replace BK302 := ZM (blk_below (g := gb302) (o := .cells #[.int .i64 a1_0, .int .i64 a1_1, .slice A1_2 l1_2.length c1_2, .slice A1_3 l1_3.length c1_3, .int .i64 a1_4, .int .i64 a1_5, .slice A1_6 l1_6.length c1_6, .slice A1_7 l1_7.length c1_7] 30 (0, 0)) (Zk BK302) hb); replace HB := ZM (zzT Z39 hb); (try clear hb); (try clear hb2); (try clear hk); (try clear hi); obtain ⟨hcz14_0, hcz14_1, hcz14_2, hcz14_3, hcz14_4, hcz14_5, hcz14_6, hcz14_7, hfz14_0, hfz14_1, hfz14_2, hfz14_3, hfz14_4, hfz14_5, hfz14_6, hfz14_7⟩ := Y8f BK302))
  go_meet
  case rel => exact ⟨_, ((a1_4 != t303)), Z5, H', ⟨by first | omega | exact Nat.le_refl _⟩, ⟨by (with_reducible repeat (first | refine kkN ?_ _ | refine kkD ?_ | refine kkA ?_ _)); exact BK302.out⟩, ⟨by repeat (first | (with_reducible first | exact HB.out | apply zzA | apply zzN | apply zzD | refine below_set ?_ GE302.out) | exact HB.out)⟩⟩
 clear HC4
 obtain ⟨kq, x41_3, rfl, HA, HJ3, BK302, HB⟩ := hcut
 cases kq with
 | zero => exact absurd HA.out (by simp [thrumref10_Near.j0])
 | succ kj3 =>
  have H := HA.out
  clear HA
  simp only [thrumref10_Near.j0] at H
  by_cases c23 : x41_3 = true
  ·
   subst c23
   have H1 : (some false) = some r := by rw [if_pos rfl] at H; exact H
   clear H
   have H := H1
   clear H1
   obtain rfl := Option.some.inj H
   go_wp2
   go_ret
   exact ⟨by first | rfl | (simp [errW_none, errW_some] <;> rfl) | (simp [*, errW_none, errW_some] <;> rfl), by repeat (first | (with_reducible first | exact HB.out | apply zzA | apply zzN | apply zzD | refine below_set ?_ GE302.out) | exact HB.out)⟩
  replace c23 := Bool.eq_false_iff.mpr c23
  subst c23
  have H1 : (thrumref10_Near.l0 kj3 t303 l0 (l0.length : Int) 0 a1_0 a1_1 l1_2 l1_3 a1_4 a1_5 l1_6 l1_7) = some r := by rw [if_neg (show ¬ (false = true) by decide)] at H; exact H
  clear H
  have H := H1
  clear H1
  have H' := ZM H
  clear H
  go_wp2
  go_loopg [44] kj3 (fun kq v44 w' => ∃ (x44_2 : Int), v44 = .int .i64 x44_2 ∧ Aside0 (thrumref10_Near.l0 kq t303 l0 (l0.length : Int) x44_2 a1_0 a1_1 l1_2 l1_3 a1_4 a1_5 l1_6 l1_7 = some r) ∧ Aside0 (kq ≤ kj3) ∧ Aside0 (w'.heap[gb302]? = some (.cells #[.int .i64 a1_0, .int .i64 a1_1, (.slice A1_2 l1_2.length c1_2), (.slice A1_3 l1_3.length c1_3), .int .i64 a1_4, .int .i64 a1_5, (.slice A1_6 l1_6.length c1_6), (.slice A1_7 l1_7.length c1_7)] 30 (0, 0))) ∧ Aside0 (Below w.heap.size w w'))
  case atStart => exact ⟨(0), Z5, H', ⟨Nat.le_refl _⟩, ⟨by (with_reducible repeat (first | refine kkN ?_ _ | refine kkD ?_ | refine kkA ?_ _)); exact BK302.out⟩, ⟨by repeat (first | (with_reducible first | exact HB.out | apply zzA | apply zzN | apply zzD | refine below_set ?_ GE302.out) | exact HB.out)⟩⟩
  case round =>
   clear H'
   try clear c23
   obtain ⟨x44_2, rfl, HA, HK2, BK302, HB⟩ := hrel
   cases gk with
   | zero => exact absurd HA.out (by simp [thrumref10_Near.l0])
   | succ k2 =>
    have H := HA.out
    clear HA
    simp only [thrumref10_Near.l0] at H
    by_cases c24 : x44_2 < (l0.length : Int)
    case neg =>
     rw [if_neg c24] at H
     have c24b0 : decide (x44_2 < (l0.length : Int)) = false := decide_eq_false c24
     clear c24
     obtain rfl := Option.some.inj H
     go_wp2
     go_ret
     exact ⟨by first | rfl | (simp [errW_none, errW_some] <;> rfl) | (simp [*, errW_none, errW_some] <;> rfl), by repeat (first | (with_reducible first | exact HB.out | apply zzA | apply zzN | apply zzD | refine below_set ?_ GE302.out) | exact HB.out)⟩
    rw [if_pos c24] at H
    have c24b0 : decide (x44_2 < (l0.length : Int)) = true := decide_eq_true c24
    clear c24
    by_cases c25 : 0 ≤ x44_2
    case neg =>
     rw [if_neg c25] at H
     exact absurd H (by simp)
    rw [if_pos c25] at H
    have c25b0 : decide (0 ≤ x44_2) = true := decide_eq_true c25
    clear c25
    by_cases c26 : x44_2 < (l0.length : Int)
    case neg =>
     rw [if_neg c26] at H
     exact absurd H (by simp)
    rw [if_pos c26] at H
    have c26b0 : decide (x44_2 < (l0.length : Int)) = true := decide_eq_true c26
    clear c26
    replace H := Option.bind_eq_some_iff.mp H
    obtain ⟨⟨t307, t308, t309⟩, A270, H⟩ := H
    replace H : (if x44_2 < (l1_7.length : Int) then (if ((rdOf false l1_7 x44_2) != (decide ((rd l0 x44_2) < 0))) = true then (some false) else (if x44_2 < (l1_6.length : Int) then (if (rd l1_6 x44_2) = t307 then (thrumref10_Near.l0 k2 t303 l0 (l0.length : Int) (wrap64 (x44_2 + 1)) a1_0 a1_1 l1_2 l1_3 a1_4 a1_5 l1_6 l1_7) else (if t308 = 0 then (some false) else (if (rd l1_6 x44_2) = (IntKind.u64.wrap (t307 + 1)) then (thrumref10_Near.l0 k2 t303 l0 (l0.length : Int) (wrap64 (x44_2 + 1)) a1_0 a1_1 l1_2 l1_3 a1_4 a1_5 l1_6 l1_7) else (some false)))) else (none))) else (none)) = some r := H
    have A27 := ZM A270
    clear A270
    by_cases c28 : x44_2 < (l1_7.length : Int)
    case neg =>
     rw [if_neg c28] at H
     exact absurd H (by simp)
    rw [if_pos c28] at H
    have c28b0 : decide (x44_2 < (l1_7.length : Int)) = true := decide_eq_true c28
    clear c28
    by_cases c29 : ((rdOf false l1_7 x44_2) != (decide ((rd l0 x44_2) < 0))) = true
    ·
     rw [if_pos c29] at H
     have c29b0 : ((rdOf false l1_7 x44_2) != (decide ((rd l0 x44_2) < 0))) = true := c29
     (try (have c29b1 : decide ((rdOf false l1_7 x44_2) = (decide ((rd l0 x44_2) < 0))) = false := by simpa using c29))
     (try (have c29b2 : ((rdOf false l1_7 x44_2) == (decide ((rd l0 x44_2) < 0))) = false := by simpa using c29))
     (try (have c29b3 : ¬ ((rdOf false l1_7 x44_2) = (decide ((rd l0 x44_2) < 0))) := by simpa using c29))
     clear c29
     obtain rfl := Option.some.inj H
     have p306 : 0 ≤ (x44_2 : Int) := of_decide_eq_true Z2
     have q306 : x44_2 < (l0.length : Int) := of_decide_eq_true Z2
     obtain ⟨ad306, e306, hx306_0⟩ := Kd.at_int HR0.out x44_2 p306 q306
     cases e306
     replace hx306_0 := (HB.out.cell (World.block_lt_of_cell? w _ hx306_0)).trans hx306_0
     replace p306 := eq_true p306
     replace q306 := eq_true q306
     obtain ⟨hcz30_0, hcz30_1, hcz30_2, hcz30_3, hcz30_4, hcz30_5, hcz30_6, hcz30_7, hfz30_0, hfz30_1, hfz30_2, hfz30_3, hfz30_4, hfz30_5, hfz30_6, hfz30_7⟩ := Y8f BK302
     go_wp2_with (first | ((with_reducible refine gate_callee (f := 48) rfl ?_); refine goesL_ (some 54) rfl rfl Try.func48 (by kernel_rfl) rfl #[.int .i64 (rd l0 x44_2), .int .i64 t303, .int .i64 a1_5] rfl Z1 ?_; (with_reducible refine (thrumref10_Level.calls (rd l0 x44_2) t303 a1_5 t307 t308 t309 _ A27.out).mono ?_); rintro e w' ⟨rfl, ⟨nd, rfl⟩⟩; refine ⟨_, rfl, ?_⟩; have p310 : 0 ≤ (x44_2 : Int) := of_decide_eq_true Z2; have q310 : x44_2 < (l1_7.length : Int) := of_decide_eq_true Z2; obtain ⟨ad310, e310, hx310_0⟩ := Kd.at_bool HR1_7.out x44_2 p310 q310; cases e310; replace hx310_0 := (HB.out.cell (World.block_lt_of_cell? w _ hx310_0)).trans hx310_0; replace p310 := eq_true p310; replace q310 := eq_true q310))
     go_ret
     exact ⟨by first | rfl | (simp [errW_none, errW_some] <;> rfl) | (simp [*, errW_none, errW_some] <;> rfl), by repeat (first | (with_reducible first | exact HB.out | apply zzA | apply zzN | apply zzD | refine below_set ?_ GE302.out) | exact HB.out)⟩
    rw [if_neg c29] at H
    have c29b0 : ((rdOf false l1_7 x44_2) != (decide ((rd l0 x44_2) < 0))) = false := by simpa using c29
    (try (have c29b1 : decide ((rdOf false l1_7 x44_2) = (decide ((rd l0 x44_2) < 0))) = true := by simpa using c29))
    (try (have c29b2 : ((rdOf false l1_7 x44_2) == (decide ((rd l0 x44_2) < 0))) = true := by simpa using c29))
    clear c29
    by_cases c31 : x44_2 < (l1_6.length : Int)
    case neg =>
     rw [if_neg c31] at H
     exact absurd H (by simp)
    rw [if_pos c31] at H
    have c31b0 : decide (x44_2 < (l1_6.length : Int)) = true := decide_eq_true c31
    clear c31
    by_cases c32 : (rd l1_6 x44_2) = t307
    ·
     rw [if_pos c32] at H
     have c32b0 : ((rd l1_6 x44_2) == t307) = true := beq_iff_eq.mpr c32
     have c32b1 : ((rd l1_6 x44_2) != t307) = false := bne_eq_false_iff_eq.mpr c32
     clear c32
     have H' := ZM H
     clear H
     have p306 : 0 ≤ (x44_2 : Int) := of_decide_eq_true Z2
     have q306 : x44_2 < (l0.length : Int) := of_decide_eq_true Z2
     obtain ⟨ad306, e306, hx306_0⟩ := Kd.at_int HR0.out x44_2 p306 q306
     cases e306
     replace hx306_0 := (HB.out.cell (World.block_lt_of_cell? w _ hx306_0)).trans hx306_0
     replace p306 := eq_true p306
     replace q306 := eq_true q306
     obtain ⟨hcz33_0, hcz33_1, hcz33_2, hcz33_3, hcz33_4, hcz33_5, hcz33_6, hcz33_7, hfz33_0, hfz33_1, hfz33_2, hfz33_3, hfz33_4, hfz33_5, hfz33_6, hfz33_7⟩ := Y8f BK302
     go_wp2_with (first | ((with_reducible refine gate_callee (f := 48) rfl ?_); refine goesL_ (some 54) rfl rfl Try.func48 (by kernel_rfl) rfl #[.int .i64 (rd l0 x44_2), .int .i64 t303, .int .i64 a1_5] rfl Z1 ?_; (with_reducible refine (thrumref10_Level.calls (rd l0 x44_2) t303 a1_5 t307 t308 t309 _ A27.out).mono ?_); rintro e w' ⟨rfl, ⟨nd, rfl⟩⟩; refine ⟨_, rfl, ?_⟩; have p310 : 0 ≤ (x44_2 : Int) := of_decide_eq_true Z2; have q310 : x44_2 < (l1_7.length : Int) := of_decide_eq_true Z2; obtain ⟨ad310, e310, hx310_0⟩ := Kd.at_bool HR1_7.out x44_2 p310 q310; cases e310; replace hx310_0 := (HB.out.cell (World.block_lt_of_cell? w _ hx310_0)).trans hx310_0; replace p310 := eq_true p310; replace q310 := eq_true q310; have p311 : 0 ≤ (x44_2 : Int) := of_decide_eq_true Z2; have q311 : x44_2 < (l1_6.length : Int) := of_decide_eq_true Z2; obtain ⟨ad311, e311, hx311_0⟩ := Kd.at_int HR1_6.out x44_2 p311 q311; cases e311; replace hx311_0 := (HB.out.cell (World.block_lt_of_cell? w _ hx311_0)).trans hx311_0; replace p311 := eq_true p311; replace q311 := eq_true q311))
     go_roundg k2
     case measure => have := HJ3.out; have := HK2.out; omega
     case rel => exact ⟨(wrap64 (x44_2 + 1)), Z5, H', ⟨by have := HJ3.out; have := HK2.out; omega⟩, ⟨by (with_reducible repeat (first | refine kkN ?_ _ | refine kkD ?_ | refine kkA ?_ _)); exact BK302.out⟩, ⟨by repeat (first | (with_reducible first | exact HB.out | apply zzA | apply zzN | apply zzD | refine below_set ?_ GE302.out) | exact HB.out)⟩⟩
    rw [if_neg c32] at H
    have c32b0 : ((rd l1_6 x44_2) == t307) = false := beq_eq_false_iff_ne.mpr c32
    have c32b1 : ((rd l1_6 x44_2) != t307) = true := bne_iff_ne.mpr c32
    by_cases c34 : t308 = 0
    ·
     rw [if_pos c34] at H
     have c34b0 : (t308 == 0) = true := beq_iff_eq.mpr c34
     have c34b1 : (t308 != 0) = false := bne_eq_false_iff_eq.mpr c34
     clear c34
     obtain rfl := Option.some.inj H
     have p306 : 0 ≤ (x44_2 : Int) := of_decide_eq_true Z2
     have q306 : x44_2 < (l0.length : Int) := of_decide_eq_true Z2
     obtain ⟨ad306, e306, hx306_0⟩ := Kd.at_int HR0.out x44_2 p306 q306
     cases e306
     replace hx306_0 := (HB.out.cell (World.block_lt_of_cell? w _ hx306_0)).trans hx306_0
     replace p306 := eq_true p306
     replace q306 := eq_true q306
     obtain ⟨hcz35_0, hcz35_1, hcz35_2, hcz35_3, hcz35_4, hcz35_5, hcz35_6, hcz35_7, hfz35_0, hfz35_1, hfz35_2, hfz35_3, hfz35_4, hfz35_5, hfz35_6, hfz35_7⟩ := Y8f BK302
     go_wp2_with (first | ((with_reducible refine gate_callee (f := 48) rfl ?_); refine goesL_ (some 54) rfl rfl Try.func48 (by kernel_rfl) rfl #[.int .i64 (rd l0 x44_2), .int .i64 t303, .int .i64 a1_5] rfl Z1 ?_; (with_reducible refine (thrumref10_Level.calls (rd l0 x44_2) t303 a1_5 t307 t308 t309 _ A27.out).mono ?_); rintro e w' ⟨rfl, ⟨nd, rfl⟩⟩; refine ⟨_, rfl, ?_⟩; have p310 : 0 ≤ (x44_2 : Int) := of_decide_eq_true Z2; have q310 : x44_2 < (l1_7.length : Int) := of_decide_eq_true Z2; obtain ⟨ad310, e310, hx310_0⟩ := Kd.at_bool HR1_7.out x44_2 p310 q310; cases e310; replace hx310_0 := (HB.out.cell (World.block_lt_of_cell? w _ hx310_0)).trans hx310_0; replace p310 := eq_true p310; replace q310 := eq_true q310; have p311 : 0 ≤ (x44_2 : Int) := of_decide_eq_true Z2; have q311 : x44_2 < (l1_6.length : Int) := of_decide_eq_true Z2; obtain ⟨ad311, e311, hx311_0⟩ := Kd.at_int HR1_6.out x44_2 p311 q311; cases e311; replace hx311_0 := (HB.out.cell (World.block_lt_of_cell? w _ hx311_0)).trans hx311_0; replace p311 := eq_true p311; replace q311 := eq_true q311))
     go_ret
     exact ⟨by first | rfl | (simp [errW_none, errW_some] <;> rfl) | (simp [*, errW_none, errW_some] <;> rfl), by repeat (first | (with_reducible first | exact HB.out | apply zzA | apply zzN | apply zzD | refine below_set ?_ GE302.out) | exact HB.out)⟩
    rw [if_neg c34] at H
    have c34b0 : (t308 == 0) = false := beq_eq_false_iff_ne.mpr c34
    have c34b1 : (t308 != 0) = true := bne_iff_ne.mpr c34
    by_cases c36 : (rd l1_6 x44_2) = (IntKind.u64.wrap (t307 + 1))
    case neg =>
     rw [if_neg c36] at H
     have c36b0 : ((rd l1_6 x44_2) == (IntKind.u64.wrap (t307 + 1))) = false := beq_eq_false_iff_ne.mpr c36
     have c36b1 : ((rd l1_6 x44_2) != (IntKind.u64.wrap (t307 + 1))) = true := bne_iff_ne.mpr c36
     obtain rfl := Option.some.inj H
     have p306 : 0 ≤ (x44_2 : Int) := of_decide_eq_true Z2
     have q306 : x44_2 < (l0.length : Int) := of_decide_eq_true Z2
     obtain ⟨ad306, e306, hx306_0⟩ := Kd.at_int HR0.out x44_2 p306 q306
     cases e306
     replace hx306_0 := (HB.out.cell (World.block_lt_of_cell? w _ hx306_0)).trans hx306_0
     replace p306 := eq_true p306
     replace q306 := eq_true q306
     obtain ⟨hcz38_0, hcz38_1, hcz38_2, hcz38_3, hcz38_4, hcz38_5, hcz38_6, hcz38_7, hfz38_0, hfz38_1, hfz38_2, hfz38_3, hfz38_4, hfz38_5, hfz38_6, hfz38_7⟩ := Y8f BK302
     go_wp2_with (first | ((with_reducible refine gate_callee (f := 48) rfl ?_); refine goesL_ (some 54) rfl rfl Try.func48 (by kernel_rfl) rfl #[.int .i64 (rd l0 x44_2), .int .i64 t303, .int .i64 a1_5] rfl Z1 ?_; (with_reducible refine (thrumref10_Level.calls (rd l0 x44_2) t303 a1_5 t307 t308 t309 _ A27.out).mono ?_); rintro e w' ⟨rfl, ⟨nd, rfl⟩⟩; refine ⟨_, rfl, ?_⟩; have p310 : 0 ≤ (x44_2 : Int) := of_decide_eq_true Z2; have q310 : x44_2 < (l1_7.length : Int) := of_decide_eq_true Z2; obtain ⟨ad310, e310, hx310_0⟩ := Kd.at_bool HR1_7.out x44_2 p310 q310; cases e310; replace hx310_0 := (HB.out.cell (World.block_lt_of_cell? w _ hx310_0)).trans hx310_0; replace p310 := eq_true p310; replace q310 := eq_true q310; have p311 : 0 ≤ (x44_2 : Int) := of_decide_eq_true Z2; have q311 : x44_2 < (l1_6.length : Int) := of_decide_eq_true Z2; obtain ⟨ad311, e311, hx311_0⟩ := Kd.at_int HR1_6.out x44_2 p311 q311; cases e311; replace hx311_0 := (HB.out.cell (World.block_lt_of_cell? w _ hx311_0)).trans hx311_0; replace p311 := eq_true p311; replace q311 := eq_true q311; have p312 : 0 ≤ (x44_2 : Int) := of_decide_eq_true Z2; have q312 : x44_2 < (l1_6.length : Int) := of_decide_eq_true Z2; obtain ⟨ad312, e312, hx312_0⟩ := Kd.at_int HR1_6.out x44_2 p312 q312; obtain rfl : ad311 = ad312 := (by injection e312); replace hx312_0 := (HB.out.cell (World.block_lt_of_cell? w _ hx312_0)).trans hx312_0; replace p312 := eq_true p312; replace q312 := eq_true q312))
     go_ret
     exact ⟨by first | rfl | (simp [errW_none, errW_some] <;> rfl) | (simp [*, errW_none, errW_some] <;> rfl), by repeat (first | (with_reducible first | exact HB.out | apply zzA | apply zzN | apply zzD | refine below_set ?_ GE302.out) | exact HB.out)⟩
    rw [if_pos c36] at H
    have c36b0 : ((rd l1_6 x44_2) == (IntKind.u64.wrap (t307 + 1))) = true := beq_iff_eq.mpr c36
    have c36b1 : ((rd l1_6 x44_2) != (IntKind.u64.wrap (t307 + 1))) = false := bne_eq_false_iff_eq.mpr c36
    clear c36
    have H' := ZM H
    clear H
    have p306 : 0 ≤ (x44_2 : Int) := of_decide_eq_true Z2
    have q306 : x44_2 < (l0.length : Int) := of_decide_eq_true Z2
    obtain ⟨ad306, e306, hx306_0⟩ := Kd.at_int HR0.out x44_2 p306 q306
    cases e306
    replace hx306_0 := (HB.out.cell (World.block_lt_of_cell? w _ hx306_0)).trans hx306_0
    replace p306 := eq_true p306
    replace q306 := eq_true q306
    obtain ⟨hcz37_0, hcz37_1, hcz37_2, hcz37_3, hcz37_4, hcz37_5, hcz37_6, hcz37_7, hfz37_0, hfz37_1, hfz37_2, hfz37_3, hfz37_4, hfz37_5, hfz37_6, hfz37_7⟩ := Y8f BK302
    go_wp2_with (first | ((with_reducible refine gate_callee (f := 48) rfl ?_); refine goesL_ (some 54) rfl rfl Try.func48 (by kernel_rfl) rfl #[.int .i64 (rd l0 x44_2), .int .i64 t303, .int .i64 a1_5] rfl Z1 ?_; (with_reducible refine (thrumref10_Level.calls (rd l0 x44_2) t303 a1_5 t307 t308 t309 _ A27.out).mono ?_); rintro e w' ⟨rfl, ⟨nd, rfl⟩⟩; refine ⟨_, rfl, ?_⟩; have p310 : 0 ≤ (x44_2 : Int) := of_decide_eq_true Z2; have q310 : x44_2 < (l1_7.length : Int) := of_decide_eq_true Z2; obtain ⟨ad310, e310, hx310_0⟩ := Kd.at_bool HR1_7.out x44_2 p310 q310; cases e310; replace hx310_0 := (HB.out.cell (World.block_lt_of_cell? w _ hx310_0)).trans hx310_0; replace p310 := eq_true p310; replace q310 := eq_true q310; have p311 : 0 ≤ (x44_2 : Int) := of_decide_eq_true Z2; have q311 : x44_2 < (l1_6.length : Int) := of_decide_eq_true Z2; obtain ⟨ad311, e311, hx311_0⟩ := Kd.at_int HR1_6.out x44_2 p311 q311; cases e311; replace hx311_0 := (HB.out.cell (World.block_lt_of_cell? w _ hx311_0)).trans hx311_0; replace p311 := eq_true p311; replace q311 := eq_true q311; have p312 : 0 ≤ (x44_2 : Int) := of_decide_eq_true Z2; have q312 : x44_2 < (l1_6.length : Int) := of_decide_eq_true Z2; obtain ⟨ad312, e312, hx312_0⟩ := Kd.at_int HR1_6.out x44_2 p312 q312; obtain rfl : ad311 = ad312 := (by injection e312); replace hx312_0 := (HB.out.cell (World.block_lt_of_cell? w _ hx312_0)).trans hx312_0; replace p312 := eq_true p312; replace q312 := eq_true q312))
    go_roundg k2
    case measure => have := HJ3.out; have := HK2.out; omega
    case rel => exact ⟨(wrap64 (x44_2 + 1)), Z5, H', ⟨by have := HJ3.out; have := HK2.out; omega⟩, ⟨by (with_reducible repeat (first | refine kkN ?_ _ | refine kkD ?_ | refine kkA ?_ _)); exact BK302.out⟩, ⟨by repeat (first | (with_reducible first | exact HB.out | apply zzA | apply zzN | apply zzD | refine below_set ?_ GE302.out) | exact HB.out)⟩⟩
end Go.Proofs.Ytkfhdpnfcaghbaa.HQ
