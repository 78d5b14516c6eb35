/- What Go functions do, each as a plain Lean function with the same answers, and the proof of it, in every world: printed by the session's driver over the kit's print, with texts by hand. -/
import Derived.Test.YtkfhdpnfcaghbaaHQx0
import Derived.Test.YtkfhdpnfcaghbaaHQx13
import Derived.Test.YtkfhdpnfcaghbaaHQx15
import Derived.Test.YtkfhdpnfcaghbaaMini
namespace Go.Proofs.Ytkfhdpnfcaghbaa.HQ
open Go.RowKit Go.Proofs.YtkfhdpnfcaghbaaW.PrintWords Go.Proofs.YtkfhdpnfcaghbaaW.PrintLast Go.Proofs.YtkfhdpnfcaghbaaW.PrintMore
attribute [local go_sem] max2_int min2_int max_two min_two max_three min_three max_four min_four   -- for this text's walks alone
open Go.Proofs.Ytkfhdpnfcaghbaa.Sp
attribute [local go_sem] Go.Proofs.Ytkfhdpnfcaghbaa.Sp.u64_not
set_option linter.unusedVariables false
set_option linter.unusedSimpArgs false

/-! ### thrumref10_Loosen: function 56 -/
mutual
def thrumref10_Loosen.j0 : Nat → Bool → Int → Int → List Int → List Int → Int → Int → List Int → List Bool → Option (List Int × Int)
 | 0, _, _, _, _, _, _, _, _, _ => none
 | k + 1, x16, x291000, x291001, x291002, x291003, x291004, x291005, x291006, x291007 => if x16 = true then (some (([] : List Int), 1)) else (thrumref10_Loosen.l0 k ([] : List Int) x291006 (x291006.length : Int) 0 x291000 x291001 x291002 x291003 x291004 x291005 x291006 x291007)
def thrumref10_Loosen.l0 : Nat → List Int → List Int → Int → Int → Int → Int → List Int → List Int → Int → Int → List Int → List Bool → Option (List Int × Int)
 | 0, _, _, _, _, _, _, _, _, _, _, _, _ => none
 | k + 1, x4, x18, x19, x20, x291000, x291001, x291002, x291003, x291004, x291005, x291006, x291007 => if x20 < x19 then (if 0 ≤ x20 then (if x20 < (x18.length : Int) then ((thrumref10_Value.f (rd x18 x20) x291004 x291005).bind fun bt293 => (if x20 < (x291007.length : Int) then (if rdOf false x291007 x20 = true then (if x4.length < 17592186044416 then (thrumref10_Loosen.l0 k (x4 ++ [wrap64 (-bt293.1)]) x18 x19 (wrap64 (x20 + 1)) x291000 x291001 x291002 x291003 x291004 x291005 x291006 x291007) else (none)) else (if x4.length < 17592186044416 then (thrumref10_Loosen.l0 k (x4 ++ [bt293.1]) x18 x19 (wrap64 (x20 + 1)) x291000 x291001 x291002 x291003 x291004 x291005 x291006 x291007) else (none))) else (none))) else (none)) else (none)) else (some (x4, 0))
end
def thrumref10_Loosen.f (k : Nat) (a0_0 : Int) (a0_1 : Int) (l0_2 : List Int) (l0_3 : List Int) (a0_4 : Int) (a0_5 : Int) (l0_6 : List Int) (l0_7 : List Bool) : Option (List Int × Int) := (thrumref07_May.f a0_0 a0_1 l0_2 l0_3 a0_4 a0_5 l0_6 l0_7).bind fun t291 => (if t291 = true then (thrumref10_Loosen.j0 k (a0_0 != 2) a0_0 a0_1 l0_2 l0_3 a0_4 a0_5 l0_6 l0_7) else (thrumref10_Loosen.j0 k true a0_0 a0_1 l0_2 l0_3 a0_4 a0_5 l0_6 l0_7))
theorem thrumref10_Loosen.mono_l : ∀ k, (∀ y0 y1 y2 y3 y4 y5 y6 y7 y8, LeO (thrumref10_Loosen.j0 k y0 y1 y2 y3 y4 y5 y6 y7 y8) (thrumref10_Loosen.j0 (k + 1) y0 y1 y2 y3 y4 y5 y6 y7 y8)) ∧ (∀ y0 y1 y2 y3 y4 y5 y6 y7 y8 y9 y10 y11, LeO (thrumref10_Loosen.l0 k y0 y1 y2 y3 y4 y5 y6 y7 y8 y9 y10 y11) (thrumref10_Loosen.l0 (k + 1) y0 y1 y2 y3 y4 y5 y6 y7 y8 y9 y10 y11))
 | 0 => ⟨fun _ _ _ _ _ _ _ _ _ r h => by simp [thrumref10_Loosen.j0] at h, fun _ _ _ _ _ _ _ _ _ _ _ _ r h => by simp [thrumref10_Loosen.l0] at h⟩
 | k + 1 => by
  obtain ⟨ih0, ih1⟩ := thrumref10_Loosen.mono_l k
  refine ⟨?_, ?_⟩
  ·
   intro y0 y1 y2 y3 y4 y5 y6 y7 y8
   unfold thrumref10_Loosen.j0
   repeat' first
   | (with_reducible exact ih0 _ _ _ _ _ _ _ _ _)
   | (with_reducible exact ih1 _ _ _ _ _ _ _ _ _ _ _ _)
   | (with_reducible exact LeO.refl _)
   | (with_reducible exact LeO.none _)
   | (with_reducible refine LeO.ite ?_ ?_)
   | (with_reducible refine LeO.bind ?_ (fun _ => ?_))
  ·
   intro y0 y1 y2 y3 y4 y5 y6 y7 y8 y9 y10 y11
   unfold thrumref10_Loosen.l0
   repeat' first
   | (with_reducible exact ih0 _ _ _ _ _ _ _ _ _)
   | (with_reducible exact ih1 _ _ _ _ _ _ _ _ _ _ _ _)
   | (with_reducible exact LeO.refl _)
   | (with_reducible exact LeO.none _)
   | (with_reducible refine LeO.ite ?_ ?_)
   | (with_reducible refine LeO.bind ?_ (fun _ => ?_))
theorem thrumref10_Loosen.mono : ∀ a0 a1 a2 a3 a4 a5 a6 a7 k, LeO (thrumref10_Loosen.f k a0 a1 a2 a3 a4 a5 a6 a7) (thrumref10_Loosen.f (k + 1) a0 a1 a2 a3 a4 a5 a6 a7) := by
 intro a0 a1 a2 a3 a4 a5 a6 a7 k
 obtain ⟨ih0, ih1⟩ := thrumref10_Loosen.mono_l k
 unfold thrumref10_Loosen.f
 repeat' first
   | (with_reducible exact ih0 _ _ _ _ _ _ _ _ _)
   | (with_reducible exact ih1 _ _ _ _ _ _ _ _ _ _ _ _)
   | (with_reducible exact LeO.refl _)
   | (with_reducible exact LeO.none _)
   | (with_reducible refine LeO.ite ?_ ?_)
   | (with_reducible refine LeO.bind ?_ (fun _ => ?_))
set_option maxHeartbeats 8000000 in
set_option maxRecDepth 100000 in
theorem thrumref10_Loosen.calls (k : Nat) (a0_0 : Int) (a0_1 : Int) (A0_2 : Option Addr) (c0_2 : Nat) (l0_2 : List Int) (A0_3 : Option Addr) (c0_3 : Nat) (l0_3 : List Int) (a0_4 : Int) (a0_5 : Int) (A0_6 : Option Addr) (c0_6 : Nat) (l0_6 : List Int) (A0_7 : Option Addr) (c0_7 : Nat) (l0_7 : List Bool) (r1 : List Int) (r2 : Int) (w : World) (hr0_2 : Kd.C (Kd.int .i64) w A0_2 l0_2.length l0_2) (hc0_2 : l0_2.length ≤ c0_2) (hr0_3 : Kd.C (Kd.int .i64) w A0_3 l0_3.length l0_3) (hc0_3 : l0_3.length ≤ c0_3) (hr0_6 : Kd.C (Kd.int .u64) w A0_6 l0_6.length l0_6) (hc0_6 : l0_6.length ≤ c0_6) (hr0_7 : Kd.C Kd.bool w A0_7 l0_7.length l0_7) (hc0_7 : l0_7.length ≤ c0_7) (h : thrumref10_Loosen.f k a0_0 a0_1 l0_2 l0_3 a0_4 a0_5 l0_6 l0_7 = some (r1, r2)) :
  Calls Try.prog 56 #[.agg #[.int .i64 a0_0, .int .i64 a0_1, .slice A0_2 l0_2.length c0_2, .slice A0_3 l0_3.length c0_3, .int .i64 a0_4, .int .i64 a0_5, .slice A0_6 l0_6.length c0_6, .slice A0_7 l0_7.length c0_7]] w fun e w' => ∃ v0_ : Value, e = .returned (.tuple #[v0_, .int .i64 r2]) ∧ Kd.R (Kd.int .i64) 2 w' w.heap.size (fun _ => True) v0_ r1 ∧ Below w.heap.size w w' := by
 have hu30 := Try.underlying30
 have HR0_2 := ZM hr0_2
 have HC0_2 := ZM hc0_2
 clear hr0_2 hc0_2
 have HR0_3 := ZM hr0_3
 have HC0_3 := ZM hc0_3
 clear hr0_3 hc0_3
 have HR0_6 := ZM hr0_6
 have HC0_6 := ZM hc0_6
 clear hr0_6 hc0_6
 have HR0_7 := ZM hr0_7
 have HC0_7 := ZM hc0_7
 clear hr0_7 hc0_7
 have HB := ZM (Below.refl w.heap.size w)
 have H : ((thrumref07_May.f a0_0 a0_1 l0_2 l0_3 a0_4 a0_5 l0_6 l0_7).bind fun t291 => (if t291 = true then (thrumref10_Loosen.j0 k (a0_0 != 2) a0_0 a0_1 l0_2 l0_3 a0_4 a0_5 l0_6 l0_7) else (thrumref10_Loosen.j0 k true a0_0 a0_1 l0_2 l0_3 a0_4 a0_5 l0_6 l0_7))) = some (r1, r2) := h
 clear h
 have HC2 := ZM H
 clear H
 go_enter Try.func56, Try.ntmps56
 go_upto_region 1 with (first | ((with_reducible refine gate_dst (N := 1) rfl ?_); refine box_event ?hg (N := 1) ?hd (cs := #[.int .i64 a0_0, .int .i64 a0_1, .slice A0_2 l0_2.length c0_2, .slice A0_3 l0_3.length c0_3, .int .i64 a0_4, .int .i64 a0_5, .slice A0_6 l0_6.length c0_6, .slice A0_7 l0_7.length c0_7]) (t := 30) ?hr ?_; (case hd => rfl); (case hg => rfl); (case hr => exact Z12); intro gb290 hg w3 hbox hb; have BK290 := ZM (hbox); have GW290 := ZM ((by rw [hg]; exact (zzS Z3) : w.heap.size ≤ gb290)); have GE290 := ZM ((by rw [hg]; exact (zzS Z3) : w.heap.size ≤ gb290)); replace HB := ZM (zzT Z3 hb); clear hb hbox hg))
 (try simp only [Act.put, Zt])
 go_cut [16] (fun v16 wc => ∃ (kq : Nat) (x16_1 : Bool), v16 = .bool x16_1 ∧ Aside0 (thrumref10_Loosen.j0 kq x16_1 a0_0 a0_1 l0_2 l0_3 a0_4 a0_5 l0_6 l0_7 = some (r1, r2)) ∧ Aside0 (kq ≤ k) ∧ Aside0 (wc.heap[gb290]? = some (.cells #[.int .i64 a0_0, .int .i64 a0_1, (.slice A0_2 l0_2.length c0_2), (.slice A0_3 l0_3.length c0_3), .int .i64 a0_4, .int .i64 a0_5, (.slice A0_6 l0_6.length c0_6), (.slice A0_7 l0_7.length c0_7)] 30 (0, 0))) ∧ Aside0 (Below w.heap.size w wc))
 case first =>
  have H := HC2.out
  clear HC2
  replace H := Option.bind_eq_some_iff.mp H
  obtain ⟨t291, A40, H⟩ := H
  replace H : (if t291 = true then (thrumref10_Loosen.j0 k (a0_0 != 2) a0_0 a0_1 l0_2 l0_3 a0_4 a0_5 l0_6 l0_7) else (thrumref10_Loosen.j0 k true a0_0 a0_1 l0_2 l0_3 a0_4 a0_5 l0_6 l0_7)) = some (r1, r2) := H
  have A4 := ZM A40
  clear A40
  by_cases c5 : t291 = true
  ·
   subst c5
   have H1 : (thrumref10_Loosen.j0 k (a0_0 != 2) a0_0 a0_1 l0_2 l0_3 a0_4 a0_5 l0_6 l0_7) = some (r1, r2) := by rw [if_pos rfl] at H; exact H
   clear H
   have H := H1
   clear H1
   have H' := ZM H
   clear H
   obtain ⟨hcz6_0, hcz6_1, hcz6_2, hcz6_3, hcz6_4, hcz6_5, hcz6_6, hcz6_7, hfz6_0, hfz6_1, hfz6_2, hfz6_3, hfz6_4, hfz6_5, hfz6_6, hfz6_7⟩ := Y8f BK290
   go_wp2_with (first | ((with_reducible refine gate_callee (f := 85) rfl ?_); refine goesL_ (some 10) rfl rfl Try.func85 (by kernel_rfl) rfl #[.agg #[.int .i64 a0_0, .int .i64 a0_1, .slice A0_2 l0_2.length c0_2, .slice A0_3 l0_3.length c0_3, .int .i64 a0_4, .int .i64 a0_5, .slice A0_6 l0_6.length c0_6, .slice A0_7 l0_7.length c0_7]] rfl Z1 ?_; (with_reducible refine (thrumref07_May.calls a0_0 a0_1 _ _ l0_2 _ _ l0_3 a0_4 a0_5 _ _ l0_6 _ _ l0_7 true _ ?side1 ?side2 ?side3 ?side4 ?side5 ?side6 ?side7 ?side8 A4.out).mono ?_); (case side1 => exact Z9); (case side2 => exact HC0_2.out); (case side3 => exact Z40); (case side4 => exact HC0_3.out); (case side5 => exact Z41); (case side6 => exact HC0_6.out); (case side7 => exact Z42); (case side8 => exact HC0_7.out); rintro e w7 ⟨rfl, hb⟩; refine ⟨_, rfl, ?_⟩; replace BK290 := ZM (blk_below (g := gb290) (o := .cells #[.int .i64 a0_0, .int .i64 a0_1, .slice A0_2 l0_2.length c0_2, .slice A0_3 l0_3.length c0_3, .int .i64 a0_4, .int .i64 a0_5, .slice A0_6 l0_6.length c0_6, .slice A0_7 l0_7.length c0_7] 30 (0, 0)) (Zk BK290) hb); replace HB := ZM (zzT Z35 hb); (try clear hb); (try clear hb2); (try clear hk); (try clear hi); obtain ⟨hcz8_0, hcz8_1, hcz8_2, hcz8_3, hcz8_4, hcz8_5, hcz8_6, hcz8_7, hfz8_0, hfz8_1, hfz8_2, hfz8_3, hfz8_4, hfz8_5, hfz8_6, hfz8_7⟩ := Y8f BK290))
   go_meet
   case rel => exact ⟨_, ((a0_0 != 2)), Z5, H', ⟨by first | omega | exact Nat.le_refl _⟩, ⟨by (with_reducible repeat (first | refine kkN ?_ _ | refine kkD ?_ | refine kkA ?_ _)); exact BK290.out⟩, ⟨by repeat (first | (with_reducible first | exact HB.out | apply zzA | apply zzN | apply zzD | refine below_set ?_ GE290.out) | exact HB.out)⟩⟩
  replace c5 := Bool.eq_false_iff.mpr c5
  subst c5
  have H1 : (thrumref10_Loosen.j0 k true a0_0 a0_1 l0_2 l0_3 a0_4 a0_5 l0_6 l0_7) = some (r1, r2) := by rw [if_neg (show ¬ (false = true) by decide)] at H; exact H
  clear H
  have H := H1
  clear H1
  have H' := ZM H
  clear H
  obtain ⟨hcz9_0, hcz9_1, hcz9_2, hcz9_3, hcz9_4, hcz9_5, hcz9_6, hcz9_7, hfz9_0, hfz9_1, hfz9_2, hfz9_3, hfz9_4, hfz9_5, hfz9_6, hfz9_7⟩ := Y8f BK290
  go_wp2_with (first | ((with_reducible refine gate_callee (f := 85) rfl ?_); refine goesL_ (some 10) rfl rfl Try.func85 (by kernel_rfl) rfl #[.agg #[.int .i64 a0_0, .int .i64 a0_1, .slice A0_2 l0_2.length c0_2, .slice A0_3 l0_3.length c0_3, .int .i64 a0_4, .int .i64 a0_5, .slice A0_6 l0_6.length c0_6, .slice A0_7 l0_7.length c0_7]] rfl Z1 ?_; (with_reducible refine (thrumref07_May.calls a0_0 a0_1 _ _ l0_2 _ _ l0_3 a0_4 a0_5 _ _ l0_6 _ _ l0_7 false _ ?side1 ?side2 ?side3 ?side4 ?side5 ?side6 ?side7 ?side8 A4.out).mono ?_); (case side1 => exact Z9); (case side2 => exact HC0_2.out); (case side3 => exact Z40); (case side4 => exact HC0_3.out); (case side5 => exact Z41); (case side6 => exact HC0_6.out); (case side7 => exact Z42); (case side8 => exact HC0_7.out); rintro e w10 ⟨rfl, hb⟩; refine ⟨_, rfl, ?_⟩; replace BK290 := ZM (blk_below (g := gb290) (o := .cells #[.int .i64 a0_0, .int .i64 a0_1, .slice A0_2 l0_2.length c0_2, .slice A0_3 l0_3.length c0_3, .int .i64 a0_4, .int .i64 a0_5, .slice A0_6 l0_6.length c0_6, .slice A0_7 l0_7.length c0_7] 30 (0, 0)) (Zk BK290) hb); replace HB := ZM (zzT Z35 hb); (try clear hb); (try clear hb2); (try clear hk); (try clear hi)))
  go_meet
  case rel => exact ⟨_, (true), Z5, H', ⟨by first | omega | exact Nat.le_refl _⟩, ⟨by (with_reducible repeat (first | refine kkN ?_ _ | refine kkD ?_ | refine kkA ?_ _)); exact BK290.out⟩, ⟨by repeat (first | (with_reducible first | exact HB.out | apply zzA | apply zzN | apply zzD | refine below_set ?_ GE290.out) | exact HB.out)⟩⟩
 clear HC2
 obtain ⟨kq, x16_1, rfl, HA, HJ1, BK290, HB⟩ := hcut
 cases kq with
 | zero => exact absurd HA.out (by simp [thrumref10_Loosen.j0])
 | succ kj1 =>
  have H := HA.out
  clear HA
  simp only [thrumref10_Loosen.j0] at H
  by_cases c11 : x16_1 = true
  ·
   subst c11
   have H1 : (some (([] : List Int), 1)) = some (r1, r2) := by rw [if_pos rfl] at H; exact H
   clear H
   have H := H1
   clear H1
   simp only [Option.some.injEq, Prod.mk.injEq] at H
   obtain ⟨rfl, rfl⟩ := H
   go_wp2
   go_ret2
   exact ⟨_, by first | rfl | (simp [errW_none, errW_some] <;> rfl) | (simp [*, errW_none, errW_some] <;> rfl), by first | exact Kd.R_nil _ _ _ _ _ | exact Kd.N_nil _ _ _ _ _ | exact Kd.V_nil _ _ _ _ _ | exact Kd.Q_nil _ _ _ _ _ | exact Kd.S_nil _ _ _ _ _, by repeat (first | (with_reducible first | exact HB.out | apply zzA | apply zzN | apply zzD | refine below_set ?_ GE290.out) | exact HB.out)⟩
  replace c11 := Bool.eq_false_iff.mpr c11
  subst c11
  have H1 : (thrumref10_Loosen.l0 kj1 ([] : List Int) l0_6 (l0_6.length : Int) 0 a0_0 a0_1 l0_2 l0_3 a0_4 a0_5 l0_6 l0_7) = some (r1, r2) := by rw [if_neg (show ¬ (false = true) by decide)] at H; exact H
  clear H
  have H := H1
  clear H1
  have H' := ZM H
  clear H
  obtain ⟨hcz12_0, hcz12_1, hcz12_2, hcz12_3, hcz12_4, hcz12_5, hcz12_6, hcz12_7, hfz12_0, hfz12_1, hfz12_2, hfz12_3, hfz12_4, hfz12_5, hfz12_6, hfz12_7⟩ := Y8f BK290
  go_wp2
  go_loopg [4, 20] kj1 (fun kq v4 v20 w' => ∃ (x4_2 : List Int) (x20_2 : Int), v20 = .int .i64 x20_2 ∧ Aside0 (thrumref10_Loosen.l0 kq x4_2 l0_6 (l0_6.length : Int) x20_2 a0_0 a0_1 l0_2 l0_3 a0_4 a0_5 l0_6 l0_7 = some (r1, r2)) ∧ Aside0 (kq ≤ kj1) ∧ Aside0 (Kd.R (Kd.int .i64) 2 w' w.heap.size (fun _ => True) v4 x4_2) ∧ Aside0 (w'.heap[gb290]? = some (.cells #[.int .i64 a0_0, .int .i64 a0_1, (.slice A0_2 l0_2.length c0_2), (.slice A0_3 l0_3.length c0_3), .int .i64 a0_4, .int .i64 a0_5, (.slice A0_6 l0_6.length c0_6), (.slice A0_7 l0_7.length c0_7)] 30 (0, 0))) ∧ Aside0 (Below w.heap.size w w'))
  case atStart => exact ⟨(([] : List Int)), (0), Z5, H', ⟨Nat.le_refl _⟩, ⟨by first | exact Kd.R_nil _ _ _ _ _ | exact Kd.N_nil _ _ _ _ _ | exact Kd.V_nil _ _ _ _ _ | exact Kd.Q_nil _ _ _ _ _ | exact Kd.S_nil _ _ _ _ _⟩, ⟨by (with_reducible repeat (first | refine kkN ?_ _ | refine kkD ?_ | refine kkA ?_ _)); exact BK290.out⟩, ⟨by repeat (first | (with_reducible first | exact HB.out | apply zzA | apply zzN | apply zzD | refine below_set ?_ GE290.out) | exact HB.out)⟩⟩
  case round =>
   clear H'
   try clear c11
   try clear hcz12_0
   try clear hcz12_1
   try clear hcz12_2
   try clear hcz12_3
   try clear hcz12_4
   try clear hcz12_5
   try clear hcz12_6
   try clear hcz12_7
   try clear hfz12_0
   try clear hfz12_1
   try clear hfz12_2
   try clear hfz12_3
   try clear hfz12_4
   try clear hfz12_5
   try clear hfz12_6
   try clear hfz12_7
   obtain ⟨x4_2, x20_2, rfl, HA, HK2, HO_4, BK290, HB⟩ := hrel
   cases gk with
   | zero => exact absurd HA.out (by simp [thrumref10_Loosen.l0])
   | succ k2 =>
    have H := HA.out
    clear HA
    simp only [thrumref10_Loosen.l0] at H
    by_cases c13 : x20_2 < (l0_6.length : Int)
    case neg =>
     rw [if_neg c13] at H
     have c13b0 : decide (x20_2 < (l0_6.length : Int)) = false := decide_eq_false c13
     clear c13
     simp only [Option.some.injEq, Prod.mk.injEq] at H
     obtain ⟨rfl, rfl⟩ := H
     go_wp2
     go_ret2
     exact ⟨_, by first | rfl | (simp [errW_none, errW_some] <;> rfl) | (simp [*, errW_none, errW_some] <;> rfl), by (with_reducible repeat (first | apply rrA | apply rrN | apply rrD)); exact HO_4.out, by repeat (first | (with_reducible first | exact HB.out | apply zzA | apply zzN | apply zzD | refine below_set ?_ GE290.out) | exact HB.out)⟩
    rw [if_pos c13] at H
    have c13b0 : decide (x20_2 < (l0_6.length : Int)) = true := decide_eq_true c13
    clear c13
    by_cases c14 : 0 ≤ x20_2
    case neg =>
     rw [if_neg c14] at H
     exact absurd H (by simp)
    rw [if_pos c14] at H
    have c14b0 : decide (0 ≤ x20_2) = true := decide_eq_true c14
    clear c14
    by_cases c15 : x20_2 < (l0_6.length : Int)
    case neg =>
     rw [if_neg c15] at H
     exact absurd H (by simp)
    rw [if_pos c15] at H
    have c15b0 : decide (x20_2 < (l0_6.length : Int)) = true := decide_eq_true c15
    clear c15
    replace H := Option.bind_eq_some_iff.mp H
    obtain ⟨⟨t293, t294⟩, A160, H⟩ := H
    replace H : (if x20_2 < (l0_7.length : Int) then (if rdOf false l0_7 x20_2 = true then (if x4_2.length < 17592186044416 then (thrumref10_Loosen.l0 k2 (x4_2 ++ [wrap64 (-t293)]) l0_6 (l0_6.length : Int) (wrap64 (x20_2 + 1)) a0_0 a0_1 l0_2 l0_3 a0_4 a0_5 l0_6 l0_7) else (none)) else (if x4_2.length < 17592186044416 then (thrumref10_Loosen.l0 k2 (x4_2 ++ [t293]) l0_6 (l0_6.length : Int) (wrap64 (x20_2 + 1)) a0_0 a0_1 l0_2 l0_3 a0_4 a0_5 l0_6 l0_7) else (none))) else (none)) = some (r1, r2) := H
    have A16 := ZM A160
    clear A160
    by_cases c17 : x20_2 < (l0_7.length : Int)
    case neg =>
     rw [if_neg c17] at H
     exact absurd H (by simp)
    rw [if_pos c17] at H
    have c17b0 : decide (x20_2 < (l0_7.length : Int)) = true := decide_eq_true c17
    clear c17
    obtain ⟨bq18, hbq18⟩ : ∃ b_ : Bool, b_ = (rdOf false l0_7 x20_2) := ⟨_, rfl⟩
    replace H : (if bq18 = true then (if x4_2.length < 17592186044416 then (thrumref10_Loosen.l0 k2 (x4_2 ++ [wrap64 (-t293)]) l0_6 (l0_6.length : Int) (wrap64 (x20_2 + 1)) a0_0 a0_1 l0_2 l0_3 a0_4 a0_5 l0_6 l0_7) else (none)) else (if x4_2.length < 17592186044416 then (thrumref10_Loosen.l0 k2 (x4_2 ++ [t293]) l0_6 (l0_6.length : Int) (wrap64 (x20_2 + 1)) a0_0 a0_1 l0_2 l0_3 a0_4 a0_5 l0_6 l0_7) else (none))) = some (r1, r2) := by rw [← hbq18] at H; exact H
    have Nbq18 := ZM hbq18
    clear hbq18
    by_cases c19 : bq18 = true
    ·
     subst c19
     have H1 : (if x4_2.length < 17592186044416 then (thrumref10_Loosen.l0 k2 (x4_2 ++ [wrap64 (-t293)]) l0_6 (l0_6.length : Int) (wrap64 (x20_2 + 1)) a0_0 a0_1 l0_2 l0_3 a0_4 a0_5 l0_6 l0_7) else (none)) = some (r1, r2) := by rw [if_pos rfl] at H; exact H
     clear H
     have H := H1
     clear H1
     by_cases c20 : x4_2.length < 17592186044416
     case neg =>
      rw [if_neg c20] at H
      exact absurd H (by simp)
     rw [if_pos c20] at H
     have LMc20 := ZM c20
     clear c20
     obtain ⟨y296, hy296⟩ : ∃ y_ : List Int, y_ = (x4_2 ++ [wrap64 (-t293)]) := ⟨_, rfl⟩
     replace H : (thrumref10_Loosen.l0 k2 y296 l0_6 (l0_6.length : Int) (wrap64 (x20_2 + 1)) a0_0 a0_1 l0_2 l0_3 a0_4 a0_5 l0_6 l0_7) = some (r1, r2) := by first | (rw [hy296]; with_reducible exact H) | (have H2_ := (Option.bind_some _ _).symm.trans H; rw [hy296]; with_reducible exact H2_) | (have H2_ := (Option.bind_some _ _).symm.trans H; with_reducible exact H2_) | with_reducible exact H | (rw [hy296]; exact H) | exact H
     have Ny296 := ZM hy296
     clear hy296
     have H' := ZM H
     clear H
     have p292 : 0 ≤ (x20_2 : Int) := of_decide_eq_true Z2
     have q292 : x20_2 < (l0_6.length : Int) := of_decide_eq_true Z2
     obtain ⟨ad292, e292, hx292_0⟩ := Kd.at_int HR0_6.out x20_2 p292 q292
     cases e292
     replace hx292_0 := (HB.out.cell (World.block_lt_of_cell? w _ hx292_0)).trans hx292_0
     replace p292 := eq_true p292
     replace q292 := eq_true q292
     obtain ⟨hcz21_0, hcz21_1, hcz21_2, hcz21_3, hcz21_4, hcz21_5, hcz21_6, hcz21_7, hfz21_0, hfz21_1, hfz21_2, hfz21_3, hfz21_4, hfz21_5, hfz21_6, hfz21_7⟩ := Y8f BK290
     go_wp2_with (first | ((with_reducible refine gate_callee (f := 50) rfl ?_); refine goesL_ (some 31) rfl rfl Try.func50 (by kernel_rfl) rfl #[.int .u64 (rd l0_6 x20_2), .int .i64 a0_4, .int .i64 a0_5] rfl Z1 ?_; (with_reducible refine (thrumref10_Value.calls (rd l0_6 x20_2) a0_4 a0_5 t293 t294 _ A16.out).mono ?_); rintro e w' ⟨rfl, ⟨nd, rfl⟩⟩; refine ⟨_, rfl, ?_⟩; have p295 : 0 ≤ (x20_2 : Int) := of_decide_eq_true Z2; have q295 : x20_2 < (l0_7.length : Int) := of_decide_eq_true Z2; obtain ⟨ad295, e295, hx295_0⟩ := Kd.at_bool HR0_7.out x20_2 p295 q295; (try rw [← Nbq18.out] at hx295_0); cases e295; replace hx295_0 := (HB.out.cell (World.block_lt_of_cell? w _ hx295_0)).trans hx295_0; replace p295 := eq_true p295; replace q295 := eq_true q295) | ((with_reducible refine gate_builtin (b := .append) (xs := #[.tmp 41, .tmp 43]) rfl ?_); at_builtin; refine Kd.R_append (Kd.int .i64) (w0 := w) w.heap.size rfl (.tmp 41) (.tmp 43) 27 2 (.int .i64 0) 8 rfl Try.underlying27 info2 rfl (by decide) (by omega) u4 x4_2 (wrap64 (-t293)) [.int .i64 (wrap64 (-t293))] (fun _ => True) (fun _ => False) rfl rfl ?aP (fun _ hk => hk.elim) ?aF ?aO ?aB ?aS ?aL ?_; (case aP => exact rfl); (case aB => exact Z35); (case aF => exact (fun _ _ => trivial)); (case aO => exact (Zr HO_4)); (case aS => exact (zzS Z35)); (case aL => have := LMc20.out; omega); intro v297 w22 ho hb hg hat; rw [← Ny296.out] at ho; replace BK290 := ZM (blk_grown (g := gb290) (o := .cells #[.int .i64 a0_0, .int .i64 a0_1, .slice A0_2 l0_2.length c0_2, .slice A0_3 l0_3.length c0_3, .int .i64 a0_4, .int .i64 a0_5, .slice (some ad292) l0_6.length c0_6, .slice (some ad295) l0_7.length c0_7] 30 (0, 0)) (Zk BK290) hg (Kd.R_ne HO_4.out BK290.out (by decide))); have HO298 := ZM (ho); replace HB := ZM (hb); clear HO_4; clear ho hb hg hat))
     go_roundg k2
     case measure => have := HJ1.out; have := HK2.out; omega
     case rel => exact ⟨(y296), (wrap64 (x20_2 + 1)), Z5, H', ⟨by have := HJ1.out; have := HK2.out; omega⟩, ⟨by (with_reducible repeat (first | apply rrA | apply rrN | apply rrD)); exact HO298.out⟩, ⟨by (with_reducible repeat (first | refine kkN ?_ _ | refine kkD ?_ | refine kkA ?_ _)); exact BK290.out⟩, ⟨by repeat (first | (with_reducible first | exact HB.out | apply zzA | apply zzN | apply zzD | refine below_set ?_ GE290.out) | exact HB.out)⟩⟩
    replace c19 := Bool.eq_false_iff.mpr c19
    subst c19
    have H1 : (if x4_2.length < 17592186044416 then (thrumref10_Loosen.l0 k2 (x4_2 ++ [t293]) l0_6 (l0_6.length : Int) (wrap64 (x20_2 + 1)) a0_0 a0_1 l0_2 l0_3 a0_4 a0_5 l0_6 l0_7) else (none)) = some (r1, r2) := by rw [if_neg (show ¬ (false = true) by decide)] at H; exact H
    clear H
    have H := H1
    clear H1
    by_cases c23 : x4_2.length < 17592186044416
    case neg =>
     rw [if_neg c23] at H
     exact absurd H (by simp)
    rw [if_pos c23] at H
    have LMc23 := ZM c23
    clear c23
    obtain ⟨y299, hy299⟩ : ∃ y_ : List Int, y_ = (x4_2 ++ [t293]) := ⟨_, rfl⟩
    replace H : (thrumref10_Loosen.l0 k2 y299 l0_6 (l0_6.length : Int) (wrap64 (x20_2 + 1)) a0_0 a0_1 l0_2 l0_3 a0_4 a0_5 l0_6 l0_7) = some (r1, r2) := by first | (rw [hy299]; with_reducible exact H) | (have H2_ := (Option.bind_some _ _).symm.trans H; rw [hy299]; with_reducible exact H2_) | (have H2_ := (Option.bind_some _ _).symm.trans H; with_reducible exact H2_) | with_reducible exact H | (rw [hy299]; exact H) | exact H
    have Ny299 := ZM hy299
    clear hy299
    have H' := ZM H
    clear H
    have p292 : 0 ≤ (x20_2 : Int) := of_decide_eq_true Z2
    have q292 : x20_2 < (l0_6.length : Int) := of_decide_eq_true Z2
    obtain ⟨ad292, e292, hx292_0⟩ := Kd.at_int HR0_6.out x20_2 p292 q292
    cases e292
    replace hx292_0 := (HB.out.cell (World.block_lt_of_cell? w _ hx292_0)).trans hx292_0
    replace p292 := eq_true p292
    replace q292 := eq_true q292
    obtain ⟨hcz24_0, hcz24_1, hcz24_2, hcz24_3, hcz24_4, hcz24_5, hcz24_6, hcz24_7, hfz24_0, hfz24_1, hfz24_2, hfz24_3, hfz24_4, hfz24_5, hfz24_6, hfz24_7⟩ := Y8f BK290
    go_wp2_with (first | ((with_reducible refine gate_callee (f := 50) rfl ?_); refine goesL_ (some 31) rfl rfl Try.func50 (by kernel_rfl) rfl #[.int .u64 (rd l0_6 x20_2), .int .i64 a0_4, .int .i64 a0_5] rfl Z1 ?_; (with_reducible refine (thrumref10_Value.calls (rd l0_6 x20_2) a0_4 a0_5 t293 t294 _ A16.out).mono ?_); rintro e w' ⟨rfl, ⟨nd, rfl⟩⟩; refine ⟨_, rfl, ?_⟩; have p295 : 0 ≤ (x20_2 : Int) := of_decide_eq_true Z2; have q295 : x20_2 < (l0_7.length : Int) := of_decide_eq_true Z2; obtain ⟨ad295, e295, hx295_0⟩ := Kd.at_bool HR0_7.out x20_2 p295 q295; (try rw [← Nbq18.out] at hx295_0); cases e295; replace hx295_0 := (HB.out.cell (World.block_lt_of_cell? w _ hx295_0)).trans hx295_0; replace p295 := eq_true p295; replace q295 := eq_true q295) | ((with_reducible refine gate_builtin (b := .append) (xs := #[.tmp 41, .tmp 43]) rfl ?_); at_builtin; refine Kd.R_append (Kd.int .i64) (w0 := w) w.heap.size rfl (.tmp 41) (.tmp 43) 27 2 (.int .i64 0) 8 rfl Try.underlying27 info2 rfl (by decide) (by omega) u4 x4_2 t293 [.int .i64 t293] (fun _ => True) (fun _ => False) rfl rfl ?aP (fun _ hk => hk.elim) ?aF ?aO ?aB ?aS ?aL ?_; (case aP => exact rfl); (case aB => exact Z35); (case aF => exact (fun _ _ => trivial)); (case aO => exact (Zr HO_4)); (case aS => exact (zzS Z35)); (case aL => have := LMc23.out; omega); intro v300 w25 ho hb hg hat; rw [← Ny299.out] at ho; replace BK290 := ZM (blk_grown (g := gb290) (o := .cells #[.int .i64 a0_0, .int .i64 a0_1, .slice A0_2 l0_2.length c0_2, .slice A0_3 l0_3.length c0_3, .int .i64 a0_4, .int .i64 a0_5, .slice (some ad292) l0_6.length c0_6, .slice (some ad295) l0_7.length c0_7] 30 (0, 0)) (Zk BK290) hg (Kd.R_ne HO_4.out BK290.out (by decide))); have HO301 := ZM (ho); replace HB := ZM (hb); clear HO_4; clear ho hb hg hat))
    go_roundg k2
    case measure => have := HJ1.out; have := HK2.out; omega
    case rel => exact ⟨(y299), (wrap64 (x20_2 + 1)), Z5, H', ⟨by have := HJ1.out; have := HK2.out; omega⟩, ⟨by (with_reducible repeat (first | apply rrA | apply rrN | apply rrD)); exact HO301.out⟩, ⟨by (with_reducible repeat (first | refine kkN ?_ _ | refine kkD ?_ | refine kkA ?_ _)); exact BK290.out⟩, ⟨by repeat (first | (with_reducible first | exact HB.out | apply zzA | apply zzN | apply zzD | refine below_set ?_ GE290.out) | exact HB.out)⟩⟩
end Go.Proofs.Ytkfhdpnfcaghbaa.HQ
