/- What Go functions do, each as a plain Lean function with the same answers, and the proof of it, in every world: printed by the session's driver over the kit's print, with texts by hand. -/
import Derived.Test.YtkfhdpnfcaghbaaHQx0
import Derived.Test.YtkfhdpnfcaghbaaHQx14
import Derived.Test.YtkfhdpnfcaghbaaMini
namespace Go.Proofs.Ytkfhdpnfcaghbaa.HQ
open Go.RowKit Go.Proofs.YtkfhdpnfcaghbaaW.PrintWords Go.Proofs.YtkfhdpnfcaghbaaW.PrintLast Go.Proofs.YtkfhdpnfcaghbaaW.PrintMore
attribute [local go_sem] max2_int min2_int max_two min_two max_three min_three max_four min_four   -- for this text's walks alone
open Go.Proofs.Ytkfhdpnfcaghbaa.Sp
attribute [local go_sem] Go.Proofs.Ytkfhdpnfcaghbaa.Sp.u64_not
set_option linter.unusedVariables false
set_option linter.unusedSimpArgs false

/-! ### thrumref07_MayP: function 85 -/
mutual
def thrumref07_MayP.j0 : Nat → Bool → Int → Int → List Int → List Int → Int → Int → List Int → List Bool → Option (Bool)
 | 0, _, _, _, _, _, _, _, _, _ => none
 | k + 1, x15, x287000, x287001, x287002, x287003, x287004, x287005, x287006, x287007 => if x15 = true then (some false) else (if (x287002.length : Int) = 0 then (thrumref07_MayP.j1 k ((x287003.length : Int) == 0) x287000 x287001 x287002 x287003 x287004 x287005 x287006 x287007) else (thrumref07_MayP.j1 k false x287000 x287001 x287002 x287003 x287004 x287005 x287006 x287007))
def thrumref07_MayP.j1 : Nat → Bool → Int → Int → List Int → List Int → Int → Int → List Int → List Bool → Option (Bool)
 | 0, _, _, _, _, _, _, _, _, _ => none
 | k + 1, x3, x287000, x287001, x287002, x287003, x287004, x287005, x287006, x287007 => if x287005 = 0 then (thrumref07_MayP.j2 k x3 ((x287006.length : Int) == 0) x287000 x287001 x287002 x287003 x287004 x287005 x287006 x287007) else (thrumref07_MayP.j2 k x3 false x287000 x287001 x287002 x287003 x287004 x287005 x287006 x287007)
def thrumref07_MayP.j2 : Nat → Bool → Bool → Int → Int → List Int → List Int → Int → Int → List Int → List Bool → Option (Bool)
 | 0, _, _, _, _, _, _, _, _, _, _ => none
 | k + 1, x3, x4, x287000, x287001, x287002, x287003, x287004, x287005, x287006, x287007 => if x287004 = 0 then (thrumref07_MayP.j3 k x3 x4 ((x287007.length : Int) == 0) x287000 x287001 x287002 x287003 x287004 x287005 x287006 x287007) else (thrumref07_MayP.j3 k x3 x4 false x287000 x287001 x287002 x287003 x287004 x287005 x287006 x287007)
def thrumref07_MayP.j3 : Nat → Bool → Bool → Bool → Int → Int → List Int → List Int → Int → Int → List Int → List Bool → Option (Bool)
 | 0, _, _, _, _, _, _, _, _, _, _, _ => none
 | k + 1, x3, x4, x5, x287000, x287001, x287002, x287003, x287004, x287005, x287006, x287007 => if x287000 = 0 then (if (x287002.length : Int) = 0 then (if (x287003.length : Int) = x287001 then (if x4 = true then (some x5) else (some false)) else (some false)) else (some false)) else (if x287000 = 1 then ((thrumref06_Check.f x287001 x287002).bind fun t287 => (if t287 = 0 then (if (x287003.length : Int) = (x287002.length : Int) then (if x4 = true then (some x5) else (some false)) else (some false)) else (some false))) else (if x287000 = 2 then (if x287005 < 1 then (thrumref07_MayP.j4 k x3 true x287000 x287001 x287002 x287003 x287004 x287005 x287006 x287007) else (if x287005 > 8 then (thrumref07_MayP.j4 k x3 true x287000 x287001 x287002 x287003 x287004 x287005 x287006 x287007) else (thrumref07_MayP.j4 k x3 ((x287006.length : Int) != x287001) x287000 x287001 x287002 x287003 x287004 x287005 x287006 x287007))) else (if x287000 = 3 then (if x3 = true then (if x4 = true then (if x287004 ≥ 0 then (some ((x287007.length : Int) == x287001)) else (some false)) else (some false)) else (some false)) else (some false))))
def thrumref07_MayP.j4 : Nat → Bool → Bool → Int → Int → List Int → List Int → Int → Int → List Int → List Bool → Option (Bool)
 | 0, _, _, _, _, _, _, _, _, _, _ => none
 | k + 1, x3, x106, x287000, x287001, x287002, x287003, x287004, x287005, x287006, x287007 => if x106 = true then (some false) else (thrumref07_MayP.l0 k x3 x287006 (x287006.length : Int) 0 x287000 x287001 x287002 x287003 x287004 x287005 x287006 x287007)
def thrumref07_MayP.l0 : Nat → Bool → List Int → Int → Int → Int → Int → List Int → List Int → Int → Int → List Int → List Bool → Option (Bool)
 | 0, _, _, _, _, _, _, _, _, _, _, _, _ => none
 | k + 1, x3, x108, x109, x110, x287000, x287001, x287002, x287003, x287004, x287005, x287006, x287007 => if x110 < x109 then (if 0 ≤ x110 then (if x110 < (x108.length : Int) then ((thrumref05_Width.f (rd x108 x110)).bind fun t289 => (if t289 > x287005 then (some false) else (thrumref07_MayP.l0 k x3 x108 x109 (wrap64 (x110 + 1)) x287000 x287001 x287002 x287003 x287004 x287005 x287006 x287007))) else (none)) else (none)) else (if x3 = true then (if x287004 ≥ 0 then (some ((x287007.length : Int) == x287001)) else (some false)) else (some false))
end
def thrumref07_MayP.f (k : Nat) (a0_0 : Int) (a0_1 : Int) (l0_2 : List Int) (l0_3 : List Int) (a0_4 : Int) (a0_5 : Int) (l0_6 : List Int) (l0_7 : List Bool) : Option (Bool) := if a0_1 < 1 then (thrumref07_MayP.j0 k true a0_0 a0_1 l0_2 l0_3 a0_4 a0_5 l0_6 l0_7) else (thrumref07_MayP.j0 k (decide (a0_1 > 4096)) a0_0 a0_1 l0_2 l0_3 a0_4 a0_5 l0_6 l0_7)
theorem thrumref07_MayP.mono_l : ∀ k, (∀ y0 y1 y2 y3 y4 y5 y6 y7 y8, LeO (thrumref07_MayP.j0 k y0 y1 y2 y3 y4 y5 y6 y7 y8) (thrumref07_MayP.j0 (k + 1) y0 y1 y2 y3 y4 y5 y6 y7 y8)) ∧ (∀ y0 y1 y2 y3 y4 y5 y6 y7 y8, LeO (thrumref07_MayP.j1 k y0 y1 y2 y3 y4 y5 y6 y7 y8) (thrumref07_MayP.j1 (k + 1) y0 y1 y2 y3 y4 y5 y6 y7 y8)) ∧ (∀ y0 y1 y2 y3 y4 y5 y6 y7 y8 y9, LeO (thrumref07_MayP.j2 k y0 y1 y2 y3 y4 y5 y6 y7 y8 y9) (thrumref07_MayP.j2 (k + 1) y0 y1 y2 y3 y4 y5 y6 y7 y8 y9)) ∧ (∀ y0 y1 y2 y3 y4 y5 y6 y7 y8 y9 y10, LeO (thrumref07_MayP.j3 k y0 y1 y2 y3 y4 y5 y6 y7 y8 y9 y10) (thrumref07_MayP.j3 (k + 1) y0 y1 y2 y3 y4 y5 y6 y7 y8 y9 y10)) ∧ (∀ y0 y1 y2 y3 y4 y5 y6 y7 y8 y9, LeO (thrumref07_MayP.j4 k y0 y1 y2 y3 y4 y5 y6 y7 y8 y9) (thrumref07_MayP.j4 (k + 1) y0 y1 y2 y3 y4 y5 y6 y7 y8 y9)) ∧ (∀ y0 y1 y2 y3 y4 y5 y6 y7 y8 y9 y10 y11, LeO (thrumref07_MayP.l0 k y0 y1 y2 y3 y4 y5 y6 y7 y8 y9 y10 y11) (thrumref07_MayP.l0 (k + 1) y0 y1 y2 y3 y4 y5 y6 y7 y8 y9 y10 y11))
 | 0 => ⟨fun _ _ _ _ _ _ _ _ _ r h => by simp [thrumref07_MayP.j0] at h, fun _ _ _ _ _ _ _ _ _ r h => by simp [thrumref07_MayP.j1] at h, fun _ _ _ _ _ _ _ _ _ _ r h => by simp [thrumref07_MayP.j2] at h, fun _ _ _ _ _ _ _ _ _ _ _ r h => by simp [thrumref07_MayP.j3] at h, fun _ _ _ _ _ _ _ _ _ _ r h => by simp [thrumref07_MayP.j4] at h, fun _ _ _ _ _ _ _ _ _ _ _ _ r h => by simp [thrumref07_MayP.l0] at h⟩
 | k + 1 => by
  obtain ⟨ih0, ih1, ih2, ih3, ih4, ih5⟩ := thrumref07_MayP.mono_l k
  refine ⟨?_, ?_, ?_, ?_, ?_, ?_⟩
  ·
   intro y0 y1 y2 y3 y4 y5 y6 y7 y8
   unfold thrumref07_MayP.j0
   repeat' first
   | (with_reducible exact ih0 _ _ _ _ _ _ _ _ _)
   | (with_reducible exact ih1 _ _ _ _ _ _ _ _ _)
   | (with_reducible exact ih2 _ _ _ _ _ _ _ _ _ _)
   | (with_reducible exact ih3 _ _ _ _ _ _ _ _ _ _ _)
   | (with_reducible exact ih4 _ _ _ _ _ _ _ _ _ _)
   | (with_reducible exact ih5 _ _ _ _ _ _ _ _ _ _ _ _)
   | (with_reducible exact LeO.refl _)
   | (with_reducible exact LeO.none _)
   | (with_reducible refine LeO.ite ?_ ?_)
   | (with_reducible refine LeO.bind ?_ (fun _ => ?_))
  ·
   intro y0 y1 y2 y3 y4 y5 y6 y7 y8
   unfold thrumref07_MayP.j1
   repeat' first
   | (with_reducible exact ih0 _ _ _ _ _ _ _ _ _)
   | (with_reducible exact ih1 _ _ _ _ _ _ _ _ _)
   | (with_reducible exact ih2 _ _ _ _ _ _ _ _ _ _)
   | (with_reducible exact ih3 _ _ _ _ _ _ _ _ _ _ _)
   | (with_reducible exact ih4 _ _ _ _ _ _ _ _ _ _)
   | (with_reducible exact ih5 _ _ _ _ _ _ _ _ _ _ _ _)
   | (with_reducible exact LeO.refl _)
   | (with_reducible exact LeO.none _)
   | (with_reducible refine LeO.ite ?_ ?_)
   | (with_reducible refine LeO.bind ?_ (fun _ => ?_))
  ·
   intro y0 y1 y2 y3 y4 y5 y6 y7 y8 y9
   unfold thrumref07_MayP.j2
   repeat' first
   | (with_reducible exact ih0 _ _ _ _ _ _ _ _ _)
   | (with_reducible exact ih1 _ _ _ _ _ _ _ _ _)
   | (with_reducible exact ih2 _ _ _ _ _ _ _ _ _ _)
   | (with_reducible exact ih3 _ _ _ _ _ _ _ _ _ _ _)
   | (with_reducible exact ih4 _ _ _ _ _ _ _ _ _ _)
   | (with_reducible exact ih5 _ _ _ _ _ _ _ _ _ _ _ _)
   | (with_reducible exact LeO.refl _)
   | (with_reducible exact LeO.none _)
   | (with_reducible refine LeO.ite ?_ ?_)
   | (with_reducible refine LeO.bind ?_ (fun _ => ?_))
  ·
   intro y0 y1 y2 y3 y4 y5 y6 y7 y8 y9 y10
   unfold thrumref07_MayP.j3
   repeat' first
   | (with_reducible exact ih0 _ _ _ _ _ _ _ _ _)
   | (with_reducible exact ih1 _ _ _ _ _ _ _ _ _)
   | (with_reducible exact ih2 _ _ _ _ _ _ _ _ _ _)
   | (with_reducible exact ih3 _ _ _ _ _ _ _ _ _ _ _)
   | (with_reducible exact ih4 _ _ _ _ _ _ _ _ _ _)
   | (with_reducible exact ih5 _ _ _ _ _ _ _ _ _ _ _ _)
   | (with_reducible exact LeO.refl _)
   | (with_reducible exact LeO.none _)
   | (with_reducible refine LeO.ite ?_ ?_)
   | (with_reducible refine LeO.bind ?_ (fun _ => ?_))
  ·
   intro y0 y1 y2 y3 y4 y5 y6 y7 y8 y9
   unfold thrumref07_MayP.j4
   repeat' first
   | (with_reducible exact ih0 _ _ _ _ _ _ _ _ _)
   | (with_reducible exact ih1 _ _ _ _ _ _ _ _ _)
   | (with_reducible exact ih2 _ _ _ _ _ _ _ _ _ _)
   | (with_reducible exact ih3 _ _ _ _ _ _ _ _ _ _ _)
   | (with_reducible exact ih4 _ _ _ _ _ _ _ _ _ _)
   | (with_reducible exact ih5 _ _ _ _ _ _ _ _ _ _ _ _)
   | (with_reducible exact LeO.refl _)
   | (with_reducible exact LeO.none _)
   | (with_reducible refine LeO.ite ?_ ?_)
   | (with_reducible refine LeO.bind ?_ (fun _ => ?_))
  ·
   intro y0 y1 y2 y3 y4 y5 y6 y7 y8 y9 y10 y11
   unfold thrumref07_MayP.l0
   repeat' first
   | (with_reducible exact ih0 _ _ _ _ _ _ _ _ _)
   | (with_reducible exact ih1 _ _ _ _ _ _ _ _ _)
   | (with_reducible exact ih2 _ _ _ _ _ _ _ _ _ _)
   | (with_reducible exact ih3 _ _ _ _ _ _ _ _ _ _ _)
   | (with_reducible exact ih4 _ _ _ _ _ _ _ _ _ _)
   | (with_reducible exact ih5 _ _ _ _ _ _ _ _ _ _ _ _)
   | (with_reducible exact LeO.refl _)
   | (with_reducible exact LeO.none _)
   | (with_reducible refine LeO.ite ?_ ?_)
   | (with_reducible refine LeO.bind ?_ (fun _ => ?_))
theorem thrumref07_MayP.mono : ∀ a0 a1 a2 a3 a4 a5 a6 a7 k, LeO (thrumref07_MayP.f k a0 a1 a2 a3 a4 a5 a6 a7) (thrumref07_MayP.f (k + 1) a0 a1 a2 a3 a4 a5 a6 a7) := by
 intro a0 a1 a2 a3 a4 a5 a6 a7 k
 obtain ⟨ih0, ih1, ih2, ih3, ih4, ih5⟩ := thrumref07_MayP.mono_l k
 unfold thrumref07_MayP.f
 repeat' first
   | (with_reducible exact ih0 _ _ _ _ _ _ _ _ _)
   | (with_reducible exact ih1 _ _ _ _ _ _ _ _ _)
   | (with_reducible exact ih2 _ _ _ _ _ _ _ _ _ _)
   | (with_reducible exact ih3 _ _ _ _ _ _ _ _ _ _ _)
   | (with_reducible exact ih4 _ _ _ _ _ _ _ _ _ _)
   | (with_reducible exact ih5 _ _ _ _ _ _ _ _ _ _ _ _)
   | (with_reducible exact LeO.refl _)
   | (with_reducible exact LeO.none _)
   | (with_reducible refine LeO.ite ?_ ?_)
   | (with_reducible refine LeO.bind ?_ (fun _ => ?_))
set_option maxHeartbeats 8000000 in
set_option maxRecDepth 100000 in
theorem thrumref07_MayP.calls (k : Nat) (a0_0 : Int) (a0_1 : Int) (A0_2 : Option Addr) (c0_2 : Nat) (l0_2 : List Int) (A0_3 : Option Addr) (c0_3 : Nat) (l0_3 : List Int) (a0_4 : Int) (a0_5 : Int) (A0_6 : Option Addr) (c0_6 : Nat) (l0_6 : List Int) (A0_7 : Option Addr) (c0_7 : Nat) (l0_7 : List Bool) (r : Bool) (w : World) (hr0_2 : Kd.C (Kd.int .i64) w A0_2 l0_2.length l0_2) (hc0_2 : l0_2.length ≤ c0_2) (hr0_3 : Kd.C (Kd.int .i64) w A0_3 l0_3.length l0_3) (hc0_3 : l0_3.length ≤ c0_3) (hr0_6 : Kd.C (Kd.int .u64) w A0_6 l0_6.length l0_6) (hc0_6 : l0_6.length ≤ c0_6) (hr0_7 : Kd.C Kd.bool w A0_7 l0_7.length l0_7) (hc0_7 : l0_7.length ≤ c0_7) (h : thrumref07_MayP.f k a0_0 a0_1 l0_2 l0_3 a0_4 a0_5 l0_6 l0_7 = some r) :
  Calls Try.prog 85 #[.agg #[.int .i64 a0_0, .int .i64 a0_1, .slice A0_2 l0_2.length c0_2, .slice A0_3 l0_3.length c0_3, .int .i64 a0_4, .int .i64 a0_5, .slice A0_6 l0_6.length c0_6, .slice A0_7 l0_7.length c0_7]] w fun e w' => e = .returned (.bool r) ∧ Below w.heap.size w w' := by
 have hu30 := Try.underlying30
 have HR0_2 := ZM hr0_2
 have HC0_2 := ZM hc0_2
 clear hr0_2 hc0_2
 have HR0_3 := ZM hr0_3
 have HC0_3 := ZM hc0_3
 clear hr0_3 hc0_3
 have HR0_6 := ZM hr0_6
 have HC0_6 := ZM hc0_6
 clear hr0_6 hc0_6
 have HR0_7 := ZM hr0_7
 have HC0_7 := ZM hc0_7
 clear hr0_7 hc0_7
 have HB := ZM (Below.refl w.heap.size w)
 have H : (if a0_1 < 1 then (thrumref07_MayP.j0 k true a0_0 a0_1 l0_2 l0_3 a0_4 a0_5 l0_6 l0_7) else (thrumref07_MayP.j0 k (decide (a0_1 > 4096)) a0_0 a0_1 l0_2 l0_3 a0_4 a0_5 l0_6 l0_7)) = some r := h
 clear h
 have HC2 := ZM H
 clear H
 go_enter Try.func85, Try.ntmps85
 go_upto_region 1 with (first | ((with_reducible refine gate_dst (N := 1) rfl ?_); (try (refine gate_guard (by rfl) ?_; dsimp only)); refine box_event ?hg (N := 1) ?hd (cs := #[.int .i64 a0_0, .int .i64 a0_1, .slice A0_2 l0_2.length c0_2, .slice A0_3 l0_3.length c0_3, .int .i64 a0_4, .int .i64 a0_5, .slice A0_6 l0_6.length c0_6, .slice A0_7 l0_7.length c0_7]) (t := 30) ?hr ?_; (case hd => rfl); (case hg => rfl); (case hr => exact Z12); intro gb286 hg w3 hbox hb; have BK286 := ZM (hbox); have GW286 := ZM ((by rw [hg]; exact (zzS Z3) : w.heap.size ≤ gb286)); have GE286 := ZM ((by rw [hg]; exact (zzS Z3) : w.heap.size ≤ gb286)); replace HB := ZM (zzT Z3 hb); clear hb hbox hg))
 repeat (go_quiet (first | ((with_reducible refine gate_dst (N := 1) rfl ?_); (try (refine gate_guard (by rfl) ?_; dsimp only)); refine box_event ?hg (N := 1) ?hd (cs := #[.int .i64 a0_0, .int .i64 a0_1, .slice A0_2 l0_2.length c0_2, .slice A0_3 l0_3.length c0_3, .int .i64 a0_4, .int .i64 a0_5, .slice A0_6 l0_6.length c0_6, .slice A0_7 l0_7.length c0_7]) (t := 30) ?hr ?_; (case hd => rfl); (case hg => rfl); (case hr => exact Z12); intro gb286 hg w3 hbox hb; have BK286 := ZM (hbox); have GW286 := ZM ((by rw [hg]; exact (zzS Z3) : w.heap.size ≤ gb286)); have GE286 := ZM ((by rw [hg]; exact (zzS Z3) : w.heap.size ≤ gb286)); replace HB := ZM (zzT Z3 hb); clear hb hbox hg)); go_upto_region 1 with (first | ((with_reducible refine gate_dst (N := 1) rfl ?_); (try (refine gate_guard (by rfl) ?_; dsimp only)); refine box_event ?hg (N := 1) ?hd (cs := #[.int .i64 a0_0, .int .i64 a0_1, .slice A0_2 l0_2.length c0_2, .slice A0_3 l0_3.length c0_3, .int .i64 a0_4, .int .i64 a0_5, .slice A0_6 l0_6.length c0_6, .slice A0_7 l0_7.length c0_7]) (t := 30) ?hr ?_; (case hd => rfl); (case hg => rfl); (case hr => exact Z12); intro gb286 hg w3 hbox hb; have BK286 := ZM (hbox); have GW286 := ZM ((by rw [hg]; exact (zzS Z3) : w.heap.size ≤ gb286)); have GE286 := ZM ((by rw [hg]; exact (zzS Z3) : w.heap.size ≤ gb286)); replace HB := ZM (zzT Z3 hb); clear hb hbox hg)))
 (try simp only [Act.put, Zt])
 go_cut [15] (fun v15 wc => ∃ (kq : Nat) (x15_1 : Bool), v15 = .bool x15_1 ∧ Aside0 (thrumref07_MayP.j0 kq x15_1 a0_0 a0_1 l0_2 l0_3 a0_4 a0_5 l0_6 l0_7 = some r) ∧ Aside0 (kq ≤ k) ∧ Aside0 (wc.heap[gb286]? = some (.cells #[.int .i64 a0_0, .int .i64 a0_1, (.slice A0_2 l0_2.length c0_2), (.slice A0_3 l0_3.length c0_3), .int .i64 a0_4, .int .i64 a0_5, (.slice A0_6 l0_6.length c0_6), (.slice A0_7 l0_7.length c0_7)] 30 (0, 0))) ∧ Aside0 (Below w.heap.size w wc))
 case first =>
  have H := HC2.out
  clear HC2
  by_cases c4 : a0_1 < 1
  case neg =>
   rw [if_neg c4] at H
   have c4b0 : decide (a0_1 < 1) = false := decide_eq_false c4
   clear c4
   (first | rw [c4b0] | (simp only [i64_w, i32_w]; rw [c4b0]) | skip)
   have H' := ZM H
   clear H
   obtain ⟨hcz6_0, hcz6_1, hcz6_2, hcz6_3, hcz6_4, hcz6_5, hcz6_6, hcz6_7, hfz6_0, hfz6_1, hfz6_2, hfz6_3, hfz6_4, hfz6_5, hfz6_6, hfz6_7⟩ := Y8f BK286
   go_wp2
   repeat (go_quiet (fail); try go_wp2)
   go_meet
   case rel => exact ⟨_, (decide (a0_1 > 4096)), Z5, H', ⟨by first | omega | exact Nat.le_refl _⟩, ⟨by (with_reducible repeat (first | refine kkN ?_ _ | refine kkD ?_ | refine kkA ?_ _)); exact BK286.out⟩, ⟨by repeat (first | (with_reducible first | exact HB.out | apply zzA | apply zzN | apply zzD | refine below_set ?_ GE286.out) | exact HB.out)⟩⟩
  rw [if_pos c4] at H
  have c4b0 : decide (a0_1 < 1) = true := decide_eq_true c4
  clear c4
  (first | rw [c4b0] | (simp only [i64_w, i32_w]; rw [c4b0]) | skip)
  have H' := ZM H
  clear H
  obtain ⟨hcz5_0, hcz5_1, hcz5_2, hcz5_3, hcz5_4, hcz5_5, hcz5_6, hcz5_7, hfz5_0, hfz5_1, hfz5_2, hfz5_3, hfz5_4, hfz5_5, hfz5_6, hfz5_7⟩ := Y8f BK286
  go_wp2
  repeat (go_quiet (fail); try go_wp2)
  go_meet
  case rel => exact ⟨_, (true), Z5, H', ⟨by first | omega | exact Nat.le_refl _⟩, ⟨by (with_reducible repeat (first | refine kkN ?_ _ | refine kkD ?_ | refine kkA ?_ _)); exact BK286.out⟩, ⟨by repeat (first | (with_reducible first | exact HB.out | apply zzA | apply zzN | apply zzD | refine below_set ?_ GE286.out) | exact HB.out)⟩⟩
 clear HC2
 obtain ⟨kq, x15_1, rfl, HA, HJ1, BK286, HB⟩ := hcut
 cases kq with
 | zero => exact absurd HA.out (by simp [thrumref07_MayP.j0])
 | succ kj1 =>
  have H := HA.out
  clear HA
  simp only [thrumref07_MayP.j0] at H
  by_cases c7 : x15_1 = true
  ·
   subst c7
   have H1 : (some false) = some r := by rw [if_pos rfl] at H; exact H
   clear H
   have H := H1
   clear H1
   obtain rfl := Option.some.inj H
   go_wp2
   repeat (go_quiet (fail); try go_wp2)
   go_ret
   exact ⟨by first | rfl | (simp [errW_none, errW_some] <;> rfl) | (simp [*, errW_none, errW_some] <;> rfl), by repeat (first | (with_reducible first | exact HB.out | apply zzA | apply zzN | apply zzD | refine below_set ?_ GE286.out) | exact HB.out)⟩
  replace c7 := Bool.eq_false_iff.mpr c7
  subst c7
  have H1 : (if (l0_2.length : Int) = 0 then (thrumref07_MayP.j1 kj1 ((l0_3.length : Int) == 0) a0_0 a0_1 l0_2 l0_3 a0_4 a0_5 l0_6 l0_7) else (thrumref07_MayP.j1 kj1 false a0_0 a0_1 l0_2 l0_3 a0_4 a0_5 l0_6 l0_7)) = some r := by rw [if_neg (show ¬ (false = true) by decide)] at H; exact H
  clear H
  have H := H1
  clear H1
  have HC8 := ZM H
  clear H
  go_upto_region 3 with (fail)
  repeat (go_quiet (fail); go_upto_region 3 with (fail))
  go_cut [3] (fun v3 wc => ∃ (kq : Nat) (x3_7 : Bool), v3 = .bool x3_7 ∧ Aside0 (thrumref07_MayP.j1 kq x3_7 a0_0 a0_1 l0_2 l0_3 a0_4 a0_5 l0_6 l0_7 = some r) ∧ Aside0 (kq ≤ kj1) ∧ Aside0 (wc.heap[gb286]? = some (.cells #[.int .i64 a0_0, .int .i64 a0_1, (.slice A0_2 l0_2.length c0_2), (.slice A0_3 l0_3.length c0_3), .int .i64 a0_4, .int .i64 a0_5, (.slice A0_6 l0_6.length c0_6), (.slice A0_7 l0_7.length c0_7)] 30 (0, 0))) ∧ Aside0 (Below w.heap.size w wc))
  case first =>
   have H := HC8.out
   clear HC8
   by_cases c9 : (l0_2.length : Int) = 0
   case neg =>
    rw [if_neg c9] at H
    have c9b0 : ((l0_2.length : Int) == 0) = false := beq_eq_false_iff_ne.mpr c9
    have c9b1 : ((l0_2.length : Int) != 0) = true := bne_iff_ne.mpr c9
    have c9b2 : ¬ (l0_2 = []) := fun h_ => c9 (by rw [h_]; rfl)
    (first | rw [c9b0] | (simp only [i64_w, i32_w]; rw [c9b0]) | skip)
    have H' := ZM H
    clear H
    obtain ⟨hcz11_0, hcz11_1, hcz11_2, hcz11_3, hcz11_4, hcz11_5, hcz11_6, hcz11_7, hfz11_0, hfz11_1, hfz11_2, hfz11_3, hfz11_4, hfz11_5, hfz11_6, hfz11_7⟩ := Y8f BK286
    go_wp2
    repeat (go_quiet (fail); try go_wp2)
    go_meet
    case rel => exact ⟨_, (false), Z5, H', ⟨by have := HJ1.out; first | omega | exact Nat.le_refl _⟩, ⟨by (with_reducible repeat (first | refine kkN ?_ _ | refine kkD ?_ | refine kkA ?_ _)); exact BK286.out⟩, ⟨by repeat (first | (with_reducible first | exact HB.out | apply zzA | apply zzN | apply zzD | refine below_set ?_ GE286.out) | exact HB.out)⟩⟩
   rw [if_pos c9] at H
   have c9b0 : ((l0_2.length : Int) == 0) = true := beq_iff_eq.mpr c9
   have c9b1 : ((l0_2.length : Int) != 0) = false := bne_eq_false_iff_eq.mpr c9
   clear c9
   (first | rw [c9b0] | (simp only [i64_w, i32_w]; rw [c9b0]) | skip)
   have H' := ZM H
   clear H
   obtain ⟨hcz10_0, hcz10_1, hcz10_2, hcz10_3, hcz10_4, hcz10_5, hcz10_6, hcz10_7, hfz10_0, hfz10_1, hfz10_2, hfz10_3, hfz10_4, hfz10_5, hfz10_6, hfz10_7⟩ := Y8f BK286
   go_wp2
   repeat (go_quiet (fail); try go_wp2)
   go_meet
   case rel => exact ⟨_, (((l0_3.length : Int) == 0)), Z5, H', ⟨by have := HJ1.out; first | omega | exact Nat.le_refl _⟩, ⟨by (with_reducible repeat (first | refine kkN ?_ _ | refine kkD ?_ | refine kkA ?_ _)); exact BK286.out⟩, ⟨by repeat (first | (with_reducible first | exact HB.out | apply zzA | apply zzN | apply zzD | refine below_set ?_ GE286.out) | exact HB.out)⟩⟩
  clear HC8
  try clear c7
  obtain ⟨kq, x3_7, rfl, HA, HJ7, BK286, HB⟩ := hcut
  cases kq with
  | zero => exact absurd HA.out (by simp [thrumref07_MayP.j1])
  | succ kj7 =>
   have H := HA.out
   clear HA
   simp only [thrumref07_MayP.j1] at H
   have HC12 := ZM H
   clear H
   go_upto_region 4 with (fail)
   repeat (go_quiet (fail); go_upto_region 4 with (fail))
   go_cut [4] (fun v4 wc => ∃ (kq : Nat) (x4_11 : Bool), v4 = .bool x4_11 ∧ Aside0 (thrumref07_MayP.j2 kq x3_7 x4_11 a0_0 a0_1 l0_2 l0_3 a0_4 a0_5 l0_6 l0_7 = some r) ∧ Aside0 (kq ≤ kj7) ∧ Aside0 (wc.heap[gb286]? = some (.cells #[.int .i64 a0_0, .int .i64 a0_1, (.slice A0_2 l0_2.length c0_2), (.slice A0_3 l0_3.length c0_3), .int .i64 a0_4, .int .i64 a0_5, (.slice A0_6 l0_6.length c0_6), (.slice A0_7 l0_7.length c0_7)] 30 (0, 0))) ∧ Aside0 (Below w.heap.size w wc))
   case first =>
    have H := HC12.out
    clear HC12
    by_cases c13 : a0_5 = 0
    case neg =>
     rw [if_neg c13] at H
     have c13b0 : (a0_5 == 0) = false := beq_eq_false_iff_ne.mpr c13
     have c13b1 : (a0_5 != 0) = true := bne_iff_ne.mpr c13
     (first | rw [c13b0] | (simp only [i64_w, i32_w]; rw [c13b0]) | skip)
     have H' := ZM H
     clear H
     obtain ⟨hcz15_0, hcz15_1, hcz15_2, hcz15_3, hcz15_4, hcz15_5, hcz15_6, hcz15_7, hfz15_0, hfz15_1, hfz15_2, hfz15_3, hfz15_4, hfz15_5, hfz15_6, hfz15_7⟩ := Y8f BK286
     go_wp2
     repeat (go_quiet (fail); try go_wp2)
     go_meet
     case rel => exact ⟨_, (false), Z5, H', ⟨by have := HJ1.out; have := HJ7.out; first | omega | exact Nat.le_refl _⟩, ⟨by (with_reducible repeat (first | refine kkN ?_ _ | refine kkD ?_ | refine kkA ?_ _)); exact BK286.out⟩, ⟨by repeat (first | (with_reducible first | exact HB.out | apply zzA | apply zzN | apply zzD | refine below_set ?_ GE286.out) | exact HB.out)⟩⟩
    rw [if_pos c13] at H
    have c13b0 : (a0_5 == 0) = true := beq_iff_eq.mpr c13
    have c13b1 : (a0_5 != 0) = false := bne_eq_false_iff_eq.mpr c13
    clear c13
    (first | rw [c13b0] | (simp only [i64_w, i32_w]; rw [c13b0]) | skip)
    have H' := ZM H
    clear H
    obtain ⟨hcz14_0, hcz14_1, hcz14_2, hcz14_3, hcz14_4, hcz14_5, hcz14_6, hcz14_7, hfz14_0, hfz14_1, hfz14_2, hfz14_3, hfz14_4, hfz14_5, hfz14_6, hfz14_7⟩ := Y8f BK286
    go_wp2
    repeat (go_quiet (fail); try go_wp2)
    go_meet
    case rel => exact ⟨_, (((l0_6.length : Int) == 0)), Z5, H', ⟨by have := HJ1.out; have := HJ7.out; first | omega | exact Nat.le_refl _⟩, ⟨by (with_reducible repeat (first | refine kkN ?_ _ | refine kkD ?_ | refine kkA ?_ _)); exact BK286.out⟩, ⟨by repeat (first | (with_reducible first | exact HB.out | apply zzA | apply zzN | apply zzD | refine below_set ?_ GE286.out) | exact HB.out)⟩⟩
   clear HC12
   try clear c7
   obtain ⟨kq, x4_11, rfl, HA, HJ11, BK286, HB⟩ := hcut
   cases kq with
   | zero => exact absurd HA.out (by simp [thrumref07_MayP.j2])
   | succ kj11 =>
    have H := HA.out
    clear HA
    simp only [thrumref07_MayP.j2] at H
    have HC16 := ZM H
    clear H
    go_upto_region 5 with (fail)
    repeat (go_quiet (fail); go_upto_region 5 with (fail))
    go_cut [5] (fun v5 wc => ∃ (kq : Nat) (x5_15 : Bool), v5 = .bool x5_15 ∧ Aside0 (thrumref07_MayP.j3 kq x3_7 x4_11 x5_15 a0_0 a0_1 l0_2 l0_3 a0_4 a0_5 l0_6 l0_7 = some r) ∧ Aside0 (kq ≤ kj11) ∧ Aside0 (wc.heap[gb286]? = some (.cells #[.int .i64 a0_0, .int .i64 a0_1, (.slice A0_2 l0_2.length c0_2), (.slice A0_3 l0_3.length c0_3), .int .i64 a0_4, .int .i64 a0_5, (.slice A0_6 l0_6.length c0_6), (.slice A0_7 l0_7.length c0_7)] 30 (0, 0))) ∧ Aside0 (Below w.heap.size w wc))
    case first =>
     have H := HC16.out
     clear HC16
     by_cases c17 : a0_4 = 0
     case neg =>
      rw [if_neg c17] at H
      have c17b0 : (a0_4 == 0) = false := beq_eq_false_iff_ne.mpr c17
      have c17b1 : (a0_4 != 0) = true := bne_iff_ne.mpr c17
      (first | rw [c17b0] | (simp only [i64_w, i32_w]; rw [c17b0]) | skip)
      have H' := ZM H
      clear H
      obtain ⟨hcz19_0, hcz19_1, hcz19_2, hcz19_3, hcz19_4, hcz19_5, hcz19_6, hcz19_7, hfz19_0, hfz19_1, hfz19_2, hfz19_3, hfz19_4, hfz19_5, hfz19_6, hfz19_7⟩ := Y8f BK286
      go_wp2
      repeat (go_quiet (fail); try go_wp2)
      go_meet
      case rel => exact ⟨_, (false), Z5, H', ⟨by have := HJ1.out; have := HJ7.out; have := HJ11.out; first | omega | exact Nat.le_refl _⟩, ⟨by (with_reducible repeat (first | refine kkN ?_ _ | refine kkD ?_ | refine kkA ?_ _)); exact BK286.out⟩, ⟨by repeat (first | (with_reducible first | exact HB.out | apply zzA | apply zzN | apply zzD | refine below_set ?_ GE286.out) | exact HB.out)⟩⟩
     rw [if_pos c17] at H
     have c17b0 : (a0_4 == 0) = true := beq_iff_eq.mpr c17
     have c17b1 : (a0_4 != 0) = false := bne_eq_false_iff_eq.mpr c17
     clear c17
     (first | rw [c17b0] | (simp only [i64_w, i32_w]; rw [c17b0]) | skip)
     have H' := ZM H
     clear H
     obtain ⟨hcz18_0, hcz18_1, hcz18_2, hcz18_3, hcz18_4, hcz18_5, hcz18_6, hcz18_7, hfz18_0, hfz18_1, hfz18_2, hfz18_3, hfz18_4, hfz18_5, hfz18_6, hfz18_7⟩ := Y8f BK286
     go_wp2
     repeat (go_quiet (fail); try go_wp2)
     go_meet
     case rel => exact ⟨_, (((l0_7.length : Int) == 0)), Z5, H', ⟨by have := HJ1.out; have := HJ7.out; have := HJ11.out; first | omega | exact Nat.le_refl _⟩, ⟨by (with_reducible repeat (first | refine kkN ?_ _ | refine kkD ?_ | refine kkA ?_ _)); exact BK286.out⟩, ⟨by repeat (first | (with_reducible first | exact HB.out | apply zzA | apply zzN | apply zzD | refine below_set ?_ GE286.out) | exact HB.out)⟩⟩
    clear HC16
    try clear c7
    obtain ⟨kq, x5_15, rfl, HA, HJ15, BK286, HB⟩ := hcut
    cases kq with
    | zero => exact absurd HA.out (by simp [thrumref07_MayP.j3])
    | succ kj15 =>
     have H := HA.out
     clear HA
     simp only [thrumref07_MayP.j3] at H
     by_cases c20 : a0_0 = 0
     ·
      rw [if_pos c20] at H
      have c20b0 : (a0_0 == 0) = true := beq_iff_eq.mpr c20
      have c20b1 : (a0_0 != 0) = false := bne_eq_false_iff_eq.mpr c20
      clear c20
      by_cases c21 : (l0_2.length : Int) = 0
      case neg =>
       rw [if_neg c21] at H
       have c21b0 : ((l0_2.length : Int) == 0) = false := beq_eq_false_iff_ne.mpr c21
       have c21b1 : ((l0_2.length : Int) != 0) = true := bne_iff_ne.mpr c21
       have c21b2 : ¬ (l0_2 = []) := fun h_ => c21 (by rw [h_]; rfl)
       obtain rfl := Option.some.inj H
       obtain ⟨hcz27_0, hcz27_1, hcz27_2, hcz27_3, hcz27_4, hcz27_5, hcz27_6, hcz27_7, hfz27_0, hfz27_1, hfz27_2, hfz27_3, hfz27_4, hfz27_5, hfz27_6, hfz27_7⟩ := Y8f BK286
       go_wp2
       repeat (go_quiet (fail); try go_wp2)
       go_ret
       exact ⟨by first | rfl | (simp [errW_none, errW_some] <;> rfl) | (simp [*, errW_none, errW_some] <;> rfl), by repeat (first | (with_reducible first | exact HB.out | apply zzA | apply zzN | apply zzD | refine below_set ?_ GE286.out) | exact HB.out)⟩
      rw [if_pos c21] at H
      have c21b0 : ((l0_2.length : Int) == 0) = true := beq_iff_eq.mpr c21
      have c21b1 : ((l0_2.length : Int) != 0) = false := bne_eq_false_iff_eq.mpr c21
      clear c21
      by_cases c22 : (l0_3.length : Int) = a0_1
      case neg =>
       rw [if_neg c22] at H
       have c22b0 : ((l0_3.length : Int) == a0_1) = false := beq_eq_false_iff_ne.mpr c22
       have c22b1 : ((l0_3.length : Int) != a0_1) = true := bne_iff_ne.mpr c22
       obtain rfl := Option.some.inj H
       obtain ⟨hcz26_0, hcz26_1, hcz26_2, hcz26_3, hcz26_4, hcz26_5, hcz26_6, hcz26_7, hfz26_0, hfz26_1, hfz26_2, hfz26_3, hfz26_4, hfz26_5, hfz26_6, hfz26_7⟩ := Y8f BK286
       go_wp2
       repeat (go_quiet (fail); try go_wp2)
       go_ret
       exact ⟨by first | rfl | (simp [errW_none, errW_some] <;> rfl) | (simp [*, errW_none, errW_some] <;> rfl), by repeat (first | (with_reducible first | exact HB.out | apply zzA | apply zzN | apply zzD | refine below_set ?_ GE286.out) | exact HB.out)⟩
      rw [if_pos c22] at H
      have c22b0 : ((l0_3.length : Int) == a0_1) = true := beq_iff_eq.mpr c22
      have c22b1 : ((l0_3.length : Int) != a0_1) = false := bne_eq_false_iff_eq.mpr c22
      clear c22
      by_cases c23 : x4_11 = true
      ·
       subst c23
       have H1 : (some x5_15) = some r := by rw [if_pos rfl] at H; exact H
       clear H
       have H := H1
       clear H1
       obtain rfl := Option.some.inj H
       obtain ⟨hcz24_0, hcz24_1, hcz24_2, hcz24_3, hcz24_4, hcz24_5, hcz24_6, hcz24_7, hfz24_0, hfz24_1, hfz24_2, hfz24_3, hfz24_4, hfz24_5, hfz24_6, hfz24_7⟩ := Y8f BK286
       go_wp2
       repeat (go_quiet (fail); try go_wp2)
       go_ret
       exact ⟨by first | rfl | (simp [errW_none, errW_some] <;> rfl) | (simp [*, errW_none, errW_some] <;> rfl), by repeat (first | (with_reducible first | exact HB.out | apply zzA | apply zzN | apply zzD | refine below_set ?_ GE286.out) | exact HB.out)⟩
      replace c23 := Bool.eq_false_iff.mpr c23
      subst c23
      have H1 : (some false) = some r := by rw [if_neg (show ¬ (false = true) by decide)] at H; exact H
      clear H
      have H := H1
      clear H1
      obtain rfl := Option.some.inj H
      obtain ⟨hcz25_0, hcz25_1, hcz25_2, hcz25_3, hcz25_4, hcz25_5, hcz25_6, hcz25_7, hfz25_0, hfz25_1, hfz25_2, hfz25_3, hfz25_4, hfz25_5, hfz25_6, hfz25_7⟩ := Y8f BK286
      go_wp2
      repeat (go_quiet (fail); try go_wp2)
      go_ret
      exact ⟨by first | rfl | (simp [errW_none, errW_some] <;> rfl) | (simp [*, errW_none, errW_some] <;> rfl), by repeat (first | (with_reducible first | exact HB.out | apply zzA | apply zzN | apply zzD | refine below_set ?_ GE286.out) | exact HB.out)⟩
     rw [if_neg c20] at H
     have c20b0 : (a0_0 == 0) = false := beq_eq_false_iff_ne.mpr c20
     have c20b1 : (a0_0 != 0) = true := bne_iff_ne.mpr c20
     by_cases c28 : a0_0 = 1
     ·
      rw [if_pos c28] at H
      have c28b0 : (a0_0 == 1) = true := beq_iff_eq.mpr c28
      have c28b1 : (a0_0 != 1) = false := bne_eq_false_iff_eq.mpr c28
      clear c28
      replace H := Option.bind_eq_some_iff.mp H
      obtain ⟨t287, A290, H⟩ := H
      replace H : (if t287 = 0 then (if (l0_3.length : Int) = (l0_2.length : Int) then (if x4_11 = true then (some x5_15) else (some false)) else (some false)) else (some false)) = some r := H
      have A29 := ZM A290
      clear A290
      by_cases c30 : t287 = 0
      case neg =>
       rw [if_neg c30] at H
       have c30b0 : (t287 == 0) = false := beq_eq_false_iff_ne.mpr c30
       have c30b1 : (t287 != 0) = true := bne_iff_ne.mpr c30
       obtain rfl := Option.some.inj H
       obtain ⟨hcz36_0, hcz36_1, hcz36_2, hcz36_3, hcz36_4, hcz36_5, hcz36_6, hcz36_7, hfz36_0, hfz36_1, hfz36_2, hfz36_3, hfz36_4, hfz36_5, hfz36_6, hfz36_7⟩ := Y8f BK286
       go_wp2_with (first | (go_at_call 109; (with_reducible refine (thrumref06_Check.calls a0_1 _ _ l0_2 t287 _ ?side1 ?side2 A29.out).mono ?_); (case side1 => exact Z9); (case side2 => exact HC0_2.out); rintro e w' ⟨rfl, ⟨nd, rfl⟩⟩; (try first | exact ⟨rfl, _, wwN _ _ _⟩ | exact ⟨rfl, _, ww3 _ _ _ _⟩)))
       repeat (go_quiet (first | (go_at_call 109; (with_reducible refine (thrumref06_Check.calls a0_1 _ _ l0_2 t287 _ ?side1 ?side2 A29.out).mono ?_); (case side1 => exact Z9); (case side2 => exact HC0_2.out); rintro e w' ⟨rfl, ⟨nd, rfl⟩⟩; (try first | exact ⟨rfl, _, wwN _ _ _⟩ | exact ⟨rfl, _, ww3 _ _ _ _⟩))); try go_wp2_with (first | (go_at_call 109; (with_reducible refine (thrumref06_Check.calls a0_1 _ _ l0_2 t287 _ ?side1 ?side2 A29.out).mono ?_); (case side1 => exact Z9); (case side2 => exact HC0_2.out); rintro e w' ⟨rfl, ⟨nd, rfl⟩⟩; (try first | exact ⟨rfl, _, wwN _ _ _⟩ | exact ⟨rfl, _, ww3 _ _ _ _⟩))))
       go_ret
       exact ⟨by first | rfl | (simp [errW_none, errW_some] <;> rfl) | (simp [*, errW_none, errW_some] <;> rfl), by repeat (first | (with_reducible first | exact HB.out | apply zzA | apply zzN | apply zzD | refine below_set ?_ GE286.out) | exact HB.out)⟩
      rw [if_pos c30] at H
      have c30b0 : (t287 == 0) = true := beq_iff_eq.mpr c30
      have c30b1 : (t287 != 0) = false := bne_eq_false_iff_eq.mpr c30
      clear c30
      by_cases c31 : (l0_3.length : Int) = (l0_2.length : Int)
      case neg =>
       rw [if_neg c31] at H
       have c31b0 : ((l0_3.length : Int) == (l0_2.length : Int)) = false := beq_eq_false_iff_ne.mpr c31
       have c31b1 : ((l0_3.length : Int) != (l0_2.length : Int)) = true := bne_iff_ne.mpr c31
       have c31b2 : (l0_3.length == l0_2.length) = false := by first | simpa using c31 | (simp at c31 ⊢; omega)
       obtain rfl := Option.some.inj H
       obtain ⟨hcz35_0, hcz35_1, hcz35_2, hcz35_3, hcz35_4, hcz35_5, hcz35_6, hcz35_7, hfz35_0, hfz35_1, hfz35_2, hfz35_3, hfz35_4, hfz35_5, hfz35_6, hfz35_7⟩ := Y8f BK286
       go_wp2_with (first | (go_at_call 109; (with_reducible refine (thrumref06_Check.calls a0_1 _ _ l0_2 t287 _ ?side1 ?side2 A29.out).mono ?_); (case side1 => exact Z9); (case side2 => exact HC0_2.out); rintro e w' ⟨rfl, ⟨nd, rfl⟩⟩; (try first | exact ⟨rfl, _, wwN _ _ _⟩ | exact ⟨rfl, _, ww3 _ _ _ _⟩)))
       repeat (go_quiet (first | (go_at_call 109; (with_reducible refine (thrumref06_Check.calls a0_1 _ _ l0_2 t287 _ ?side1 ?side2 A29.out).mono ?_); (case side1 => exact Z9); (case side2 => exact HC0_2.out); rintro e w' ⟨rfl, ⟨nd, rfl⟩⟩; (try first | exact ⟨rfl, _, wwN _ _ _⟩ | exact ⟨rfl, _, ww3 _ _ _ _⟩))); try go_wp2_with (first | (go_at_call 109; (with_reducible refine (thrumref06_Check.calls a0_1 _ _ l0_2 t287 _ ?side1 ?side2 A29.out).mono ?_); (case side1 => exact Z9); (case side2 => exact HC0_2.out); rintro e w' ⟨rfl, ⟨nd, rfl⟩⟩; (try first | exact ⟨rfl, _, wwN _ _ _⟩ | exact ⟨rfl, _, ww3 _ _ _ _⟩))))
       go_ret
       exact ⟨by first | rfl | (simp [errW_none, errW_some] <;> rfl) | (simp [*, errW_none, errW_some] <;> rfl), by repeat (first | (with_reducible first | exact HB.out | apply zzA | apply zzN | apply zzD | refine below_set ?_ GE286.out) | exact HB.out)⟩
      rw [if_pos c31] at H
      have c31b0 : ((l0_3.length : Int) == (l0_2.length : Int)) = true := beq_iff_eq.mpr c31
      have c31b1 : ((l0_3.length : Int) != (l0_2.length : Int)) = false := bne_eq_false_iff_eq.mpr c31
      have c31b2 : (l0_3.length == l0_2.length) = true := by first | simpa using c31 | (simp at c31 ⊢; omega)
      clear c31
      by_cases c32 : x4_11 = true
      ·
       subst c32
       have H1 : (some x5_15) = some r := by rw [if_pos rfl] at H; exact H
       clear H
       have H := H1
       clear H1
       obtain rfl := Option.some.inj H
       obtain ⟨hcz33_0, hcz33_1, hcz33_2, hcz33_3, hcz33_4, hcz33_5, hcz33_6, hcz33_7, hfz33_0, hfz33_1, hfz33_2, hfz33_3, hfz33_4, hfz33_5, hfz33_6, hfz33_7⟩ := Y8f BK286
       go_wp2_with (first | (go_at_call 109; (with_reducible refine (thrumref06_Check.calls a0_1 _ _ l0_2 t287 _ ?side1 ?side2 A29.out).mono ?_); (case side1 => exact Z9); (case side2 => exact HC0_2.out); rintro e w' ⟨rfl, ⟨nd, rfl⟩⟩; (try first | exact ⟨rfl, _, wwN _ _ _⟩ | exact ⟨rfl, _, ww3 _ _ _ _⟩)))
       repeat (go_quiet (first | (go_at_call 109; (with_reducible refine (thrumref06_Check.calls a0_1 _ _ l0_2 t287 _ ?side1 ?side2 A29.out).mono ?_); (case side1 => exact Z9); (case side2 => exact HC0_2.out); rintro e w' ⟨rfl, ⟨nd, rfl⟩⟩; (try first | exact ⟨rfl, _, wwN _ _ _⟩ | exact ⟨rfl, _, ww3 _ _ _ _⟩))); try go_wp2_with (first | (go_at_call 109; (with_reducible refine (thrumref06_Check.calls a0_1 _ _ l0_2 t287 _ ?side1 ?side2 A29.out).mono ?_); (case side1 => exact Z9); (case side2 => exact HC0_2.out); rintro e w' ⟨rfl, ⟨nd, rfl⟩⟩; (try first | exact ⟨rfl, _, wwN _ _ _⟩ | exact ⟨rfl, _, ww3 _ _ _ _⟩))))
       go_ret
       exact ⟨by first | rfl | (simp [errW_none, errW_some] <;> rfl) | (simp [*, errW_none, errW_some] <;> rfl), by repeat (first | (with_reducible first | exact HB.out | apply zzA | apply zzN | apply zzD | refine below_set ?_ GE286.out) | exact HB.out)⟩
      replace c32 := Bool.eq_false_iff.mpr c32
      subst c32
      have H1 : (some false) = some r := by rw [if_neg (show ¬ (false = true) by decide)] at H; exact H
      clear H
      have H := H1
      clear H1
      obtain rfl := Option.some.inj H
      obtain ⟨hcz34_0, hcz34_1, hcz34_2, hcz34_3, hcz34_4, hcz34_5, hcz34_6, hcz34_7, hfz34_0, hfz34_1, hfz34_2, hfz34_3, hfz34_4, hfz34_5, hfz34_6, hfz34_7⟩ := Y8f BK286
      go_wp2_with (first | (go_at_call 109; (with_reducible refine (thrumref06_Check.calls a0_1 _ _ l0_2 t287 _ ?side1 ?side2 A29.out).mono ?_); (case side1 => exact Z9); (case side2 => exact HC0_2.out); rintro e w' ⟨rfl, ⟨nd, rfl⟩⟩; (try first | exact ⟨rfl, _, wwN _ _ _⟩ | exact ⟨rfl, _, ww3 _ _ _ _⟩)))
      repeat (go_quiet (first | (go_at_call 109; (with_reducible refine (thrumref06_Check.calls a0_1 _ _ l0_2 t287 _ ?side1 ?side2 A29.out).mono ?_); (case side1 => exact Z9); (case side2 => exact HC0_2.out); rintro e w' ⟨rfl, ⟨nd, rfl⟩⟩; (try first | exact ⟨rfl, _, wwN _ _ _⟩ | exact ⟨rfl, _, ww3 _ _ _ _⟩))); try go_wp2_with (first | (go_at_call 109; (with_reducible refine (thrumref06_Check.calls a0_1 _ _ l0_2 t287 _ ?side1 ?side2 A29.out).mono ?_); (case side1 => exact Z9); (case side2 => exact HC0_2.out); rintro e w' ⟨rfl, ⟨nd, rfl⟩⟩; (try first | exact ⟨rfl, _, wwN _ _ _⟩ | exact ⟨rfl, _, ww3 _ _ _ _⟩))))
      go_ret
      exact ⟨by first | rfl | (simp [errW_none, errW_some] <;> rfl) | (simp [*, errW_none, errW_some] <;> rfl), by repeat (first | (with_reducible first | exact HB.out | apply zzA | apply zzN | apply zzD | refine below_set ?_ GE286.out) | exact HB.out)⟩
     rw [if_neg c28] at H
     have c28b0 : (a0_0 == 1) = false := beq_eq_false_iff_ne.mpr c28
     have c28b1 : (a0_0 != 1) = true := bne_iff_ne.mpr c28
     by_cases c37 : a0_0 = 2
     case neg =>
      rw [if_neg c37] at H
      have c37b0 : (a0_0 == 2) = false := beq_eq_false_iff_ne.mpr c37
      have c37b1 : (a0_0 != 2) = true := bne_iff_ne.mpr c37
      by_cases c58 : a0_0 = 3
      case neg =>
       rw [if_neg c58] at H
       have c58b0 : (a0_0 == 3) = false := beq_eq_false_iff_ne.mpr c58
       have c58b1 : (a0_0 != 3) = true := bne_iff_ne.mpr c58
       obtain rfl := Option.some.inj H
       obtain ⟨hcz66_0, hcz66_1, hcz66_2, hcz66_3, hcz66_4, hcz66_5, hcz66_6, hcz66_7, hfz66_0, hfz66_1, hfz66_2, hfz66_3, hfz66_4, hfz66_5, hfz66_6, hfz66_7⟩ := Y8f BK286
       go_wp2
       repeat (go_quiet (fail); try go_wp2)
       go_ret
       exact ⟨by first | rfl | (simp [errW_none, errW_some] <;> rfl) | (simp [*, errW_none, errW_some] <;> rfl), by repeat (first | (with_reducible first | exact HB.out | apply zzA | apply zzN | apply zzD | refine below_set ?_ GE286.out) | exact HB.out)⟩
      rw [if_pos c58] at H
      have c58b0 : (a0_0 == 3) = true := beq_iff_eq.mpr c58
      have c58b1 : (a0_0 != 3) = false := bne_eq_false_iff_eq.mpr c58
      clear c58
      by_cases c59 : x3_7 = true
      case neg =>
       replace c59 := Bool.eq_false_iff.mpr c59
       subst c59
       have H1 : (some false) = some r := by rw [if_neg (show ¬ (false = true) by decide)] at H; exact H
       clear H
       have H := H1
       clear H1
       obtain rfl := Option.some.inj H
       obtain ⟨hcz65_0, hcz65_1, hcz65_2, hcz65_3, hcz65_4, hcz65_5, hcz65_6, hcz65_7, hfz65_0, hfz65_1, hfz65_2, hfz65_3, hfz65_4, hfz65_5, hfz65_6, hfz65_7⟩ := Y8f BK286
       go_wp2
       repeat (go_quiet (fail); try go_wp2)
       go_ret
       exact ⟨by first | rfl | (simp [errW_none, errW_some] <;> rfl) | (simp [*, errW_none, errW_some] <;> rfl), by repeat (first | (with_reducible first | exact HB.out | apply zzA | apply zzN | apply zzD | refine below_set ?_ GE286.out) | exact HB.out)⟩
      subst c59
      have H1 : (if x4_11 = true then (if a0_4 ≥ 0 then (some ((l0_7.length : Int) == a0_1)) else (some false)) else (some false)) = some r := by rw [if_pos rfl] at H; exact H
      clear H
      have H := H1
      clear H1
      by_cases c60 : x4_11 = true
      case neg =>
       replace c60 := Bool.eq_false_iff.mpr c60
       subst c60
       have H1 : (some false) = some r := by rw [if_neg (show ¬ (false = true) by decide)] at H; exact H
       clear H
       have H := H1
       clear H1
       obtain rfl := Option.some.inj H
       obtain ⟨hcz64_0, hcz64_1, hcz64_2, hcz64_3, hcz64_4, hcz64_5, hcz64_6, hcz64_7, hfz64_0, hfz64_1, hfz64_2, hfz64_3, hfz64_4, hfz64_5, hfz64_6, hfz64_7⟩ := Y8f BK286
       go_wp2
       repeat (go_quiet (fail); try go_wp2)
       go_ret
       exact ⟨by first | rfl | (simp [errW_none, errW_some] <;> rfl) | (simp [*, errW_none, errW_some] <;> rfl), by repeat (first | (with_reducible first | exact HB.out | apply zzA | apply zzN | apply zzD | refine below_set ?_ GE286.out) | exact HB.out)⟩
      subst c60
      have H1 : (if a0_4 ≥ 0 then (some ((l0_7.length : Int) == a0_1)) else (some false)) = some r := by rw [if_pos rfl] at H; exact H
      clear H
      have H := H1
      clear H1
      by_cases c61 : a0_4 ≥ 0
      case neg =>
       rw [if_neg c61] at H
       have c61b0 : decide (0 ≤ a0_4) = false := decide_eq_false c61
       clear c61
       obtain rfl := Option.some.inj H
       obtain ⟨hcz63_0, hcz63_1, hcz63_2, hcz63_3, hcz63_4, hcz63_5, hcz63_6, hcz63_7, hfz63_0, hfz63_1, hfz63_2, hfz63_3, hfz63_4, hfz63_5, hfz63_6, hfz63_7⟩ := Y8f BK286
       go_wp2
       repeat (go_quiet (fail); try go_wp2)
       go_ret
       exact ⟨by first | rfl | (simp [errW_none, errW_some] <;> rfl) | (simp [*, errW_none, errW_some] <;> rfl), by repeat (first | (with_reducible first | exact HB.out | apply zzA | apply zzN | apply zzD | refine below_set ?_ GE286.out) | exact HB.out)⟩
      rw [if_pos c61] at H
      have c61b0 : decide (0 ≤ a0_4) = true := decide_eq_true c61
      clear c61
      obtain rfl := Option.some.inj H
      obtain ⟨hcz62_0, hcz62_1, hcz62_2, hcz62_3, hcz62_4, hcz62_5, hcz62_6, hcz62_7, hfz62_0, hfz62_1, hfz62_2, hfz62_3, hfz62_4, hfz62_5, hfz62_6, hfz62_7⟩ := Y8f BK286
      go_wp2
      repeat (go_quiet (fail); try go_wp2)
      go_ret
      exact ⟨by first | rfl | (simp [errW_none, errW_some] <;> rfl) | (simp [*, errW_none, errW_some] <;> rfl), by repeat (first | (with_reducible first | exact HB.out | apply zzA | apply zzN | apply zzD | refine below_set ?_ GE286.out) | exact HB.out)⟩
     rw [if_pos c37] at H
     have c37b0 : (a0_0 == 2) = true := beq_iff_eq.mpr c37
     have c37b1 : (a0_0 != 2) = false := bne_eq_false_iff_eq.mpr c37
     clear c37
     have HC38 := ZM H
     clear H
     obtain ⟨hcz39_0, hcz39_1, hcz39_2, hcz39_3, hcz39_4, hcz39_5, hcz39_6, hcz39_7, hfz39_0, hfz39_1, hfz39_2, hfz39_3, hfz39_4, hfz39_5, hfz39_6, hfz39_7⟩ := Y8f BK286
     go_upto_region 12 with (fail)
     repeat (go_quiet (fail); go_upto_region 12 with (fail))
     go_cut [106] (fun v106 wc => ∃ (kq : Nat) (x106_37 : Bool), v106 = .bool x106_37 ∧ Aside0 (thrumref07_MayP.j4 kq x3_7 x106_37 a0_0 a0_1 l0_2 l0_3 a0_4 a0_5 l0_6 l0_7 = some r) ∧ Aside0 (kq ≤ kj15) ∧ Aside0 (wc.heap[gb286]? = some (.cells #[.int .i64 a0_0, .int .i64 a0_1, (.slice A0_2 l0_2.length c0_2), (.slice A0_3 l0_3.length c0_3), .int .i64 a0_4, .int .i64 a0_5, (.slice A0_6 l0_6.length c0_6), (.slice A0_7 l0_7.length c0_7)] 30 (0, 0))) ∧ Aside0 (Below w.heap.size w wc))
     case first =>
      have H := HC38.out
      clear HC38
      by_cases c40 : a0_5 < 1
      ·
       rw [if_pos c40] at H
       have c40b0 : decide (a0_5 < 1) = true := decide_eq_true c40
       clear c40
       (first | rw [c40b0] | (simp only [i64_w, i32_w]; rw [c40b0]) | skip)
       have H' := ZM H
       clear H
       obtain ⟨hcz41_0, hcz41_1, hcz41_2, hcz41_3, hcz41_4, hcz41_5, hcz41_6, hcz41_7, hfz41_0, hfz41_1, hfz41_2, hfz41_3, hfz41_4, hfz41_5, hfz41_6, hfz41_7⟩ := Y8f BK286
       go_wp2
       repeat (go_quiet (fail); try go_wp2)
       go_meet
       case rel => exact ⟨_, (true), Z5, H', ⟨by have := HJ1.out; have := HJ7.out; have := HJ11.out; have := HJ15.out; first | omega | exact Nat.le_refl _⟩, ⟨by (with_reducible repeat (first | refine kkN ?_ _ | refine kkD ?_ | refine kkA ?_ _)); exact BK286.out⟩, ⟨by repeat (first | (with_reducible first | exact HB.out | apply zzA | apply zzN | apply zzD | refine below_set ?_ GE286.out) | exact HB.out)⟩⟩
      rw [if_neg c40] at H
      have c40b0 : decide (a0_5 < 1) = false := decide_eq_false c40
      clear c40
      (first | rw [c40b0] | (simp only [i64_w, i32_w]; rw [c40b0]) | skip)
      by_cases c42 : a0_5 > 8
      case neg =>
       rw [if_neg c42] at H
       have c42b0 : decide (8 < a0_5) = false := decide_eq_false c42
       clear c42
       have H' := ZM H
       clear H
       obtain ⟨hcz44_0, hcz44_1, hcz44_2, hcz44_3, hcz44_4, hcz44_5, hcz44_6, hcz44_7, hfz44_0, hfz44_1, hfz44_2, hfz44_3, hfz44_4, hfz44_5, hfz44_6, hfz44_7⟩ := Y8f BK286
       go_wp2
       repeat (go_quiet (fail); try go_wp2)
       go_meet
       case rel => exact ⟨_, (((l0_6.length : Int) != a0_1)), Z5, H', ⟨by have := HJ1.out; have := HJ7.out; have := HJ11.out; have := HJ15.out; first | omega | exact Nat.le_refl _⟩, ⟨by (with_reducible repeat (first | refine kkN ?_ _ | refine kkD ?_ | refine kkA ?_ _)); exact BK286.out⟩, ⟨by repeat (first | (with_reducible first | exact HB.out | apply zzA | apply zzN | apply zzD | refine below_set ?_ GE286.out) | exact HB.out)⟩⟩
      rw [if_pos c42] at H
      have c42b0 : decide (8 < a0_5) = true := decide_eq_true c42
      clear c42
      have H' := ZM H
      clear H
      obtain ⟨hcz43_0, hcz43_1, hcz43_2, hcz43_3, hcz43_4, hcz43_5, hcz43_6, hcz43_7, hfz43_0, hfz43_1, hfz43_2, hfz43_3, hfz43_4, hfz43_5, hfz43_6, hfz43_7⟩ := Y8f BK286
      go_wp2
      repeat (go_quiet (fail); try go_wp2)
      go_meet
      case rel => exact ⟨_, (true), Z5, H', ⟨by have := HJ1.out; have := HJ7.out; have := HJ11.out; have := HJ15.out; first | omega | exact Nat.le_refl _⟩, ⟨by (with_reducible repeat (first | refine kkN ?_ _ | refine kkD ?_ | refine kkA ?_ _)); exact BK286.out⟩, ⟨by repeat (first | (with_reducible first | exact HB.out | apply zzA | apply zzN | apply zzD | refine below_set ?_ GE286.out) | exact HB.out)⟩⟩
     clear HC38
     try clear c7
     try clear c20
     try clear c20b0
     try clear c20b1
     try clear c28
     try clear c28b0
     try clear c28b1
     try clear c37
     try clear c37b0
     try clear c37b1
     try clear hcz39_0
     try clear hcz39_1
     try clear hcz39_2
     try clear hcz39_3
     try clear hcz39_4
     try clear hcz39_5
     try clear hcz39_6
     try clear hcz39_7
     try clear hfz39_0
     try clear hfz39_1
     try clear hfz39_2
     try clear hfz39_3
     try clear hfz39_4
     try clear hfz39_5
     try clear hfz39_6
     try clear hfz39_7
     obtain ⟨kq, x106_37, rfl, HA, HJ37, BK286, HB⟩ := hcut
     cases kq with
     | zero => exact absurd HA.out (by simp [thrumref07_MayP.j4])
     | succ kj37 =>
      have H := HA.out
      clear HA
      simp only [thrumref07_MayP.j4] at H
      by_cases c45 : x106_37 = true
      ·
       subst c45
       have H1 : (some false) = some r := by rw [if_pos rfl] at H; exact H
       clear H
       have H := H1
       clear H1
       obtain rfl := Option.some.inj H
       go_wp2
       repeat (go_quiet (fail); try go_wp2)
       go_ret
       exact ⟨by first | rfl | (simp [errW_none, errW_some] <;> rfl) | (simp [*, errW_none, errW_some] <;> rfl), by repeat (first | (with_reducible first | exact HB.out | apply zzA | apply zzN | apply zzD | refine below_set ?_ GE286.out) | exact HB.out)⟩
      replace c45 := Bool.eq_false_iff.mpr c45
      subst c45
      have H1 : (thrumref07_MayP.l0 kj37 x3_7 l0_6 (l0_6.length : Int) 0 a0_0 a0_1 l0_2 l0_3 a0_4 a0_5 l0_6 l0_7) = some r := by rw [if_neg (show ¬ (false = true) by decide)] at H; exact H
      clear H
      have H := H1
      clear H1
      have H' := ZM H
      clear H
      obtain ⟨hcz46_0, hcz46_1, hcz46_2, hcz46_3, hcz46_4, hcz46_5, hcz46_6, hcz46_7, hfz46_0, hfz46_1, hfz46_2, hfz46_3, hfz46_4, hfz46_5, hfz46_6, hfz46_7⟩ := Y8f BK286
      go_wp2
      repeat (go_quiet (fail); try go_wp2)
      go_loopg [110] kj37 (fun kq v110 w' => ∃ (x110_6 : Int), v110 = .int .i64 x110_6 ∧ Aside0 (thrumref07_MayP.l0 kq x3_7 l0_6 (l0_6.length : Int) x110_6 a0_0 a0_1 l0_2 l0_3 a0_4 a0_5 l0_6 l0_7 = some r) ∧ Aside0 (kq ≤ kj37) ∧ Aside0 (w'.heap[gb286]? = some (.cells #[.int .i64 a0_0, .int .i64 a0_1, (.slice A0_2 l0_2.length c0_2), (.slice A0_3 l0_3.length c0_3), .int .i64 a0_4, .int .i64 a0_5, (.slice A0_6 l0_6.length c0_6), (.slice A0_7 l0_7.length c0_7)] 30 (0, 0))) ∧ Aside0 (Below w.heap.size w w'))
      case atStart => exact ⟨(0), Z5, H', ⟨Nat.le_refl _⟩, ⟨by (with_reducible repeat (first | refine kkN ?_ _ | refine kkD ?_ | refine kkA ?_ _)); exact BK286.out⟩, ⟨by repeat (first | (with_reducible first | exact HB.out | apply zzA | apply zzN | apply zzD | refine below_set ?_ GE286.out) | exact HB.out)⟩⟩
      case round =>
       clear H'
       try clear c7
       try clear c20
       try clear c20b0
       try clear c20b1
       try clear c28
       try clear c28b0
       try clear c28b1
       try clear c37
       try clear c37b0
       try clear c37b1
       try clear c45
       try clear hcz39_0
       try clear hcz39_1
       try clear hcz39_2
       try clear hcz39_3
       try clear hcz39_4
       try clear hcz39_5
       try clear hcz39_6
       try clear hcz39_7
       try clear hcz46_0
       try clear hcz46_1
       try clear hcz46_2
       try clear hcz46_3
       try clear hcz46_4
       try clear hcz46_5
       try clear hcz46_6
       try clear hcz46_7
       try clear hfz39_0
       try clear hfz39_1
       try clear hfz39_2
       try clear hfz39_3
       try clear hfz39_4
       try clear hfz39_5
       try clear hfz39_6
       try clear hfz39_7
       try clear hfz46_0
       try clear hfz46_1
       try clear hfz46_2
       try clear hfz46_3
       try clear hfz46_4
       try clear hfz46_5
       try clear hfz46_6
       try clear hfz46_7
       obtain ⟨x110_6, rfl, HA, HK6, BK286, HB⟩ := hrel
       cases gk with
       | zero => exact absurd HA.out (by simp [thrumref07_MayP.l0])
       | succ k6 =>
        have H := HA.out
        clear HA
        simp only [thrumref07_MayP.l0] at H
        by_cases c47 : x110_6 < (l0_6.length : Int)
        ·
         rw [if_pos c47] at H
         have c47b0 : decide (x110_6 < (l0_6.length : Int)) = true := decide_eq_true c47
         clear c47
         by_cases c48 : 0 ≤ x110_6
         case neg =>
          rw [if_neg c48] at H
          exact absurd H (by simp)
         rw [if_pos c48] at H
         have c48b0 : decide (0 ≤ x110_6) = true := decide_eq_true c48
         clear c48
         by_cases c49 : x110_6 < (l0_6.length : Int)
         case neg =>
          rw [if_neg c49] at H
          exact absurd H (by simp)
         rw [if_pos c49] at H
         have c49b0 : decide (x110_6 < (l0_6.length : Int)) = true := decide_eq_true c49
         clear c49
         replace H := Option.bind_eq_some_iff.mp H
         obtain ⟨t289, A500, H⟩ := H
         replace H : (if t289 > a0_5 then (some false) else (thrumref07_MayP.l0 k6 x3_7 l0_6 (l0_6.length : Int) (wrap64 (x110_6 + 1)) a0_0 a0_1 l0_2 l0_3 a0_4 a0_5 l0_6 l0_7)) = some r := H
         have A50 := ZM A500
         clear A500
         by_cases c51 : t289 > a0_5
         ·
          rw [if_pos c51] at H
          have c51b0 : decide (a0_5 < t289) = true := decide_eq_true c51
          clear c51
          obtain rfl := Option.some.inj H
          have p288 : 0 ≤ (x110_6 : Int) := of_decide_eq_true Z2
          have q288 : x110_6 < (l0_6.length : Int) := of_decide_eq_true Z2
          obtain ⟨ad288, e288, hx288_0⟩ := Kd.at_int HR0_6.out x110_6 p288 q288
          cases e288
          replace hx288_0 := (HB.out.cell (World.block_lt_of_cell? w _ hx288_0)).trans hx288_0
          replace p288 := eq_true p288
          replace q288 := eq_true q288
          go_wp2_with (first | (go_at_call 110; (with_reducible refine (thrumref05_Width.calls (rd l0_6 x110_6) t289 _ A50.out).mono ?_); rintro e w' ⟨rfl, ⟨nd, rfl⟩⟩; (try first | exact ⟨rfl, _, wwN _ _ _⟩ | exact ⟨rfl, _, ww3 _ _ _ _⟩); obtain ⟨hcz52_0, hcz52_1, hcz52_2, hcz52_3, hcz52_4, hcz52_5, hcz52_6, hcz52_7, hfz52_0, hfz52_1, hfz52_2, hfz52_3, hfz52_4, hfz52_5, hfz52_6, hfz52_7⟩ := Y8f BK286))
          repeat (go_quiet (first | (go_at_call 110; (with_reducible refine (thrumref05_Width.calls (rd l0_6 x110_6) t289 _ A50.out).mono ?_); rintro e w' ⟨rfl, ⟨nd, rfl⟩⟩; (try first | exact ⟨rfl, _, wwN _ _ _⟩ | exact ⟨rfl, _, ww3 _ _ _ _⟩); obtain ⟨hcz52_0, hcz52_1, hcz52_2, hcz52_3, hcz52_4, hcz52_5, hcz52_6, hcz52_7, hfz52_0, hfz52_1, hfz52_2, hfz52_3, hfz52_4, hfz52_5, hfz52_6, hfz52_7⟩ := Y8f BK286)); try go_wp2_with (first | (go_at_call 110; (with_reducible refine (thrumref05_Width.calls (rd l0_6 x110_6) t289 _ A50.out).mono ?_); rintro e w' ⟨rfl, ⟨nd, rfl⟩⟩; (try first | exact ⟨rfl, _, wwN _ _ _⟩ | exact ⟨rfl, _, ww3 _ _ _ _⟩); obtain ⟨hcz52_0, hcz52_1, hcz52_2, hcz52_3, hcz52_4, hcz52_5, hcz52_6, hcz52_7, hfz52_0, hfz52_1, hfz52_2, hfz52_3, hfz52_4, hfz52_5, hfz52_6, hfz52_7⟩ := Y8f BK286)))
          go_ret
          exact ⟨by first | rfl | (simp [errW_none, errW_some] <;> rfl) | (simp [*, errW_none, errW_some] <;> rfl), by repeat (first | (with_reducible first | exact HB.out | apply zzA | apply zzN | apply zzD | refine below_set ?_ GE286.out) | exact HB.out)⟩
         rw [if_neg c51] at H
         have c51b0 : decide (a0_5 < t289) = false := decide_eq_false c51
         clear c51
         have H' := ZM H
         clear H
         have p288 : 0 ≤ (x110_6 : Int) := of_decide_eq_true Z2
         have q288 : x110_6 < (l0_6.length : Int) := of_decide_eq_true Z2
         obtain ⟨ad288, e288, hx288_0⟩ := Kd.at_int HR0_6.out x110_6 p288 q288
         cases e288
         replace hx288_0 := (HB.out.cell (World.block_lt_of_cell? w _ hx288_0)).trans hx288_0
         replace p288 := eq_true p288
         replace q288 := eq_true q288
         go_wp2_with (first | (go_at_call 110; (with_reducible refine (thrumref05_Width.calls (rd l0_6 x110_6) t289 _ A50.out).mono ?_); rintro e w' ⟨rfl, ⟨nd, rfl⟩⟩; (try first | exact ⟨rfl, _, wwN _ _ _⟩ | exact ⟨rfl, _, ww3 _ _ _ _⟩); obtain ⟨hcz53_0, hcz53_1, hcz53_2, hcz53_3, hcz53_4, hcz53_5, hcz53_6, hcz53_7, hfz53_0, hfz53_1, hfz53_2, hfz53_3, hfz53_4, hfz53_5, hfz53_6, hfz53_7⟩ := Y8f BK286))
         repeat (go_quiet (first | (go_at_call 110; (with_reducible refine (thrumref05_Width.calls (rd l0_6 x110_6) t289 _ A50.out).mono ?_); rintro e w' ⟨rfl, ⟨nd, rfl⟩⟩; (try first | exact ⟨rfl, _, wwN _ _ _⟩ | exact ⟨rfl, _, ww3 _ _ _ _⟩); obtain ⟨hcz53_0, hcz53_1, hcz53_2, hcz53_3, hcz53_4, hcz53_5, hcz53_6, hcz53_7, hfz53_0, hfz53_1, hfz53_2, hfz53_3, hfz53_4, hfz53_5, hfz53_6, hfz53_7⟩ := Y8f BK286)); try go_wp2_with (first | (go_at_call 110; (with_reducible refine (thrumref05_Width.calls (rd l0_6 x110_6) t289 _ A50.out).mono ?_); rintro e w' ⟨rfl, ⟨nd, rfl⟩⟩; (try first | exact ⟨rfl, _, wwN _ _ _⟩ | exact ⟨rfl, _, ww3 _ _ _ _⟩); obtain ⟨hcz53_0, hcz53_1, hcz53_2, hcz53_3, hcz53_4, hcz53_5, hcz53_6, hcz53_7, hfz53_0, hfz53_1, hfz53_2, hfz53_3, hfz53_4, hfz53_5, hfz53_6, hfz53_7⟩ := Y8f BK286)))
         go_roundg k6
         case measure => have := HJ1.out; have := HJ7.out; have := HJ11.out; have := HJ15.out; have := HJ37.out; have := HK6.out; omega
         case rel => exact ⟨(wrap64 (x110_6 + 1)), Z5, H', ⟨by have := HJ1.out; have := HJ7.out; have := HJ11.out; have := HJ15.out; have := HJ37.out; have := HK6.out; omega⟩, ⟨by (with_reducible repeat (first | refine kkN ?_ _ | refine kkD ?_ | refine kkA ?_ _)); exact BK286.out⟩, ⟨by repeat (first | (with_reducible first | exact HB.out | apply zzA | apply zzN | apply zzD | refine below_set ?_ GE286.out) | exact HB.out)⟩⟩
        rw [if_neg c47] at H
        have c47b0 : decide (x110_6 < (l0_6.length : Int)) = false := decide_eq_false c47
        clear c47
        by_cases c54 : x3_7 = true
        case neg =>
         replace c54 := Bool.eq_false_iff.mpr c54
         subst c54
         have H1 : (some false) = some r := by rw [if_neg (show ¬ (false = true) by decide)] at H; exact H
         clear H
         have H := H1
         clear H1
         obtain rfl := Option.some.inj H
         go_wp2
         repeat (go_quiet (fail); try go_wp2)
         go_ret
         exact ⟨by first | rfl | (simp [errW_none, errW_some] <;> rfl) | (simp [*, errW_none, errW_some] <;> rfl), by repeat (first | (with_reducible first | exact HB.out | apply zzA | apply zzN | apply zzD | refine below_set ?_ GE286.out) | exact HB.out)⟩
        subst c54
        have H1 : (if a0_4 ≥ 0 then (some ((l0_7.length : Int) == a0_1)) else (some false)) = some r := by rw [if_pos rfl] at H; exact H
        clear H
        have H := H1
        clear H1
        by_cases c55 : a0_4 ≥ 0
        case neg =>
         rw [if_neg c55] at H
         have c55b0 : decide (0 ≤ a0_4) = false := decide_eq_false c55
         clear c55
         obtain rfl := Option.some.inj H
         obtain ⟨hcz57_0, hcz57_1, hcz57_2, hcz57_3, hcz57_4, hcz57_5, hcz57_6, hcz57_7, hfz57_0, hfz57_1, hfz57_2, hfz57_3, hfz57_4, hfz57_5, hfz57_6, hfz57_7⟩ := Y8f BK286
         go_wp2
         repeat (go_quiet (fail); try go_wp2)
         go_ret
         exact ⟨by first | rfl | (simp [errW_none, errW_some] <;> rfl) | (simp [*, errW_none, errW_some] <;> rfl), by repeat (first | (with_reducible first | exact HB.out | apply zzA | apply zzN | apply zzD | refine below_set ?_ GE286.out) | exact HB.out)⟩
        rw [if_pos c55] at H
        have c55b0 : decide (0 ≤ a0_4) = true := decide_eq_true c55
        clear c55
        obtain rfl := Option.some.inj H
        obtain ⟨hcz56_0, hcz56_1, hcz56_2, hcz56_3, hcz56_4, hcz56_5, hcz56_6, hcz56_7, hfz56_0, hfz56_1, hfz56_2, hfz56_3, hfz56_4, hfz56_5, hfz56_6, hfz56_7⟩ := Y8f BK286
        go_wp2
        repeat (go_quiet (fail); try go_wp2)
        go_ret
        exact ⟨by first | rfl | (simp [errW_none, errW_some] <;> rfl) | (simp [*, errW_none, errW_some] <;> rfl), by repeat (first | (with_reducible first | exact HB.out | apply zzA | apply zzN | apply zzD | refine below_set ?_ GE286.out) | exact HB.out)⟩
theorem thrumref07_MayP.loop (x0 : List Int) (hu : U64L x0) (hb : x0.length ≤ 9223372036854775807) (b : Bool) (a0 a1 : Int) (l2 l3 : List Int) (a4 a5 : Int) (l6 : List Int) (l7 : List Bool) : ∀ (d i : Nat), d + i = x0.length →
    thrumref07_MayP.l0 (d + 1) b x0 (x0.length : Int) (i : Int) a0 a1 l2 l3 a4 a5 l6 l7 = some (decide ((∀ n ∈ x0.drop i, (bl n.toNat : Int) ≤ a5) ∧ b = true ∧ 0 ≤ a4 ∧ (l7.length : Int) = a1)) := by
  intro d
  induction d with
  | zero =>
    intro i hd
    rw [thrumref07_MayP.l0, if_neg (by omega), List.drop_eq_nil_of_le (by omega)]
    by_cases c : b = true
    · rw [if_pos c]
      by_cases c2 : a4 ≥ 0
      · rw [if_pos c2]; simp [c, show 0 ≤ a4 from c2]; rfl
      · rw [if_neg c2]; simp [show ¬ 0 ≤ a4 from c2]
    · rw [if_neg c]; simp [c]
  | succ d ih =>
    intro i hd
    have hi : i < x0.length := by omega
    rw [thrumref07_MayP.l0, if_pos (by omega), if_pos (by omega), if_pos (by omega), show rd x0 (i : Int) = x0[i] from rd_nat hi, thrumref05_Width.of _ (hu _ (List.getElem_mem hi)), List.drop_eq_getElem_cons hi]
    simp only [Option.bind_some]
    by_cases c : (bl x0[i].toNat : Int) > a5
    · rw [if_pos c]
      symm; congr 1
      exact decide_eq_false (fun hh => by have := hh.1 x0[i] (List.mem_cons.2 (.inl rfl)); omega)
    · rw [if_neg c, wrap64_of (by unfold I64; omega), show (i : Int) + 1 = ((i + 1 : Nat) : Int) by omega, ih (i + 1) (by omega)]
      congr 1
      refine decide_eq_decide.2 ⟨fun hh => ⟨fun n hn => by rcases List.mem_cons.1 hn with e | e; (rw [e]; omega); (exact hh.1 n e), hh.2⟩, fun hh => ⟨fun n hn => hh.1 n (List.mem_cons.2 (.inr hn)), hh.2⟩⟩
def thrumref07_May.f (a0_0 : Int) (a0_1 : Int) (l0_2 : List Int) (l0_3 : List Int) (a0_4 : Int) (a0_5 : Int) (l0_6 : List Int) (l0_7 : List Bool) : Option Bool := if U64L l0_6 then some (decide (MayP a0_0 a0_1 l0_2 l0_3 a0_4 a0_5 l0_6 l0_7)) else none
theorem thrumref07_May.of (a0_0 : Int) (a0_1 : Int) (l0_2 : List Int) (l0_3 : List Int) (a0_4 : Int) (a0_5 : Int) (l0_6 : List Int) (l0_7 : List Bool)  (h_ : U64L l0_6) : thrumref07_May.f a0_0 a0_1 l0_2 l0_3 a0_4 a0_5 l0_6 l0_7 = some (decide (MayP a0_0 a0_1 l0_2 l0_3 a0_4 a0_5 l0_6 l0_7)) := if_pos h_
set_option maxHeartbeats 1000000 in
theorem thrumref07_May.calls (a0_0 : Int) (a0_1 : Int) (A0_2 : Option Addr) (c0_2 : Nat) (l0_2 : List Int) (A0_3 : Option Addr) (c0_3 : Nat) (l0_3 : List Int) (a0_4 : Int) (a0_5 : Int) (A0_6 : Option Addr) (c0_6 : Nat) (l0_6 : List Int) (A0_7 : Option Addr) (c0_7 : Nat) (l0_7 : List Bool) (r : Bool) (w : World) (hr0_2 : Kd.C (Kd.int .i64) w A0_2 l0_2.length l0_2) (hc0_2 : l0_2.length ≤ c0_2) (hr0_3 : Kd.C (Kd.int .i64) w A0_3 l0_3.length l0_3) (hc0_3 : l0_3.length ≤ c0_3) (hr0_6 : Kd.C (Kd.int .u64) w A0_6 l0_6.length l0_6) (hc0_6 : l0_6.length ≤ c0_6) (hr0_7 : Kd.C Kd.bool w A0_7 l0_7.length l0_7) (hc0_7 : l0_7.length ≤ c0_7) (h : thrumref07_May.f a0_0 a0_1 l0_2 l0_3 a0_4 a0_5 l0_6 l0_7 = some r) :
    Calls Try.prog 85 #[.agg #[.int .i64 a0_0, .int .i64 a0_1, .slice A0_2 l0_2.length c0_2, .slice A0_3 l0_3.length c0_3, .int .i64 a0_4, .int .i64 a0_5, .slice A0_6 l0_6.length c0_6, .slice A0_7 l0_7.length c0_7]] w fun e w' => e = .returned (.bool r) ∧ Below w.heap.size w w' := by
  unfold thrumref07_May.f at h
  split at h
  case isFalse => cases h
  rename_i hu
  refine thrumref07_MayP.calls (l0_6.length + 6) a0_0 a0_1 A0_2 c0_2 l0_2 A0_3 c0_3 l0_3 a0_4 a0_5 A0_6 c0_6 l0_6 A0_7 c0_7 l0_7 r w hr0_2 hc0_2 hr0_3 hc0_3 hr0_6 hc0_6 hr0_7 hc0_7 (Eq.trans ?_ h)
  have hm := Kd.C_max hr0_6
  have hL := fun b => thrumref07_MayP.loop l0_6 hu hm b a0_0 a0_1 l0_2 l0_3 a0_4 a0_5 l0_6 l0_7 l0_6.length 0 (by omega)
  simp only [List.drop_zero] at hL
  clear hr0_2 hc0_2 hr0_3 hc0_3 hr0_6 hc0_6 hr0_7 hc0_7 h hu
  have e2 : l0_2 = [] ↔ (l0_2.length : Int) = 0 := by rw [← List.length_eq_zero_iff]; omega
  have e3 : l0_3 = [] ↔ (l0_3.length : Int) = 0 := by rw [← List.length_eq_zero_iff]; omega
  have e6 : l0_6 = [] ↔ (l0_6.length : Int) = 0 := by rw [← List.length_eq_zero_iff]; omega
  have e7 : l0_7 = [] ↔ (l0_7.length : Int) = 0 := by rw [← List.length_eq_zero_iff]; omega
  have j2 : ∀ x y, thrumref07_MayP.j2 (l0_6.length + 4) x y a0_0 a0_1 l0_2 l0_3 a0_4 a0_5 l0_6 l0_7 = thrumref07_MayP.j3 (l0_6.length + 3) x y (decide (a0_4 = 0 ∧ (l0_7.length : Int) = 0)) a0_0 a0_1 l0_2 l0_3 a0_4 a0_5 l0_6 l0_7 := fun x y => by
    rw [thrumref07_MayP.j2]; exact ite_beq (fun z => thrumref07_MayP.j3 (l0_6.length + 3) x y z a0_0 a0_1 l0_2 l0_3 a0_4 a0_5 l0_6 l0_7) _ _
  have j1 : ∀ x, thrumref07_MayP.j1 (l0_6.length + 5) x a0_0 a0_1 l0_2 l0_3 a0_4 a0_5 l0_6 l0_7 = thrumref07_MayP.j3 (l0_6.length + 3) x (decide (a0_5 = 0 ∧ (l0_6.length : Int) = 0)) (decide (a0_4 = 0 ∧ (l0_7.length : Int) = 0)) a0_0 a0_1 l0_2 l0_3 a0_4 a0_5 l0_6 l0_7 := fun x => by
    rw [thrumref07_MayP.j1]; simp only [j2]; exact ite_beq (fun y => thrumref07_MayP.j3 (l0_6.length + 3) x y (decide (a0_4 = 0 ∧ (l0_7.length : Int) = 0)) a0_0 a0_1 l0_2 l0_3 a0_4 a0_5 l0_6 l0_7) _ _
  have j0 : ∀ b, thrumref07_MayP.j0 (l0_6.length + 6) b a0_0 a0_1 l0_2 l0_3 a0_4 a0_5 l0_6 l0_7 = if b = true then some false else thrumref07_MayP.j3 (l0_6.length + 3) (decide ((l0_2.length : Int) = 0 ∧ (l0_3.length : Int) = 0)) (decide (a0_5 = 0 ∧ (l0_6.length : Int) = 0)) (decide (a0_4 = 0 ∧ (l0_7.length : Int) = 0)) a0_0 a0_1 l0_2 l0_3 a0_4 a0_5 l0_6 l0_7 := fun b => by
    rw [thrumref07_MayP.j0]; simp only [j1]; congr 1; exact ite_beq (fun x => thrumref07_MayP.j3 (l0_6.length + 3) x (decide (a0_5 = 0 ∧ (l0_6.length : Int) = 0)) (decide (a0_4 = 0 ∧ (l0_7.length : Int) = 0)) a0_0 a0_1 l0_2 l0_3 a0_4 a0_5 l0_6 l0_7) _ _
  have hj : ∀ x y z, thrumref07_MayP.j3 (l0_6.length + 3) x y z a0_0 a0_1 l0_2 l0_3 a0_4 a0_5 l0_6 l0_7 = if a0_0 = 0 then (if (l0_2.length : Int) = 0 then (if (l0_3.length : Int) = a0_1 then (if y = true then (some z) else (some false)) else (some false)) else (some false)) else (if a0_0 = 1 then (if checkI a0_1 l0_2 = 0 then (if (l0_3.length : Int) = (l0_2.length : Int) then (if y = true then (some z) else (some false)) else (some false)) else (some false)) else (if a0_0 = 2 then (if a0_5 < 1 then some false else (if a0_5 > 8 then some false else (if ((l0_6.length : Int) != a0_1) = true then some false else some (decide ((∀ n ∈ l0_6, (bl n.toNat : Int) ≤ a0_5) ∧ x = true ∧ 0 ≤ a0_4 ∧ (l0_7.length : Int) = a0_1))))) else (if a0_0 = 3 then (if x = true then (if y = true then (if a0_4 ≥ 0 then (some ((l0_7.length : Int) == a0_1)) else (some false)) else (some false)) else (some false)) else (some false)))) := fun x y z => by
    rw [thrumref07_MayP.j3]
    simp only [thrumref06_Check.f, Option.bind_some]
    have j4 : ∀ b, thrumref07_MayP.j4 (l0_6.length + 2) x b a0_0 a0_1 l0_2 l0_3 a0_4 a0_5 l0_6 l0_7 = if b = true then some false else some (decide ((∀ n ∈ l0_6, (bl n.toNat : Int) ≤ a0_5) ∧ x = true ∧ 0 ≤ a0_4 ∧ (l0_7.length : Int) = a0_1)) := fun b => by
      rw [thrumref07_MayP.j4, ← hL]; rfl
    simp only [j4, if_true]
  have key : MayP a0_0 a0_1 l0_2 l0_3 a0_4 a0_5 l0_6 l0_7 ↔ ((1 ≤ a0_1 ∧ a0_1 ≤ 4096) ∧
      ((a0_0 = 0 ∧ (l0_2.length : Int) = 0 ∧ (l0_3.length : Int) = a0_1 ∧ a0_4 = 0 ∧ a0_5 = 0 ∧ (l0_6.length : Int) = 0 ∧ (l0_7.length : Int) = 0) ∨
       (a0_0 = 1 ∧ checkI a0_1 l0_2 = 0 ∧ (l0_3.length : Int) = (l0_2.length : Int) ∧ a0_4 = 0 ∧ a0_5 = 0 ∧ (l0_6.length : Int) = 0 ∧ (l0_7.length : Int) = 0) ∨
       (a0_0 = 2 ∧ (1 ≤ a0_5 ∧ a0_5 ≤ 8) ∧ (l0_6.length : Int) = a0_1 ∧ (∀ n ∈ l0_6, (bl n.toNat : Int) ≤ a0_5) ∧ (l0_2.length : Int) = 0 ∧ (l0_3.length : Int) = 0 ∧ 0 ≤ a0_4 ∧ (l0_7.length : Int) = a0_1) ∨
       (a0_0 = 3 ∧ (l0_2.length : Int) = 0 ∧ (l0_3.length : Int) = 0 ∧ a0_5 = 0 ∧ (l0_6.length : Int) = 0 ∧ 0 ≤ a0_4 ∧ (l0_7.length : Int) = a0_1))) := by
    unfold MayP; rw [e2, e3, e6, e7, Int.ofNat_inj]
  unfold thrumref07_MayP.f
  simp only [j0, if_true]
  rw [decide_eq_decide.2 key]
  exact may_logic a0_0 a0_1 a0_4 a0_5 (checkI a0_1 l0_2) l0_2.length l0_3.length l0_6.length l0_7.length _ (fun x y z => thrumref07_MayP.j3 (l0_6.length + 3) x y z a0_0 a0_1 l0_2 l0_3 a0_4 a0_5 l0_6 l0_7) hj


end Go.Proofs.Ytkfhdpnfcaghbaa.HQ
