/- What Go functions do, each as a plain Lean function with the same answers, and the proof of it, in every world: printed by the session's driver over the kit's print, with texts by hand. -/
import Derived.Test.YtkfhdpnfcaghbaaHQx0
import Derived.Test.YtkfhdpnfcaghbaaHQx2
import Derived.Test.YtkfhdpnfcaghbaaHQx4
import Derived.Test.YtkfhdpnfcaghbaaHQx5
import Derived.Test.YtkfhdpnfcaghbaaMini
namespace Go.Proofs.Ytkfhdpnfcaghbaa.HQ
open Go.RowKit Go.Proofs.YtkfhdpnfcaghbaaW.PrintWords Go.Proofs.YtkfhdpnfcaghbaaW.PrintLast Go.Proofs.YtkfhdpnfcaghbaaW.PrintMore
attribute [local go_sem] max2_int min2_int max_two min_two max_three min_three max_four min_four   -- for this text's walks alone
open Go.Proofs.Ytkfhdpnfcaghbaa.Sp
attribute [local go_sem] Go.Proofs.Ytkfhdpnfcaghbaa.Sp.u64_not
set_option linter.unusedVariables false
set_option linter.unusedSimpArgs false

/-! ### quant_Press: function 46 -/
mutual
def quant_Press.j0 : Nat → List Int → Int → Int → List Int → Bool → Option (Int × Int × List Int × List Int × Int × Int × List Int × List Bool × Int)
 | 0, _, _, _, _, _ => none
 | k + 1, x0, x1, x2, x3, x33 => if x33 = true then (some (0, 0, ([] : List Int), ([] : List Int), 0, 0, ([] : List Int), ([] : List Bool), 1)) else ((vec_Most.f x0).bind fun bt144 => (if bt144.2 = 0 then (if 0 ≤ (x0.length : Int) then (if ((x0.length : Int) : Int).toNat ≤ 35184372088832 then (if ((x0.length : Int) : Int).toNat ≤ 281474976710656 then (quant_Press.l0 k x1 x2 x3 bt144.1 x0 (x0.length : Int) 0 2 (x0.length : Int) bt144.1 x1 (List.replicate ((x0.length : Int) : Int).toNat 0) (List.replicate ((x0.length : Int) : Int).toNat false)) else (none)) else (none)) else (none)) else (some (0, 0, ([] : List Int), ([] : List Int), 0, 0, ([] : List Int), ([] : List Bool), bt144.2))))
def quant_Press.l0 : Nat → Int → Int → List Int → Int → List Int → Int → Int → Int → Int → Int → Int → List Int → List Bool → Option (Int × Int × List Int × List Int × Int × Int × List Int × List Bool × Int)
 | 0, _, _, _, _, _, _, _, _, _, _, _, _, _ => none
 | k + 1, x1, x2, x3, x12, x55, x56, x57, x153000, x153001, x153004, x153005, x153006, x153007 => if x57 < x56 then (if 0 ≤ x57 then (if x57 < (x55.length : Int) then ((quant_Level.f (rd x55 x57) x12 x1).bind fun bt154 => (if bt154.2.2 = 0 then (if bt154.2.1 > 0 then ((slices_Clone_int_int.f x3).bind fun t157 => (if t157.length < 17592186044416 then ((draw_Chance.f k bt154.2.1 (IntKind.u64.wrap (x12)) x2 (t157 ++ [x57])).bind fun bt163 => (if bt163.2 = 0 then (if bt163.1 = true then (if x57 < (x153006.length : Int) then (if x57 < (x153007.length : Int) then (quant_Press.l0 k x1 x2 x3 x12 x55 x56 (wrap64 (x57 + 1)) x153000 x153001 x153004 x153005 (x153006.set (x57 : Int).toNat (IntKind.u64.wrap (bt154.1 + 1))) (x153007.set (x57 : Int).toNat (decide ((rd x55 x57) < 0)))) else (none)) else (none)) else (if x57 < (x153006.length : Int) then (if x57 < (x153007.length : Int) then (quant_Press.l0 k x1 x2 x3 x12 x55 x56 (wrap64 (x57 + 1)) x153000 x153001 x153004 x153005 (x153006.set (x57 : Int).toNat bt154.1) (x153007.set (x57 : Int).toNat (decide ((rd x55 x57) < 0)))) else (none)) else (none))) else (some (0, 0, ([] : List Int), ([] : List Int), 0, 0, ([] : List Int), ([] : List Bool), bt163.2)))) else (none))) else (if x57 < (x153006.length : Int) then (if x57 < (x153007.length : Int) then (quant_Press.l0 k x1 x2 x3 x12 x55 x56 (wrap64 (x57 + 1)) x153000 x153001 x153004 x153005 (x153006.set (x57 : Int).toNat bt154.1) (x153007.set (x57 : Int).toNat (decide ((rd x55 x57) < 0)))) else (none)) else (none))) else (some (0, 0, ([] : List Int), ([] : List Int), 0, 0, ([] : List Int), ([] : List Bool), bt154.2.2)))) else (none)) else (none)) else (some (x153000, x153001, ([] : List Int), ([] : List Int), x153004, x153005, x153006, x153007, 0))
end
def quant_Press.f (k : Nat) (l0 : List Int) (a1 : Int) (a2 : Int) (l3 : List Int) : Option (Int × Int × List Int × List Int × Int × Int × List Int × List Bool × Int) := (quant_Steps.f a1).bind fun bt142 => (if bt142.2 = 0 then (quant_Press.j0 k l0 a1 a2 l3 ((l0.length : Int) == 0)) else (quant_Press.j0 k l0 a1 a2 l3 true))
theorem quant_Press.mono_l : ∀ k, (∀ y0 y1 y2 y3 y4, LeO (quant_Press.j0 k y0 y1 y2 y3 y4) (quant_Press.j0 (k + 1) y0 y1 y2 y3 y4)) ∧ (∀ y0 y1 y2 y3 y4 y5 y6 y7 y8 y9 y10 y11 y12, LeO (quant_Press.l0 k y0 y1 y2 y3 y4 y5 y6 y7 y8 y9 y10 y11 y12) (quant_Press.l0 (k + 1) y0 y1 y2 y3 y4 y5 y6 y7 y8 y9 y10 y11 y12))
 | 0 => ⟨fun _ _ _ _ _ r h => by simp [quant_Press.j0] at h, fun _ _ _ _ _ _ _ _ _ _ _ _ _ r h => by simp [quant_Press.l0] at h⟩
 | k + 1 => by
  obtain ⟨ih0, ih1⟩ := quant_Press.mono_l k
  refine ⟨?_, ?_⟩
  ·
   intro y0 y1 y2 y3 y4
   unfold quant_Press.j0
   repeat' first
   | (with_reducible exact ih0 _ _ _ _ _)
   | (with_reducible exact ih1 _ _ _ _ _ _ _ _ _ _ _ _ _)
   | (with_reducible exact draw_Chance.mono _ _ _ _ _)
   | (with_reducible exact LeO.refl _)
   | (with_reducible exact LeO.none _)
   | (with_reducible refine LeO.ite ?_ ?_)
   | (with_reducible refine LeO.bind ?_ (fun _ => ?_))
  ·
   intro y0 y1 y2 y3 y4 y5 y6 y7 y8 y9 y10 y11 y12
   unfold quant_Press.l0
   repeat' first
   | (with_reducible exact ih0 _ _ _ _ _)
   | (with_reducible exact ih1 _ _ _ _ _ _ _ _ _ _ _ _ _)
   | (with_reducible exact draw_Chance.mono _ _ _ _ _)
   | (with_reducible exact LeO.refl _)
   | (with_reducible exact LeO.none _)
   | (with_reducible refine LeO.ite ?_ ?_)
   | (with_reducible refine LeO.bind ?_ (fun _ => ?_))
theorem quant_Press.mono : ∀ a0 a1 a2 a3 k, LeO (quant_Press.f k a0 a1 a2 a3) (quant_Press.f (k + 1) a0 a1 a2 a3) := by
 intro a0 a1 a2 a3 k
 obtain ⟨ih0, ih1⟩ := quant_Press.mono_l k
 unfold quant_Press.f
 repeat' first
   | (with_reducible exact ih0 _ _ _ _ _)
   | (with_reducible exact ih1 _ _ _ _ _ _ _ _ _ _ _ _ _)
   | (with_reducible exact draw_Chance.mono _ _ _ _ _)
   | (with_reducible exact LeO.refl _)
   | (with_reducible exact LeO.none _)
   | (with_reducible refine LeO.ite ?_ ?_)
   | (with_reducible refine LeO.bind ?_ (fun _ => ?_))
def quant_Press.T7 : Bool × List (List Nat × List Nat) := (true, [([], []), ([0], [0]), ([], []), ([], []), ([], []), ([4], [4]), ([5, 5], [5]), ([], []), ([7], [7]), ([8, 8], [8]), ([1, 2, 3, 6, 9], [1, 2, 3, 6, 9]), ([], []), ([11, 10, 0, 1, 2, 3, 4, 5, 6, 7, 8, 9, 10, 11], [10, 11])])
def quant_Press.B7 : List Nat := [0, 1, 0, 0, 0, 16, 48, 0, 128, 384, 1023, 0, 4095]
theorem quant_Press.tab7 : rtab .any (opsOf Try.f46 7) = quant_Press.T7 := by kernel_rfl
theorem quant_Press.bits7 : waitsOk quant_Press.T7.2 quant_Press.B7 = true := by kernel_rfl
def quant_Press.T20 : Bool × List (List Nat × List Nat) := (true, [([], []), ([0], [0]), ([], []), ([], []), ([3], [3]), ([], []), ([], []), ([], []), ([7], [7]), ([1, 2, 0, 1, 2, 6], [1, 2]), ([9, 6, 0, 1, 2, 6], [6, 9]), ([4, 5, 0, 1, 2, 3, 4, 5, 6, 7, 8, 9, 10], [4, 5]), ([11, 8, 10, 0, 1, 2, 3, 4, 5, 6, 7, 8, 9, 10], [8, 11])])
def quant_Press.B20 : List Nat := [0, 1, 0, 0, 8, 0, 0, 0, 128, 71, 583, 2047, 4095]
theorem quant_Press.tab20 : rtab .any (opsOf Try.f46 20) = quant_Press.T20 := by kernel_rfl
theorem quant_Press.bits20 : waitsOk quant_Press.T20.2 quant_Press.B20 = true := by kernel_rfl
set_option maxHeartbeats 8000000 in
set_option maxRecDepth 100000 in
theorem quant_Press.calls (k : Nat) (A0 : Option Addr) (c0 : Nat) (l0 : List Int) (a1 : Int) (a2 : Int) (A3 : Option Addr) (c3 : Nat) (l3 : List Int) (r1 : Int) (r2 : Int) (r3 : List Int) (r4 : List Int) (r5 : Int) (r6 : Int) (r7 : List Int) (r8 : List Bool) (r9 : Int) (w : World) (hr0 : Kd.C (Kd.int .i64) w A0 l0.length l0) (hc0 : l0.length ≤ c0) (hr3 : Kd.C (Kd.int .i64) w A3 l3.length l3) (hc3 : l3.length ≤ c3) (h : quant_Press.f k l0 a1 a2 l3 = some (r1, r2, r3, r4, r5, r6, r7, r8, r9)) :
  Calls Try.prog 46 #[.slice A0 l0.length c0, .int .i64 a1, .int .u64 a2, .slice A3 l3.length c3] w fun e w' => ∃ v2_ v3_ v6_ v7_ : Value, e = .returned (.tuple #[.agg #[.int .i64 r1, .int .i64 r2, v2_, v3_, .int .i64 r5, .int .i64 r6, v6_, v7_], .int .i64 r9]) ∧ Kd.R (Kd.int .i64) 3 w' w.heap.size (fun _ => True) v2_ r3 ∧ Kd.R (Kd.int .i64) 2 w' w.heap.size (fun _ => True) v3_ r4 ∧ Kd.R (Kd.int .u64) 64 w' w.heap.size (fun _ => True) v6_ r7 ∧ Kd.R Kd.bool 4 w' w.heap.size (fun _ => True) v7_ r8 ∧ Below w.heap.size w w' := by
 have hu30 := Try.underlying30
 have HR0 := ZM hr0
 have HC0 := ZM hc0
 clear hr0 hc0
 have HR3 := ZM hr3
 have HC3 := ZM hc3
 clear hr3 hc3
 have HB := ZM (Below.refl w.heap.size w)
 have H : ((quant_Steps.f a1).bind fun bt142 => (if bt142.2 = 0 then (quant_Press.j0 k l0 a1 a2 l3 ((l0.length : Int) == 0)) else (quant_Press.j0 k l0 a1 a2 l3 true))) = some (r1, r2, r3, r4, r5, r6, r7, r8, r9) := h
 clear h
 replace H := Option.bind_eq_some_iff.mp H
 obtain ⟨⟨t142, t143⟩, A50, H⟩ := H
 replace H : (if t143 = 0 then (quant_Press.j0 k l0 a1 a2 l3 ((l0.length : Int) == 0)) else (quant_Press.j0 k l0 a1 a2 l3 true)) = some (r1, r2, r3, r4, r5, r6, r7, r8, r9) := H
 have A5 := ZM A50
 clear A50
 have HC6 := ZM H
 clear H
 go_enter Try.func46, Try.ntmps46
 go_upto_region 2 with (first | ((with_reducible refine gate_dst (N := 8) rfl ?_); (try (refine gate_guard (by rfl) ?_; dsimp only)); refine box_event ?hg (N := 8) ?hd (cs := #[.int .i64 0, .int .i64 0, .slice none 0 0, .slice none 0 0, .int .i64 0, .int .i64 0, .slice none 0 0, .slice none 0 0]) (t := 30) ?hr ?_; (case hd => rfl); (case hg => rfl); (case hr => exact Z12); intro gb141 hg w7 hbox hb; have BK141 := ZM (hbox); have GW141 := ZM ((by rw [hg]; exact (zzS Z3) : w.heap.size ≤ gb141)); have GE141 := ZM ((by rw [hg]; exact (zzS Z3) : w.heap.size ≤ gb141)); replace HB := ZM (zzT Z3 hb); clear hb hbox hg) | ((with_reducible refine gate_callee (f := 51) rfl ?_); refine goesL_ (some 24) rfl rfl Try.func51 (by kernel_rfl) rfl #[.int .i64 a1] rfl Z1 ?_; (with_reducible refine (quant_Steps.calls a1 t142 t143 _ A5.out).mono ?_); rintro e w' ⟨rfl, ⟨nd, rfl⟩⟩; refine ⟨_, rfl, ?_⟩))
 (try simp only [Act.put, Zt])
 go_cut [33] (fun v33 wc => ∃ (kq : Nat) (x33_5 : Bool), v33 = .bool x33_5 ∧ Aside0 (quant_Press.j0 kq l0 a1 a2 l3 x33_5 = some (r1, r2, r3, r4, r5, r6, r7, r8, r9)) ∧ Aside0 (kq ≤ k) ∧ Aside0 (wc.heap[gb141]? = some (.cells #[.int .i64 0, .int .i64 0, (.slice none 0 0), (.slice none 0 0), .int .i64 0, .int .i64 0, (.slice none 0 0), (.slice none 0 0)] 30 (0, 0))) ∧ Aside0 (Below w.heap.size w wc))
 case first =>
  have H := HC6.out
  clear HC6
  by_cases c8 : t143 = 0
  case neg =>
   rw [if_neg c8] at H
   have c8b0 : (t143 == 0) = false := beq_eq_false_iff_ne.mpr c8
   have c8b1 : (t143 != 0) = true := bne_iff_ne.mpr c8
   (first | rw [c8b0] | (simp only [i64_w, i32_w]; rw [c8b0]) | skip)
   have H' := ZM H
   clear H
   go_wp2
   go_meet
   case rel => exact ⟨_, (true), Z5, H', ⟨by first | omega | exact Nat.le_refl _⟩, ⟨by (with_reducible repeat (first | refine kkN ?_ _ | refine kkD ?_ | refine kkA ?_ _)); exact BK141.out⟩, ⟨by repeat (first | (with_reducible first | exact HB.out | apply zzA | apply zzN | apply zzD | refine below_set ?_ GE141.out) | exact HB.out)⟩⟩
  rw [if_pos c8] at H
  have c8b0 : (t143 == 0) = true := beq_iff_eq.mpr c8
  have c8b1 : (t143 != 0) = false := bne_eq_false_iff_eq.mpr c8
  clear c8
  (first | rw [c8b0] | (simp only [i64_w, i32_w]; rw [c8b0]) | skip)
  have H' := ZM H
  clear H
  go_wp2
  go_meet
  case rel => exact ⟨_, (((l0.length : Int) == 0)), Z5, H', ⟨by first | omega | exact Nat.le_refl _⟩, ⟨by (with_reducible repeat (first | refine kkN ?_ _ | refine kkD ?_ | refine kkA ?_ _)); exact BK141.out⟩, ⟨by repeat (first | (with_reducible first | exact HB.out | apply zzA | apply zzN | apply zzD | refine below_set ?_ GE141.out) | exact HB.out)⟩⟩
 clear HC6
 try clear c3
 obtain ⟨kq, x33_5, rfl, HA, HJ5, BK141, HB⟩ := hcut
 cases kq with
 | zero => exact absurd HA.out (by simp [quant_Press.j0])
 | succ kj5 =>
  have H := HA.out
  clear HA
  simp only [quant_Press.j0] at H
  by_cases c9 : x33_5 = true
  ·
   subst c9
   have H1 : (some (0, 0, ([] : List Int), ([] : List Int), 0, 0, ([] : List Int), ([] : List Bool), 1)) = some (r1, r2, r3, r4, r5, r6, r7, r8, r9) := by rw [if_pos rfl] at H; exact H
   clear H
   have H := H1
   clear H1
   simp only [Option.some.injEq, Prod.mk.injEq] at H
   obtain ⟨rfl, rfl, rfl, rfl, rfl, rfl, rfl, rfl, rfl⟩ := H
   obtain ⟨hcz10_0, hcz10_1, hcz10_2, hcz10_3, hcz10_4, hcz10_5, hcz10_6, hcz10_7, hfz10_0, hfz10_1, hfz10_2, hfz10_3, hfz10_4, hfz10_5, hfz10_6, hfz10_7⟩ := Y8f BK141
   go_wp2
   refine bodyPost_ret (results_ct rfl _ _ gb141 30 #[.int .i64 0, .int .i64 0, .slice none 0 0, .slice none 0 0, .int .i64 0, .int .i64 0, .slice none 0 0, .slice none 0 0] (0, 0) _ rfl Z16 Try.underlying30 rfl (by kernel_rfl)) rfl ?_
   exact ⟨_, _, _, _, by first | rfl | (simp [errW_none, errW_some] <;> rfl) | (simp [*, errW_none, errW_some] <;> rfl), by first | exact Kd.R_nil _ _ _ _ _ | exact Kd.N_nil _ _ _ _ _ | exact Kd.V_nil _ _ _ _ _ | exact Kd.Q_nil _ _ _ _ _ | exact Kd.S_nil _ _ _ _ _, by first | exact Kd.R_nil _ _ _ _ _ | exact Kd.N_nil _ _ _ _ _ | exact Kd.V_nil _ _ _ _ _ | exact Kd.Q_nil _ _ _ _ _ | exact Kd.S_nil _ _ _ _ _, by first | exact Kd.R_nil _ _ _ _ _ | exact Kd.N_nil _ _ _ _ _ | exact Kd.V_nil _ _ _ _ _ | exact Kd.Q_nil _ _ _ _ _ | exact Kd.S_nil _ _ _ _ _, by first | exact Kd.R_nil _ _ _ _ _ | exact Kd.N_nil _ _ _ _ _ | exact Kd.V_nil _ _ _ _ _ | exact Kd.Q_nil _ _ _ _ _ | exact Kd.S_nil _ _ _ _ _, by repeat (first | (with_reducible first | exact HB.out | apply zzA | apply zzN | apply zzD | refine below_set ?_ GE141.out) | exact HB.out)⟩
  replace c9 := Bool.eq_false_iff.mpr c9
  subst c9
  have H1 : ((vec_Most.f l0).bind fun bt144 => (if bt144.2 = 0 then (if 0 ≤ (l0.length : Int) then (if ((l0.length : Int) : Int).toNat ≤ 35184372088832 then (if ((l0.length : Int) : Int).toNat ≤ 281474976710656 then (quant_Press.l0 kj5 a1 a2 l3 bt144.1 l0 (l0.length : Int) 0 2 (l0.length : Int) bt144.1 a1 (List.replicate ((l0.length : Int) : Int).toNat 0) (List.replicate ((l0.length : Int) : Int).toNat false)) else (none)) else (none)) else (none)) else (some (0, 0, ([] : List Int), ([] : List Int), 0, 0, ([] : List Int), ([] : List Bool), bt144.2)))) = some (r1, r2, r3, r4, r5, r6, r7, r8, r9) := by rw [if_neg (show ¬ (false = true) by decide)] at H; exact H
  clear H
  have H := H1
  clear H1
  replace H := Option.bind_eq_some_iff.mp H
  obtain ⟨⟨t144, t145⟩, A110, H⟩ := H
  replace H : (if t145 = 0 then (if 0 ≤ (l0.length : Int) then (if ((l0.length : Int) : Int).toNat ≤ 35184372088832 then (if ((l0.length : Int) : Int).toNat ≤ 281474976710656 then (quant_Press.l0 kj5 a1 a2 l3 t144 l0 (l0.length : Int) 0 2 (l0.length : Int) t144 a1 (List.replicate ((l0.length : Int) : Int).toNat 0) (List.replicate ((l0.length : Int) : Int).toNat false)) else (none)) else (none)) else (none)) else (some (0, 0, ([] : List Int), ([] : List Int), 0, 0, ([] : List Int), ([] : List Bool), t145))) = some (r1, r2, r3, r4, r5, r6, r7, r8, r9) := H
  have A11 := ZM A110
  clear A110
  by_cases c12 : t145 = 0
  case neg =>
   rw [if_neg c12] at H
   have c12b0 : (t145 == 0) = false := beq_eq_false_iff_ne.mpr c12
   have c12b1 : (t145 != 0) = true := bne_iff_ne.mpr c12
   simp only [Option.some.injEq, Prod.mk.injEq] at H
   obtain ⟨rfl, rfl, rfl, rfl, rfl, rfl, rfl, rfl, rfl⟩ := H
   go_wp2_with (first | ((with_reducible refine gate_callee (f := 65) rfl ?_); refine goesL_ (some 37) rfl rfl Try.func65 (by kernel_rfl) rfl #[.slice A0 l0.length c0] rfl Z1 ?_; (with_reducible refine (vec_Most.calls _ _ l0 t144 t145 _ ?side1 ?side2 A11.out).mono ?_); (case side1 => exact Z17); (case side2 => exact HC0.out); rintro e w98 ⟨rfl, hb⟩; refine ⟨_, rfl, ?_⟩; replace BK141 := ZM (blk_below (g := gb141) (o := .cells #[.int .i64 0, .int .i64 0, .slice none 0 0, .slice none 0 0, .int .i64 0, .int .i64 0, .slice none 0 0, .slice none 0 0] 30 (0, 0)) (Zk BK141) hb); replace HB := ZM (zzT Z8 hb); (try clear hb); (try clear hb2); (try clear hk); (try clear hi); obtain ⟨hcz99_0, hcz99_1, hcz99_2, hcz99_3, hcz99_4, hcz99_5, hcz99_6, hcz99_7, hfz99_0, hfz99_1, hfz99_2, hfz99_3, hfz99_4, hfz99_5, hfz99_6, hfz99_7⟩ := Y8f BK141))
   refine bodyPost_ret (results_ct rfl _ _ gb141 30 #[.int .i64 0, .int .i64 0, .slice none 0 0, .slice none 0 0, .int .i64 0, .int .i64 0, .slice none 0 0, .slice none 0 0] (0, 0) _ rfl Z16 Try.underlying30 rfl (by kernel_rfl)) rfl ?_
   exact ⟨_, _, _, _, by first | rfl | (simp [errW_none, errW_some] <;> rfl) | (simp [*, errW_none, errW_some] <;> rfl), by first | exact Kd.R_nil _ _ _ _ _ | exact Kd.N_nil _ _ _ _ _ | exact Kd.V_nil _ _ _ _ _ | exact Kd.Q_nil _ _ _ _ _ | exact Kd.S_nil _ _ _ _ _, by first | exact Kd.R_nil _ _ _ _ _ | exact Kd.N_nil _ _ _ _ _ | exact Kd.V_nil _ _ _ _ _ | exact Kd.Q_nil _ _ _ _ _ | exact Kd.S_nil _ _ _ _ _, by first | exact Kd.R_nil _ _ _ _ _ | exact Kd.N_nil _ _ _ _ _ | exact Kd.V_nil _ _ _ _ _ | exact Kd.Q_nil _ _ _ _ _ | exact Kd.S_nil _ _ _ _ _, by first | exact Kd.R_nil _ _ _ _ _ | exact Kd.N_nil _ _ _ _ _ | exact Kd.V_nil _ _ _ _ _ | exact Kd.Q_nil _ _ _ _ _ | exact Kd.S_nil _ _ _ _ _, by repeat (first | (with_reducible first | exact HB.out | apply zzA | apply zzN | apply zzD | refine below_set ?_ GE141.out) | exact HB.out)⟩
  rw [if_pos c12] at H
  have c12b0 : (t145 == 0) = true := beq_iff_eq.mpr c12
  have c12b1 : (t145 != 0) = false := bne_eq_false_iff_eq.mpr c12
  clear c12
  by_cases c13 : 0 ≤ (l0.length : Int)
  case neg =>
   rw [if_neg c13] at H
   exact absurd H (by simp)
  rw [if_pos c13] at H
  have c13b0 := eq_true c13
  have c13b1 : decide (0 ≤ (l0.length : Int)) = true := decide_eq_true c13
  clear c13
  by_cases c14 : ((l0.length : Int) : Int).toNat ≤ 35184372088832
  case neg =>
   rw [if_neg c14] at H
   exact absurd H (by simp)
  rw [if_pos c14] at H
  have c14b0 := eq_true c14
  have c14b1 : decide (((l0.length : Int) : Int).toNat ≤ 35184372088832) = true := decide_eq_true c14
  clear c14
  obtain ⟨y146, hy146⟩ : ∃ y_ : List Int, y_ = (List.replicate ((l0.length : Int) : Int).toNat 0) := ⟨_, rfl⟩
  replace H : (if ((l0.length : Int) : Int).toNat ≤ 281474976710656 then (quant_Press.l0 kj5 a1 a2 l3 t144 l0 (l0.length : Int) 0 2 (l0.length : Int) t144 a1 y146 (List.replicate ((l0.length : Int) : Int).toNat false)) else (none)) = some (r1, r2, r3, r4, r5, r6, r7, r8, r9) := by first | (rw [hy146]; with_reducible exact H) | (have H2_ := (Option.bind_some _ _).symm.trans H; rw [hy146]; with_reducible exact H2_) | (have H2_ := (Option.bind_some _ _).symm.trans H; with_reducible exact H2_) | with_reducible exact H | (rw [hy146]; exact H) | exact H
  have Ny146 := ZM hy146
  clear hy146
  by_cases c15 : ((l0.length : Int) : Int).toNat ≤ 281474976710656
  case neg =>
   rw [if_neg c15] at H
   exact absurd H (by simp)
  rw [if_pos c15] at H
  have c15b0 := eq_true c15
  have c15b1 : decide (((l0.length : Int) : Int).toNat ≤ 281474976710656) = true := decide_eq_true c15
  clear c15
  obtain ⟨y149, hy149⟩ : ∃ y_ : List Bool, y_ = (List.replicate ((l0.length : Int) : Int).toNat false) := ⟨_, rfl⟩
  replace H : (quant_Press.l0 kj5 a1 a2 l3 t144 l0 (l0.length : Int) 0 2 (l0.length : Int) t144 a1 y146 y149) = some (r1, r2, r3, r4, r5, r6, r7, r8, r9) := by first | (rw [hy149]; with_reducible exact H) | (have H2_ := (Option.bind_some _ _).symm.trans H; rw [hy149]; with_reducible exact H2_) | (have H2_ := (Option.bind_some _ _).symm.trans H; with_reducible exact H2_) | with_reducible exact H | (rw [hy149]; exact H) | exact H
  have Ny149 := ZM hy149
  clear hy149
  have H' := ZM H
  clear H
  try go_wp2_with (first | ((with_reducible refine gate_callee (f := 65) rfl ?_); refine goesL_ (some 37) rfl rfl Try.func65 (by kernel_rfl) rfl #[.slice A0 l0.length c0] rfl Z1 ?_; (with_reducible refine (vec_Most.calls _ _ l0 t144 t145 _ ?side1 ?side2 A11.out).mono ?_); (case side1 => exact Z17); (case side2 => exact HC0.out); rintro e w16 ⟨rfl, hb⟩; refine ⟨_, rfl, ?_⟩; replace BK141 := ZM (blk_below (g := gb141) (o := .cells #[.int .i64 0, .int .i64 0, .slice none 0 0, .slice none 0 0, .int .i64 0, .int .i64 0, .slice none 0 0, .slice none 0 0] 30 (0, 0)) (Zk BK141) hb); replace HB := ZM (zzT Z8 hb); (try clear hb); (try clear hb2); (try clear hk); (try clear hi)))
  have n0_ := ZM (kkD BK141.out)
  have n1_ := ZM (zzD HB.out)
  clear BK141
  clear HB
  have BK141 := n0_
  have HB := n1_
  clear n0_ n1_
  refine start_ (n := 13) (S := fun w' => True) (ds := []) #[false, false, false, false, false, false, false, false, false, false, false, false, false] (by kernel_rfl) rfl rfl trivial (fun hHeld => ?_); refine with_tabW quant_Press.tab7 quant_Press.bits7 (fun HT_ HW_ => ?_)
  generalize w16.drew = w17 at BK141 HB hHeld ⊢
  refine pure_ (i := 0) (N := some 44) (v := ?_) (a' := ?_) #[true, false, false, false, false, false, false, false, false, false, false, false, false] rfl rfl (any_of HT_.out (by kernel_rfl)) (fun _ _ _ h => h) (Or.inl ⟨by rfl, ?_⟩) ?_ ?_
  rotate_left
  ·
   intro w'
   go_simp
   with_reducible rfl
  rotate_left
  ·
   simp only [Act.put, Zs]
   rfl
  refine pure_ (i := 1) (N := some 45) (v := ?_) (a' := ?_) #[true, true, false, false, false, false, false, false, false, false, false, false, false] rfl rfl (any_of HT_.out (by kernel_rfl)) (fun _ _ _ h => h) (Or.inl ⟨by rfl, ?_⟩) ?_ ?_
  rotate_left
  ·
   intro w'
   go_simp
   with_reducible rfl
  rotate_left
  ·
   simp only [Act.put, Zs]
   rfl
  refine pure_ (i := 2) (N := some 46) (v := ?_) (a' := ?_) #[true, true, true, false, false, false, false, false, false, false, false, false, false] rfl rfl (any_of HT_.out (by kernel_rfl)) (fun _ _ _ h => h) (Or.inl ⟨by rfl, ?_⟩) ?_ ?_
  rotate_left
  ·
   intro w'
   go_simp
   with_reducible rfl
  rotate_left
  ·
   simp only [Act.put, Zs]
   rfl
  refine pure_ (i := 3) (N := some 47) (v := ?_) (a' := ?_) #[true, true, true, true, false, false, false, false, false, false, false, false, false] rfl rfl (any_of HT_.out (by kernel_rfl)) (fun _ _ _ h => h) (Or.inl ⟨by rfl, ?_⟩) ?_ ?_
  rotate_left
  ·
   intro w'
   go_simp
   with_reducible rfl
  rotate_left
  ·
   simp only [Act.put, Zs]
   rfl
  refine pure_ (i := 4) (N := some 48) (v := ?_) (a' := ?_) #[true, true, true, true, true, false, false, false, false, false, false, false, false] rfl rfl (any_of HT_.out (by kernel_rfl)) (fun _ _ _ h => h) (Or.inl ⟨by rfl, ?_⟩) ?_ ?_
  rotate_left
  ·
   intro w'
   go_simp
   with_reducible rfl
  rotate_left
  ·
   simp only [Act.put, Zs]
   rfl
  refine pure_ (i := 5) (N := some 49) (v := ?_) (a' := ?_) #[true, true, true, true, true, true, false, false, false, false, false, false, false] rfl rfl (any_of HT_.out (by kernel_rfl)) (fun _ _ _ h => h) (Or.inl ⟨by rfl, ?_⟩) ?_ ?_
  rotate_left
  ·
   intro w'
   go_simp
   with_reducible rfl
  rotate_left
  ·
   simp only [Act.put, Zs]
   rfl
  refine pure_ (i := 7) (N := some 51) (v := ?_) (a' := ?_) #[true, true, true, true, true, true, false, true, false, false, false, false, false] rfl rfl (any_of HT_.out (by kernel_rfl)) (fun _ _ _ h => h) (Or.inl ⟨by rfl, ?_⟩) ?_ ?_
  rotate_left
  ·
   intro w'
   go_simp
   with_reducible rfl
  rotate_left
  ·
   simp only [Act.put, Zs]
   rfl
  refine pure_ (i := 8) (N := some 52) (v := ?_) (a' := ?_) #[true, true, true, true, true, true, false, true, true, false, false, false, false] rfl rfl (any_of HT_.out (by kernel_rfl)) (fun _ _ _ h => h) (Or.inl ⟨by rfl, ?_⟩) ?_ ?_
  rotate_left
  ·
   intro w'
   go_simp
   with_reducible rfl
  rotate_left
  ·
   simp only [Act.put, Zs]
   rfl
  refine join_ (σ := Value × Value × Nat) 1 #[true, true, true, true, true, true, true, true, true, true, true, true, false] (fun s_ => [(50, s_.1), (53, s_.2.1), (14, .pointer (some ⟨s_.2.2, 0, none⟩)), (54, .agg #[.int .i64 2, .int .i64 (l0.length : Int), .slice none 0 0, .slice none 0 0, .int .i64 t144, .int .i64 a1, s_.1, s_.2.1])]) (fun s_ w' => (Kd.R (Kd.int .u64) 64 w' w.heap.size (fun _ => True) s_.1 y146) ∧ (Kd.R Kd.bool 4 w' w.heap.size (fun _ => True) s_.2.1 y149) ∧ (w'.heap[gb141]? = some (.cells #[.int .i64 0, .int .i64 0, .slice none 0 0, .slice none 0 0, .int .i64 0, .int .i64 0, .slice none 0 0, .slice none 0 0] 30 (0, 0))) ∧ (w'.heap[s_.2.2]? = some (.cells #[.int .i64 0, .int .i64 0, .slice none 0 0, .slice none 0 0, .int .i64 0, .int .i64 0, .slice none 0 0, .slice none 0 0] 30 (0, 0))) ∧ (w.heap.size ≤ s_.2.2) ∧ (w.heap.size ≤ s_.2.2) ∧ (gb141 ≠ s_.2.2) ∧ (s_.2.2 ≠ gb141) ∧ (Below w.heap.size w w')) ?_ ?_
  rotate_left
  ·
   intro hJ6_9_11
   refine join_ (σ := Value × Value) 2 #[true, true, true, true, true, true, true, true, true, true, true, false, false] (fun s_ => [(50, s_.1), (53, s_.2), (54, .agg #[.int .i64 2, .int .i64 (l0.length : Int), .slice none 0 0, .slice none 0 0, .int .i64 t144, .int .i64 a1, s_.1, s_.2])]) (fun s_ w' => (Kd.R (Kd.int .u64) 64 w' w.heap.size (fun _ => True) s_.1 y146) ∧ (Kd.R Kd.bool 4 w' w.heap.size (fun _ => True) s_.2 y149) ∧ (w'.heap[gb141]? = some (.cells #[.int .i64 0, .int .i64 0, .slice none 0 0, .slice none 0 0, .int .i64 0, .int .i64 0, .slice none 0 0, .slice none 0 0] 30 (0, 0))) ∧ (Below w.heap.size w w')) ?_ ?_
   rotate_left
   ·
    intro hJ6_9
    refine join_ (σ := Value × Nat) 3 #[true, true, true, true, true, true, true, true, true, false, false, true, false] (fun s_ => [(50, s_.1), (14, .pointer (some ⟨s_.2, 0, none⟩))]) (fun s_ w' => (Kd.R (Kd.int .u64) 64 w' w.heap.size (fun _ => True) s_.1 y146) ∧ (w'.heap[gb141]? = some (.cells #[.int .i64 0, .int .i64 0, .slice none 0 0, .slice none 0 0, .int .i64 0, .int .i64 0, .slice none 0 0, .slice none 0 0] 30 (0, 0))) ∧ (w'.heap[s_.2]? = some (.cells #[.int .i64 0, .int .i64 0, .slice none 0 0, .slice none 0 0, .int .i64 0, .int .i64 0, .slice none 0 0, .slice none 0 0] 30 (0, 0))) ∧ (w.heap.size ≤ s_.2) ∧ (w.heap.size ≤ s_.2) ∧ (gb141 ≠ s_.2) ∧ (s_.2 ≠ gb141) ∧ (Below w.heap.size w w')) ?_ ?_
    rotate_left
    ·
     intro hJ6_11
     refine join_ (σ := Value × Nat) 3 #[true, true, true, true, true, true, false, true, true, true, false, true, false] (fun s_ => [(53, s_.1), (14, .pointer (some ⟨s_.2, 0, none⟩))]) (fun s_ w' => (Kd.R Kd.bool 4 w' w.heap.size (fun _ => True) s_.1 y149) ∧ (w'.heap[gb141]? = some (.cells #[.int .i64 0, .int .i64 0, .slice none 0 0, .slice none 0 0, .int .i64 0, .int .i64 0, .slice none 0 0, .slice none 0 0] 30 (0, 0))) ∧ (w'.heap[s_.2]? = some (.cells #[.int .i64 0, .int .i64 0, .slice none 0 0, .slice none 0 0, .int .i64 0, .int .i64 0, .slice none 0 0, .slice none 0 0] 30 (0, 0))) ∧ (w.heap.size ≤ s_.2) ∧ (w.heap.size ≤ s_.2) ∧ (gb141 ≠ s_.2) ∧ (s_.2 ≠ gb141) ∧ (Below w.heap.size w w')) ?_ ?_
     rotate_left
     ·
      intro hJ9_11
      refine join_ (σ := Value) 4 #[true, true, true, true, true, true, true, true, true, false, false, false, false] (fun s_ => [(50, s_)]) (fun s_ w' => (Kd.R (Kd.int .u64) 64 w' w.heap.size (fun _ => True) s_ y146) ∧ (w'.heap[gb141]? = some (.cells #[.int .i64 0, .int .i64 0, .slice none 0 0, .slice none 0 0, .int .i64 0, .int .i64 0, .slice none 0 0, .slice none 0 0] 30 (0, 0))) ∧ (Below w.heap.size w w')) ?_ ?_
      rotate_left
      ·
       intro hJ6
       refine join_ (σ := Value) 4 #[true, true, true, true, true, true, false, true, true, true, false, false, false] (fun s_ => [(53, s_)]) (fun s_ w' => (Kd.R Kd.bool 4 w' w.heap.size (fun _ => True) s_ y149) ∧ (w'.heap[gb141]? = some (.cells #[.int .i64 0, .int .i64 0, .slice none 0 0, .slice none 0 0, .int .i64 0, .int .i64 0, .slice none 0 0, .slice none 0 0] 30 (0, 0))) ∧ (Below w.heap.size w w')) ?_ ?_
       rotate_left
       ·
        intro hJ9
        refine join_ (σ := Nat) 4 #[true, true, true, true, true, true, false, true, true, false, false, true, false] (fun s_ => [(14, .pointer (some ⟨s_, 0, none⟩))]) (fun s_ w' => (w'.heap[gb141]? = some (.cells #[.int .i64 0, .int .i64 0, .slice none 0 0, .slice none 0 0, .int .i64 0, .int .i64 0, .slice none 0 0, .slice none 0 0] 30 (0, 0))) ∧ (w'.heap[s_]? = some (.cells #[.int .i64 0, .int .i64 0, .slice none 0 0, .slice none 0 0, .int .i64 0, .int .i64 0, .slice none 0 0, .slice none 0 0] 30 (0, 0))) ∧ (w.heap.size ≤ s_) ∧ (w.heap.size ≤ s_) ∧ (gb141 ≠ s_) ∧ (s_ ≠ gb141) ∧ (Below w.heap.size w w')) ?_ ?_
        rotate_left
        ·
         intro hJ11
         refine three_ (i := 6) (j := 9) (k := 11) (Ni := some 50) (Nj := some 53) (Nk := some 14) #[true, true, true, true, true, true, true, true, true, false, false, false, false] #[true, true, true, true, true, true, false, true, true, true, false, false, false] #[true, true, true, true, true, true, false, true, true, false, false, true, false] rfl rfl rfl rfl rfl rfl (three_of HT_.out (by kernel_rfl)) (by decide) (by decide) (by decide) (fun K hK => ?_) (fun K hK => ?_) (fun K hK => ?_)
         ·
          skip
          refine Kd.R_make_step (Kd.int .u64) _ 64 (by rfl) (N := 50) rfl 28 _ _ rfl (l0.length : Int) rfl rfl Try.underlying28 (.int .u64 0) 8 info64 rfl (by decide) (by omega) 0 (ok := fun _ => True) (okp := fun _ => True) rfl (fun _ hk => hk) trivial (of_decide_eq_true Z2) (Nat.le_trans (Nat.mul_le_mul_right _ (of_decide_eq_true Z2 : (l0.length : Int).toNat ≤ 35184372088832)) (by omega)) (Below.refl _ _) (Nat.le_refl _) ?_
          intro v147 w18 ho19 hb hg_ hnew_
          clear hg_ hnew_
          (first | rw [← Ny146.out] at ho19 | (simp only [Int.reduceToNat] at ho19; rw [← Ny146.out] at ho19))
          have n0_ := ZM (Kd.R_lower ho19 (zzS Z8))
          have n1_ := ZM (blk_below (g := gb141) (o := .cells #[.int .i64 0, .int .i64 0, .slice none 0 0, .slice none 0 0, .int .i64 0, .int .i64 0, .slice none 0 0, .slice none 0 0] 30 (0, 0)) (Zk BK141) hb)
          have n2_ := ZM (zzT Z8 hb)
          clear BK141
          clear HB
          have HO148 := n0_
          have BK141 := n1_
          have HB := n2_
          clear n0_ n1_ n2_
          clear hb ho19
          refine hK.out _ _ trivial (fun hHeld => ?_)
          clear hK K
          refine norm_ (a' := ?_) ?_ ?_
          rotate_left
          ·
           show Act.put _ (some 50) _ = _
           simp only [Act.put, Zs]
           rfl
          exact norm_ Z21 (hJ6 (v147) _ ⟨(Zr HO148), (Zk BK141), Z8⟩)
         ·
          skip
          refine Kd.R_make_step Kd.bool _ 4 (by rfl) (N := 53) rfl 22 _ _ rfl (l0.length : Int) rfl rfl Try.underlying22 (.bool false) 1 info4 rfl (by decide) (by omega) false (ok := fun _ => True) (okp := fun _ => True) rfl (fun _ hk => hk) trivial (of_decide_eq_true Z2) (Nat.le_trans (Nat.mul_le_mul_right _ (of_decide_eq_true Z2 : (l0.length : Int).toNat ≤ 281474976710656)) (by omega)) (Below.refl _ _) (Nat.le_refl _) ?_
          intro v150 w18 ho19 hb hg_ hnew_
          clear hg_ hnew_
          (first | rw [← Ny149.out] at ho19 | (simp only [Int.reduceToNat] at ho19; rw [← Ny149.out] at ho19))
          have n0_ := ZM (Kd.R_lower ho19 (zzS Z8))
          have n1_ := ZM (blk_below (g := gb141) (o := .cells #[.int .i64 0, .int .i64 0, .slice none 0 0, .slice none 0 0, .int .i64 0, .int .i64 0, .slice none 0 0, .slice none 0 0] 30 (0, 0)) (Zk BK141) hb)
          have n2_ := ZM (zzT Z8 hb)
          clear BK141
          clear HB
          have HO151 := n0_
          have BK141 := n1_
          have HB := n2_
          clear n0_ n1_ n2_
          clear hb ho19
          refine hK.out _ _ trivial (fun hHeld => ?_)
          clear hK K
          refine norm_ (a' := ?_) ?_ ?_
          rotate_left
          ·
           show Act.put _ (some 53) _ = _
           simp only [Act.put, Zs]
           rfl
          exact norm_ Z21 (hJ9 (v150) _ ⟨(Zr HO151), (Zk BK141), Z8⟩)
         skip
         refine box_step ?hg (N := 14) ?hd (cs := #[.int .i64 0, .int .i64 0, .slice none 0 0, .slice none 0 0, .int .i64 0, .int .i64 0, .slice none 0 0, .slice none 0 0]) (t := 30) ?hr ?_; (case hd => rfl); (case hg => rfl); (case hr => exact Z12)
         intro gb152 hg w18 hbox hb
         have n0_ := ZM (blk_below (g := gb141) (o := .cells #[.int .i64 0, .int .i64 0, .slice none 0 0, .slice none 0 0, .int .i64 0, .int .i64 0, .slice none 0 0, .slice none 0 0] 30 (0, 0)) (Zk BK141) hb)
         have n1_ := ZM (zzT Z8 hb)
         have n2_ := ZM (hbox)
         have n3_ := ZM ((by rw [hg]; exact (zzS Z8) : w.heap.size ≤ gb152))
         have n4_ := ZM ((by rw [hg]; exact (zzS Z8) : w.heap.size ≤ gb152))
         have n5_ := ZM ((by rw [hg]; exact Nat.ne_of_lt (blk_lt (g := gb141) (o := .cells #[.int .i64 0, .int .i64 0, .slice none 0 0, .slice none 0 0, .int .i64 0, .int .i64 0, .slice none 0 0, .slice none 0 0] 30 (0, 0)) (Zk BK141)) : gb141 ≠ gb152))
         have n6_ := ZM ((by rw [hg]; exact Nat.ne_of_gt (blk_lt (g := gb141) (o := .cells #[.int .i64 0, .int .i64 0, .slice none 0 0, .slice none 0 0, .int .i64 0, .int .i64 0, .slice none 0 0, .slice none 0 0] 30 (0, 0)) (Zk BK141)) : gb152 ≠ gb141))
         clear BK141
         clear HB
         have BK141 := n0_
         have HB := n1_
         have BK152 := n2_
         have GW152 := n3_
         have GE152 := n4_
         have NB141_152 := n5_
         have NB152_141 := n6_
         clear n0_ n1_ n2_ n3_ n4_ n5_ n6_
         clear hb hbox hg
         refine hK.out _ _ trivial (fun hHeld => ?_)
         clear hK K
         refine norm_ (a' := ?_) ?_ ?_
         rotate_left
         ·
          show Act.put _ (some 14) _ = _
          simp only [Act.put, Zs]
          rfl
         exact norm_ Z21 (hJ11 (gb152) _ ⟨(Zk BK141), (Zk BK152), GW152.out, GE152.out, NB141_152.out, NB152_141.out, Z4⟩)
        skip
        rintro gb152 w19 ⟨h0_, h1_, h2_, h3_, h4_, h5_, h6_⟩
        have n0_ : Aside0 (w19.heap[gb141]? = some (.cells #[.int .i64 0, .int .i64 0, .slice none 0 0, .slice none 0 0, .int .i64 0, .int .i64 0, .slice none 0 0, .slice none 0 0] 30 (0, 0))) := ⟨h0_⟩
        have n1_ : Aside0 (w19.heap[gb152]? = some (.cells #[.int .i64 0, .int .i64 0, .slice none 0 0, .slice none 0 0, .int .i64 0, .int .i64 0, .slice none 0 0, .slice none 0 0] 30 (0, 0))) := ⟨h1_⟩
        have n2_ : Aside0 (w.heap.size ≤ gb152) := ⟨h2_⟩
        have n3_ : Aside0 (w.heap.size ≤ gb152) := ⟨h3_⟩
        have n4_ : Aside0 (gb141 ≠ gb152) := ⟨h4_⟩
        have n5_ : Aside0 (gb152 ≠ gb141) := ⟨h5_⟩
        have n6_ : Aside0 (Below w.heap.size w w19) := ⟨h6_⟩
        clear BK141
        clear HB
        clear h0_ h1_ h2_ h3_ h4_ h5_ h6_
        have BK141 := n0_
        have BK152 := n1_
        have GW152 := n2_
        have GE152 := n3_
        have NB141_152 := n4_
        have NB152_141 := n5_
        have HB := n6_
        clear n0_ n1_ n2_ n3_ n4_ n5_ n6_
        have hHeld := trivial
        refine norm_ (a' := ?_) ?_ ?_
        rotate_left
        ·
         simp only [putAll, Act.put, Zt]
         rfl
        refine two_ (i := 6) (j := 9) (Ni := some 50) (Nj := some 53) #[true, true, true, true, true, true, true, true, true, false, false, true, false] #[true, true, true, true, true, true, false, true, true, true, false, true, false] rfl rfl rfl rfl (two_of HT_.out (by kernel_rfl)) (by decide) (by decide) (fun K hK => ?_) (fun K hK => ?_)
        ·
         skip
         refine Kd.R_make_step (Kd.int .u64) _ 64 (by rfl) (N := 50) rfl 28 _ _ rfl (l0.length : Int) rfl rfl Try.underlying28 (.int .u64 0) 8 info64 rfl (by decide) (by omega) 0 (ok := fun _ => True) (okp := fun _ => True) rfl (fun _ hk => hk) trivial (of_decide_eq_true Z2) (Nat.le_trans (Nat.mul_le_mul_right _ (of_decide_eq_true Z2 : (l0.length : Int).toNat ≤ 35184372088832)) (by omega)) (Below.refl _ _) (Nat.le_refl _) ?_
         intro v147 w20 ho21 hb hg_ hnew_
         clear hg_ hnew_
         (first | rw [← Ny146.out] at ho21 | (simp only [Int.reduceToNat] at ho21; rw [← Ny146.out] at ho21))
         have n0_ := ZM (Kd.R_lower ho21 (zzS Z4))
         have n1_ := ZM (blk_below (g := gb141) (o := .cells #[.int .i64 0, .int .i64 0, .slice none 0 0, .slice none 0 0, .int .i64 0, .int .i64 0, .slice none 0 0, .slice none 0 0] 30 (0, 0)) (Zk BK141) hb)
         have n2_ := ZM (blk_below (g := gb152) (o := .cells #[.int .i64 0, .int .i64 0, .slice none 0 0, .slice none 0 0, .int .i64 0, .int .i64 0, .slice none 0 0, .slice none 0 0] 30 (0, 0)) (Zk BK152) hb)
         have n3_ := ZM (zzT Z4 hb)
         clear BK141
         clear BK152
         clear HB
         have HO148 := n0_
         have BK141 := n1_
         have BK152 := n2_
         have HB := n3_
         clear n0_ n1_ n2_ n3_
         clear hb ho21
         refine hK.out _ _ trivial (fun hHeld => ?_)
         clear hK K
         refine norm_ (a' := ?_) ?_ ?_
         rotate_left
         ·
          show Act.put _ (some 50) _ = _
          simp only [Act.put, Zs]
          rfl
         exact norm_ Z21 (hJ6_11 (v147, gb152) _ ⟨(Zr HO148), (Zk BK141), (Zk BK152), GW152.out, GE152.out, NB141_152.out, NB152_141.out, Z4⟩)
        skip
        refine Kd.R_make_step Kd.bool _ 4 (by rfl) (N := 53) rfl 22 _ _ rfl (l0.length : Int) rfl rfl Try.underlying22 (.bool false) 1 info4 rfl (by decide) (by omega) false (ok := fun _ => True) (okp := fun _ => True) rfl (fun _ hk => hk) trivial (of_decide_eq_true Z2) (Nat.le_trans (Nat.mul_le_mul_right _ (of_decide_eq_true Z2 : (l0.length : Int).toNat ≤ 281474976710656)) (by omega)) (Below.refl _ _) (Nat.le_refl _) ?_
        intro v150 w20 ho21 hb hg_ hnew_
        clear hg_ hnew_
        (first | rw [← Ny149.out] at ho21 | (simp only [Int.reduceToNat] at ho21; rw [← Ny149.out] at ho21))
        have n0_ := ZM (Kd.R_lower ho21 (zzS Z4))
        have n1_ := ZM (blk_below (g := gb141) (o := .cells #[.int .i64 0, .int .i64 0, .slice none 0 0, .slice none 0 0, .int .i64 0, .int .i64 0, .slice none 0 0, .slice none 0 0] 30 (0, 0)) (Zk BK141) hb)
        have n2_ := ZM (blk_below (g := gb152) (o := .cells #[.int .i64 0, .int .i64 0, .slice none 0 0, .slice none 0 0, .int .i64 0, .int .i64 0, .slice none 0 0, .slice none 0 0] 30 (0, 0)) (Zk BK152) hb)
        have n3_ := ZM (zzT Z4 hb)
        clear BK141
        clear BK152
        clear HB
        have HO151 := n0_
        have BK141 := n1_
        have BK152 := n2_
        have HB := n3_
        clear n0_ n1_ n2_ n3_
        clear hb ho21
        refine hK.out _ _ trivial (fun hHeld => ?_)
        clear hK K
        refine norm_ (a' := ?_) ?_ ?_
        rotate_left
        ·
         show Act.put _ (some 53) _ = _
         simp only [Act.put, Zs]
         rfl
        exact norm_ Z21 (hJ9_11 (v150, gb152) _ ⟨(Zr HO151), (Zk BK141), (Zk BK152), GW152.out, GE152.out, NB141_152.out, NB152_141.out, Z4⟩)
       skip
       rintro v150 w20 ⟨h0_, h1_, h2_⟩
       have n0_ : Aside0 (Kd.R Kd.bool 4 w20 w.heap.size (fun _ => True) v150 y149) := ⟨h0_⟩
       have n1_ : Aside0 (w20.heap[gb141]? = some (.cells #[.int .i64 0, .int .i64 0, .slice none 0 0, .slice none 0 0, .int .i64 0, .int .i64 0, .slice none 0 0, .slice none 0 0] 30 (0, 0))) := ⟨h1_⟩
       have n2_ : Aside0 (Below w.heap.size w w20) := ⟨h2_⟩
       clear BK141
       clear HB
       clear h0_ h1_ h2_
       have HO151 := n0_
       have BK141 := n1_
       have HB := n2_
       clear n0_ n1_ n2_
       have hHeld := trivial
       refine norm_ (a' := ?_) ?_ ?_
       rotate_left
       ·
        simp only [putAll, Act.put, Zt]
        rfl
       refine two_ (i := 6) (j := 11) (Ni := some 50) (Nj := some 14) #[true, true, true, true, true, true, true, true, true, true, false, false, false] #[true, true, true, true, true, true, false, true, true, true, false, true, false] rfl rfl rfl rfl (two_of HT_.out (by kernel_rfl)) (by decide) (by decide) (fun K hK => ?_) (fun K hK => ?_)
       ·
        skip
        refine Kd.R_make_step (Kd.int .u64) _ 64 (by rfl) (N := 50) rfl 28 _ _ rfl (l0.length : Int) rfl rfl Try.underlying28 (.int .u64 0) 8 info64 rfl (by decide) (by omega) 0 (ok := fun _ => True) (okp := fun _ => True) rfl (fun _ hk => hk) trivial (of_decide_eq_true Z2) (Nat.le_trans (Nat.mul_le_mul_right _ (of_decide_eq_true Z2 : (l0.length : Int).toNat ≤ 35184372088832)) (by omega)) (Below.refl _ _) (Nat.le_refl _) ?_
        intro v147 w21 ho22 hb hg_ hnew_
        clear hg_ hnew_
        (first | rw [← Ny146.out] at ho22 | (simp only [Int.reduceToNat] at ho22; rw [← Ny146.out] at ho22))
        have n0_ := ZM (Kd.R_below (Zr HO151) hb)
        have n1_ := ZM (Kd.R_lower ho22 (zzS Z8))
        have n2_ := ZM (blk_below (g := gb141) (o := .cells #[.int .i64 0, .int .i64 0, .slice none 0 0, .slice none 0 0, .int .i64 0, .int .i64 0, .slice none 0 0, .slice none 0 0] 30 (0, 0)) (Zk BK141) hb)
        have n3_ := ZM (zzT Z8 hb)
        clear HO151
        clear BK141
        clear HB
        have HO151 := n0_
        have HO148 := n1_
        have BK141 := n2_
        have HB := n3_
        clear n0_ n1_ n2_ n3_
        clear hb ho22
        obtain ⟨Ao23, co23, eo23⟩ := Kd.R_slice HO151.out
        (first | subst eo23 | (injection eo23 with f1_ f2_ f3_; have f4_ := f1_.symm; have f5_ := f3_.symm; clear f1_ f2_ f3_; subst f4_; subst f5_))
        obtain ⟨Ao24, co24, eo24⟩ := Kd.R_slice HO148.out
        (first | subst eo24 | (injection eo24 with f1_ f2_ f3_; have f4_ := f1_.symm; have f5_ := f3_.symm; clear f1_ f2_ f3_; subst f4_; subst f5_))
        refine hK.out _ _ trivial (fun hHeld => ?_)
        clear hK K
        refine norm_ (a' := ?_) ?_ ?_
        rotate_left
        ·
         show Act.put _ (some 50) _ = _
         simp only [Act.put, Zs]
         rfl
        refine pure_ (i := 10) (N := some 54) (v := ?_) (a' := ?_) #[true, true, true, true, true, true, true, true, true, true, true, false, false] rfl rfl (any_of HT_.out (by kernel_rfl)) (fun _ _ _ h => h) (Or.inl ⟨by rfl, ?_⟩) ?_ ?_
        rotate_left
        ·
         intro w'
         go_simp
         with_reducible rfl
        rotate_left
        ·
         simp only [Act.put, Zs]
         rfl
        exact norm_ Z21 (hJ6_9 (.slice Ao24 y146.length co24, .slice Ao23 y149.length co23) _ ⟨(Zr HO148), (Zr HO151), (Zk BK141), Z8⟩)
       skip
       refine box_step ?hg (N := 14) ?hd (cs := #[.int .i64 0, .int .i64 0, .slice none 0 0, .slice none 0 0, .int .i64 0, .int .i64 0, .slice none 0 0, .slice none 0 0]) (t := 30) ?hr ?_; (case hd => rfl); (case hg => rfl); (case hr => exact Z12)
       intro gb152 hg w21 hbox hb
       have n0_ := ZM (Kd.R_below (Zr HO151) hb)
       have n1_ := ZM (blk_below (g := gb141) (o := .cells #[.int .i64 0, .int .i64 0, .slice none 0 0, .slice none 0 0, .int .i64 0, .int .i64 0, .slice none 0 0, .slice none 0 0] 30 (0, 0)) (Zk BK141) hb)
       have n2_ := ZM (zzT Z8 hb)
       have n3_ := ZM (hbox)
       have n4_ := ZM ((by rw [hg]; exact (zzS Z8) : w.heap.size ≤ gb152))
       have n5_ := ZM ((by rw [hg]; exact (zzS Z8) : w.heap.size ≤ gb152))
       have n6_ := ZM ((by rw [hg]; exact Nat.ne_of_lt (blk_lt (g := gb141) (o := .cells #[.int .i64 0, .int .i64 0, .slice none 0 0, .slice none 0 0, .int .i64 0, .int .i64 0, .slice none 0 0, .slice none 0 0] 30 (0, 0)) (Zk BK141)) : gb141 ≠ gb152))
       have n7_ := ZM ((by rw [hg]; exact Nat.ne_of_gt (blk_lt (g := gb141) (o := .cells #[.int .i64 0, .int .i64 0, .slice none 0 0, .slice none 0 0, .int .i64 0, .int .i64 0, .slice none 0 0, .slice none 0 0] 30 (0, 0)) (Zk BK141)) : gb152 ≠ gb141))
       clear HO151
       clear BK141
       clear HB
       have HO151 := n0_
       have BK141 := n1_
       have HB := n2_
       have BK152 := n3_
       have GW152 := n4_
       have GE152 := n5_
       have NB141_152 := n6_
       have NB152_141 := n7_
       clear n0_ n1_ n2_ n3_ n4_ n5_ n6_ n7_
       clear hb hbox hg
       refine hK.out _ _ trivial (fun hHeld => ?_)
       clear hK K
       refine norm_ (a' := ?_) ?_ ?_
       rotate_left
       ·
        show Act.put _ (some 14) _ = _
        simp only [Act.put, Zs]
        rfl
       exact norm_ Z21 (hJ9_11 (v150, gb152) _ ⟨(Zr HO151), (Zk BK141), (Zk BK152), GW152.out, GE152.out, NB141_152.out, NB152_141.out, Z4⟩)
      skip
      rintro v147 w20 ⟨h0_, h1_, h2_⟩
      have n0_ : Aside0 (Kd.R (Kd.int .u64) 64 w20 w.heap.size (fun _ => True) v147 y146) := ⟨h0_⟩
      have n1_ : Aside0 (w20.heap[gb141]? = some (.cells #[.int .i64 0, .int .i64 0, .slice none 0 0, .slice none 0 0, .int .i64 0, .int .i64 0, .slice none 0 0, .slice none 0 0] 30 (0, 0))) := ⟨h1_⟩
      have n2_ : Aside0 (Below w.heap.size w w20) := ⟨h2_⟩
      clear BK141
      clear HB
      clear h0_ h1_ h2_
      have HO148 := n0_
      have BK141 := n1_
      have HB := n2_
      clear n0_ n1_ n2_
      have hHeld := trivial
      refine norm_ (a' := ?_) ?_ ?_
      rotate_left
      ·
       simp only [putAll, Act.put, Zt]
       rfl
      refine two_ (i := 9) (j := 11) (Ni := some 53) (Nj := some 14) #[true, true, true, true, true, true, true, true, true, true, false, false, false] #[true, true, true, true, true, true, true, true, true, false, false, true, false] rfl rfl rfl rfl (two_of HT_.out (by kernel_rfl)) (by decide) (by decide) (fun K hK => ?_) (fun K hK => ?_)
      ·
       skip
       refine Kd.R_make_step Kd.bool _ 4 (by rfl) (N := 53) rfl 22 _ _ rfl (l0.length : Int) rfl rfl Try.underlying22 (.bool false) 1 info4 rfl (by decide) (by omega) false (ok := fun _ => True) (okp := fun _ => True) rfl (fun _ hk => hk) trivial (of_decide_eq_true Z2) (Nat.le_trans (Nat.mul_le_mul_right _ (of_decide_eq_true Z2 : (l0.length : Int).toNat ≤ 281474976710656)) (by omega)) (Below.refl _ _) (Nat.le_refl _) ?_
       intro v150 w21 ho22 hb hg_ hnew_
       clear hg_ hnew_
       (first | rw [← Ny149.out] at ho22 | (simp only [Int.reduceToNat] at ho22; rw [← Ny149.out] at ho22))
       have n0_ := ZM (Kd.R_below (Zr HO148) hb)
       have n1_ := ZM (Kd.R_lower ho22 (zzS Z8))
       have n2_ := ZM (blk_below (g := gb141) (o := .cells #[.int .i64 0, .int .i64 0, .slice none 0 0, .slice none 0 0, .int .i64 0, .int .i64 0, .slice none 0 0, .slice none 0 0] 30 (0, 0)) (Zk BK141) hb)
       have n3_ := ZM (zzT Z8 hb)
       clear HO148
       clear BK141
       clear HB
       have HO148 := n0_
       have HO151 := n1_
       have BK141 := n2_
       have HB := n3_
       clear n0_ n1_ n2_ n3_
       clear hb ho22
       obtain ⟨Ao23, co23, eo23⟩ := Kd.R_slice HO151.out
       (first | subst eo23 | (injection eo23 with f1_ f2_ f3_; have f4_ := f1_.symm; have f5_ := f3_.symm; clear f1_ f2_ f3_; subst f4_; subst f5_))
       obtain ⟨Ao24, co24, eo24⟩ := Kd.R_slice HO148.out
       (first | subst eo24 | (injection eo24 with f1_ f2_ f3_; have f4_ := f1_.symm; have f5_ := f3_.symm; clear f1_ f2_ f3_; subst f4_; subst f5_))
       refine hK.out _ _ trivial (fun hHeld => ?_)
       clear hK K
       refine norm_ (a' := ?_) ?_ ?_
       rotate_left
       ·
        show Act.put _ (some 53) _ = _
        simp only [Act.put, Zs]
        rfl
       refine pure_ (i := 10) (N := some 54) (v := ?_) (a' := ?_) #[true, true, true, true, true, true, true, true, true, true, true, false, false] rfl rfl (any_of HT_.out (by kernel_rfl)) (fun _ _ _ h => h) (Or.inl ⟨by rfl, ?_⟩) ?_ ?_
       rotate_left
       ·
        intro w'
        go_simp
        with_reducible rfl
       rotate_left
       ·
        simp only [Act.put, Zs]
        rfl
       exact norm_ Z21 (hJ6_9 (.slice Ao24 y146.length co24, .slice Ao23 y149.length co23) _ ⟨(Zr HO148), (Zr HO151), (Zk BK141), Z8⟩)
      skip
      refine box_step ?hg (N := 14) ?hd (cs := #[.int .i64 0, .int .i64 0, .slice none 0 0, .slice none 0 0, .int .i64 0, .int .i64 0, .slice none 0 0, .slice none 0 0]) (t := 30) ?hr ?_; (case hd => rfl); (case hg => rfl); (case hr => exact Z12)
      intro gb152 hg w21 hbox hb
      have n0_ := ZM (Kd.R_below (Zr HO148) hb)
      have n1_ := ZM (blk_below (g := gb141) (o := .cells #[.int .i64 0, .int .i64 0, .slice none 0 0, .slice none 0 0, .int .i64 0, .int .i64 0, .slice none 0 0, .slice none 0 0] 30 (0, 0)) (Zk BK141) hb)
      have n2_ := ZM (zzT Z8 hb)
      have n3_ := ZM (hbox)
      have n4_ := ZM ((by rw [hg]; exact (zzS Z8) : w.heap.size ≤ gb152))
      have n5_ := ZM ((by rw [hg]; exact (zzS Z8) : w.heap.size ≤ gb152))
      have n6_ := ZM ((by rw [hg]; exact Nat.ne_of_lt (blk_lt (g := gb141) (o := .cells #[.int .i64 0, .int .i64 0, .slice none 0 0, .slice none 0 0, .int .i64 0, .int .i64 0, .slice none 0 0, .slice none 0 0] 30 (0, 0)) (Zk BK141)) : gb141 ≠ gb152))
      have n7_ := ZM ((by rw [hg]; exact Nat.ne_of_gt (blk_lt (g := gb141) (o := .cells #[.int .i64 0, .int .i64 0, .slice none 0 0, .slice none 0 0, .int .i64 0, .int .i64 0, .slice none 0 0, .slice none 0 0] 30 (0, 0)) (Zk BK141)) : gb152 ≠ gb141))
      clear HO148
      clear BK141
      clear HB
      have HO148 := n0_
      have BK141 := n1_
      have HB := n2_
      have BK152 := n3_
      have GW152 := n4_
      have GE152 := n5_
      have NB141_152 := n6_
      have NB152_141 := n7_
      clear n0_ n1_ n2_ n3_ n4_ n5_ n6_ n7_
      clear hb hbox hg
      refine hK.out _ _ trivial (fun hHeld => ?_)
      clear hK K
      refine norm_ (a' := ?_) ?_ ?_
      rotate_left
      ·
       show Act.put _ (some 14) _ = _
       simp only [Act.put, Zs]
       rfl
      exact norm_ Z21 (hJ6_11 (v147, gb152) _ ⟨(Zr HO148), (Zk BK141), (Zk BK152), GW152.out, GE152.out, NB141_152.out, NB152_141.out, Z4⟩)
     skip
     rintro ⟨v150, gb152⟩ w21 ⟨h0_, h1_, h2_, h3_, h4_, h5_, h6_, h7_⟩
     have n0_ : Aside0 (Kd.R Kd.bool 4 w21 w.heap.size (fun _ => True) v150 y149) := ⟨h0_⟩
     have n1_ : Aside0 (w21.heap[gb141]? = some (.cells #[.int .i64 0, .int .i64 0, .slice none 0 0, .slice none 0 0, .int .i64 0, .int .i64 0, .slice none 0 0, .slice none 0 0] 30 (0, 0))) := ⟨h1_⟩
     have n2_ : Aside0 (w21.heap[gb152]? = some (.cells #[.int .i64 0, .int .i64 0, .slice none 0 0, .slice none 0 0, .int .i64 0, .int .i64 0, .slice none 0 0, .slice none 0 0] 30 (0, 0))) := ⟨h2_⟩
     have n3_ : Aside0 (w.heap.size ≤ gb152) := ⟨h3_⟩
     have n4_ : Aside0 (w.heap.size ≤ gb152) := ⟨h4_⟩
     have n5_ : Aside0 (gb141 ≠ gb152) := ⟨h5_⟩
     have n6_ : Aside0 (gb152 ≠ gb141) := ⟨h6_⟩
     have n7_ : Aside0 (Below w.heap.size w w21) := ⟨h7_⟩
     clear BK141
     clear HB
     clear h0_ h1_ h2_ h3_ h4_ h5_ h6_ h7_
     have HO151 := n0_
     have BK141 := n1_
     have BK152 := n2_
     have GW152 := n3_
     have GE152 := n4_
     have NB141_152 := n5_
     have NB152_141 := n6_
     have HB := n7_
     clear n0_ n1_ n2_ n3_ n4_ n5_ n6_ n7_
     have hHeld := trivial
     refine norm_ (a' := ?_) ?_ ?_
     rotate_left
     ·
      simp only [putAll, Act.put, Zt]
      rfl
     refine one_ (i := 6) (N := some 50) #[true, true, true, true, true, true, true, true, true, true, false, true, false] rfl rfl (one_of HT_.out (by kernel_rfl)) (by decide) (fun K hK => ?_)
     refine Kd.R_make_step (Kd.int .u64) _ 64 (by rfl) (N := 50) rfl 28 _ _ rfl (l0.length : Int) rfl rfl Try.underlying28 (.int .u64 0) 8 info64 rfl (by decide) (by omega) 0 (ok := fun _ => True) (okp := fun _ => True) rfl (fun _ hk => hk) trivial (of_decide_eq_true Z2) (Nat.le_trans (Nat.mul_le_mul_right _ (of_decide_eq_true Z2 : (l0.length : Int).toNat ≤ 35184372088832)) (by omega)) (Below.refl _ _) (Nat.le_refl _) ?_
     intro v147 w22 ho23 hb hg_ hnew_
     clear hg_ hnew_
     (first | rw [← Ny146.out] at ho23 | (simp only [Int.reduceToNat] at ho23; rw [← Ny146.out] at ho23))
     have n0_ := ZM (Kd.R_below (Zr HO151) hb)
     have n1_ := ZM (Kd.R_lower ho23 (zzS Z4))
     have n2_ := ZM (blk_below (g := gb141) (o := .cells #[.int .i64 0, .int .i64 0, .slice none 0 0, .slice none 0 0, .int .i64 0, .int .i64 0, .slice none 0 0, .slice none 0 0] 30 (0, 0)) (Zk BK141) hb)
     have n3_ := ZM (blk_below (g := gb152) (o := .cells #[.int .i64 0, .int .i64 0, .slice none 0 0, .slice none 0 0, .int .i64 0, .int .i64 0, .slice none 0 0, .slice none 0 0] 30 (0, 0)) (Zk BK152) hb)
     have n4_ := ZM (zzT Z4 hb)
     clear HO151
     clear BK141
     clear BK152
     clear HB
     have HO151 := n0_
     have HO148 := n1_
     have BK141 := n2_
     have BK152 := n3_
     have HB := n4_
     clear n0_ n1_ n2_ n3_ n4_
     clear hb ho23
     obtain ⟨Ao24, co24, eo24⟩ := Kd.R_slice HO151.out
     (first | subst eo24 | (injection eo24 with f1_ f2_ f3_; have f4_ := f1_.symm; have f5_ := f3_.symm; clear f1_ f2_ f3_; subst f4_; subst f5_))
     obtain ⟨Ao25, co25, eo25⟩ := Kd.R_slice HO148.out
     (first | subst eo25 | (injection eo25 with f1_ f2_ f3_; have f4_ := f1_.symm; have f5_ := f3_.symm; clear f1_ f2_ f3_; subst f4_; subst f5_))
     refine hK.out _ _ trivial (fun hHeld => ?_)
     clear hK K
     refine norm_ (a' := ?_) ?_ ?_
     rotate_left
     ·
      show Act.put _ (some 50) _ = _
      simp only [Act.put, Zs]
      rfl
     refine pure_ (i := 10) (N := some 54) (v := ?_) (a' := ?_) #[true, true, true, true, true, true, true, true, true, true, true, true, false] rfl rfl (any_of HT_.out (by kernel_rfl)) (fun _ _ _ h => h) (Or.inl ⟨by rfl, ?_⟩) ?_ ?_
     rotate_left
     ·
      intro w'
      go_simp
      with_reducible rfl
     rotate_left
     ·
      simp only [Act.put, Zs]
      rfl
     exact norm_ Z21 (hJ6_9_11 (.slice Ao25 y146.length co25, .slice Ao24 y149.length co24, gb152) _ ⟨(Zr HO148), (Zr HO151), (Zk BK141), (Zk BK152), GW152.out, GE152.out, NB141_152.out, NB152_141.out, Z4⟩)
    skip
    rintro ⟨v147, gb152⟩ w21 ⟨h0_, h1_, h2_, h3_, h4_, h5_, h6_, h7_⟩
    have n0_ : Aside0 (Kd.R (Kd.int .u64) 64 w21 w.heap.size (fun _ => True) v147 y146) := ⟨h0_⟩
    have n1_ : Aside0 (w21.heap[gb141]? = some (.cells #[.int .i64 0, .int .i64 0, .slice none 0 0, .slice none 0 0, .int .i64 0, .int .i64 0, .slice none 0 0, .slice none 0 0] 30 (0, 0))) := ⟨h1_⟩
    have n2_ : Aside0 (w21.heap[gb152]? = some (.cells #[.int .i64 0, .int .i64 0, .slice none 0 0, .slice none 0 0, .int .i64 0, .int .i64 0, .slice none 0 0, .slice none 0 0] 30 (0, 0))) := ⟨h2_⟩
    have n3_ : Aside0 (w.heap.size ≤ gb152) := ⟨h3_⟩
    have n4_ : Aside0 (w.heap.size ≤ gb152) := ⟨h4_⟩
    have n5_ : Aside0 (gb141 ≠ gb152) := ⟨h5_⟩
    have n6_ : Aside0 (gb152 ≠ gb141) := ⟨h6_⟩
    have n7_ : Aside0 (Below w.heap.size w w21) := ⟨h7_⟩
    clear BK141
    clear HB
    clear h0_ h1_ h2_ h3_ h4_ h5_ h6_ h7_
    have HO148 := n0_
    have BK141 := n1_
    have BK152 := n2_
    have GW152 := n3_
    have GE152 := n4_
    have NB141_152 := n5_
    have NB152_141 := n6_
    have HB := n7_
    clear n0_ n1_ n2_ n3_ n4_ n5_ n6_ n7_
    have hHeld := trivial
    refine norm_ (a' := ?_) ?_ ?_
    rotate_left
    ·
     simp only [putAll, Act.put, Zt]
     rfl
    refine one_ (i := 9) (N := some 53) #[true, true, true, true, true, true, true, true, true, true, false, true, false] rfl rfl (one_of HT_.out (by kernel_rfl)) (by decide) (fun K hK => ?_)
    refine Kd.R_make_step Kd.bool _ 4 (by rfl) (N := 53) rfl 22 _ _ rfl (l0.length : Int) rfl rfl Try.underlying22 (.bool false) 1 info4 rfl (by decide) (by omega) false (ok := fun _ => True) (okp := fun _ => True) rfl (fun _ hk => hk) trivial (of_decide_eq_true Z2) (Nat.le_trans (Nat.mul_le_mul_right _ (of_decide_eq_true Z2 : (l0.length : Int).toNat ≤ 281474976710656)) (by omega)) (Below.refl _ _) (Nat.le_refl _) ?_
    intro v150 w22 ho23 hb hg_ hnew_
    clear hg_ hnew_
    (first | rw [← Ny149.out] at ho23 | (simp only [Int.reduceToNat] at ho23; rw [← Ny149.out] at ho23))
    have n0_ := ZM (Kd.R_below (Zr HO148) hb)
    have n1_ := ZM (Kd.R_lower ho23 (zzS Z4))
    have n2_ := ZM (blk_below (g := gb141) (o := .cells #[.int .i64 0, .int .i64 0, .slice none 0 0, .slice none 0 0, .int .i64 0, .int .i64 0, .slice none 0 0, .slice none 0 0] 30 (0, 0)) (Zk BK141) hb)
    have n3_ := ZM (blk_below (g := gb152) (o := .cells #[.int .i64 0, .int .i64 0, .slice none 0 0, .slice none 0 0, .int .i64 0, .int .i64 0, .slice none 0 0, .slice none 0 0] 30 (0, 0)) (Zk BK152) hb)
    have n4_ := ZM (zzT Z4 hb)
    clear HO148
    clear BK141
    clear BK152
    clear HB
    have HO148 := n0_
    have HO151 := n1_
    have BK141 := n2_
    have BK152 := n3_
    have HB := n4_
    clear n0_ n1_ n2_ n3_ n4_
    clear hb ho23
    obtain ⟨Ao24, co24, eo24⟩ := Kd.R_slice HO151.out
    (first | subst eo24 | (injection eo24 with f1_ f2_ f3_; have f4_ := f1_.symm; have f5_ := f3_.symm; clear f1_ f2_ f3_; subst f4_; subst f5_))
    obtain ⟨Ao25, co25, eo25⟩ := Kd.R_slice HO148.out
    (first | subst eo25 | (injection eo25 with f1_ f2_ f3_; have f4_ := f1_.symm; have f5_ := f3_.symm; clear f1_ f2_ f3_; subst f4_; subst f5_))
    refine hK.out _ _ trivial (fun hHeld => ?_)
    clear hK K
    refine norm_ (a' := ?_) ?_ ?_
    rotate_left
    ·
     show Act.put _ (some 53) _ = _
     simp only [Act.put, Zs]
     rfl
    refine pure_ (i := 10) (N := some 54) (v := ?_) (a' := ?_) #[true, true, true, true, true, true, true, true, true, true, true, true, false] rfl rfl (any_of HT_.out (by kernel_rfl)) (fun _ _ _ h => h) (Or.inl ⟨by rfl, ?_⟩) ?_ ?_
    rotate_left
    ·
     intro w'
     go_simp
     with_reducible rfl
    rotate_left
    ·
     simp only [Act.put, Zs]
     rfl
    exact norm_ Z21 (hJ6_9_11 (.slice Ao25 y146.length co25, .slice Ao24 y149.length co24, gb152) _ ⟨(Zr HO148), (Zr HO151), (Zk BK141), (Zk BK152), GW152.out, GE152.out, NB141_152.out, NB152_141.out, Z4⟩)
   skip
   rintro ⟨v147, v150⟩ w24 ⟨h0_, h1_, h2_, h3_⟩
   have n0_ : Aside0 (Kd.R (Kd.int .u64) 64 w24 w.heap.size (fun _ => True) v147 y146) := ⟨h0_⟩
   have n1_ : Aside0 (Kd.R Kd.bool 4 w24 w.heap.size (fun _ => True) v150 y149) := ⟨h1_⟩
   have n2_ : Aside0 (w24.heap[gb141]? = some (.cells #[.int .i64 0, .int .i64 0, .slice none 0 0, .slice none 0 0, .int .i64 0, .int .i64 0, .slice none 0 0, .slice none 0 0] 30 (0, 0))) := ⟨h2_⟩
   have n3_ : Aside0 (Below w.heap.size w w24) := ⟨h3_⟩
   clear BK141
   clear HB
   clear h0_ h1_ h2_ h3_
   have HO148 := n0_
   have HO151 := n1_
   have BK141 := n2_
   have HB := n3_
   clear n0_ n1_ n2_ n3_
   have hHeld := trivial
   obtain ⟨Ao25, co25, eo25⟩ := Kd.R_slice HO151.out
   (first | subst eo25 | (injection eo25 with f1_ f2_ f3_; have f4_ := f1_.symm; have f5_ := f3_.symm; clear f1_ f2_ f3_; subst f4_; subst f5_))
   obtain ⟨Ao26, co26, eo26⟩ := Kd.R_slice HO148.out
   (first | subst eo26 | (injection eo26 with f1_ f2_ f3_; have f4_ := f1_.symm; have f5_ := f3_.symm; clear f1_ f2_ f3_; subst f4_; subst f5_))
   refine norm_ (a' := ?_) ?_ ?_
   rotate_left
   ·
    simp only [putAll, Act.put, Zt]
    rfl
   refine one_ (i := 11) (N := some 14) #[true, true, true, true, true, true, true, true, true, true, true, true, false] rfl rfl (one_of HT_.out (by kernel_rfl)) (by decide) (fun K hK => ?_)
   refine box_step ?hg (N := 14) ?hd (cs := #[.int .i64 0, .int .i64 0, .slice none 0 0, .slice none 0 0, .int .i64 0, .int .i64 0, .slice none 0 0, .slice none 0 0]) (t := 30) ?hr ?_; (case hd => rfl); (case hg => rfl); (case hr => exact Z12)
   intro gb152 hg w27 hbox hb
   have n0_ := ZM (Kd.R_below (Zr HO148) hb)
   have n1_ := ZM (Kd.R_below (Zr HO151) hb)
   have n2_ := ZM (blk_below (g := gb141) (o := .cells #[.int .i64 0, .int .i64 0, .slice none 0 0, .slice none 0 0, .int .i64 0, .int .i64 0, .slice none 0 0, .slice none 0 0] 30 (0, 0)) (Zk BK141) hb)
   have n3_ := ZM (zzT Z8 hb)
   have n4_ := ZM (hbox)
   have n5_ := ZM ((by rw [hg]; exact (zzS Z8) : w.heap.size ≤ gb152))
   have n6_ := ZM ((by rw [hg]; exact (zzS Z8) : w.heap.size ≤ gb152))
   have n7_ := ZM ((by rw [hg]; exact Nat.ne_of_lt (blk_lt (g := gb141) (o := .cells #[.int .i64 0, .int .i64 0, .slice none 0 0, .slice none 0 0, .int .i64 0, .int .i64 0, .slice none 0 0, .slice none 0 0] 30 (0, 0)) (Zk BK141)) : gb141 ≠ gb152))
   have n8_ := ZM ((by rw [hg]; exact Nat.ne_of_gt (blk_lt (g := gb141) (o := .cells #[.int .i64 0, .int .i64 0, .slice none 0 0, .slice none 0 0, .int .i64 0, .int .i64 0, .slice none 0 0, .slice none 0 0] 30 (0, 0)) (Zk BK141)) : gb152 ≠ gb141))
   clear HO148
   clear HO151
   clear BK141
   clear HB
   have HO148 := n0_
   have HO151 := n1_
   have BK141 := n2_
   have HB := n3_
   have BK152 := n4_
   have GW152 := n5_
   have GE152 := n6_
   have NB141_152 := n7_
   have NB152_141 := n8_
   clear n0_ n1_ n2_ n3_ n4_ n5_ n6_ n7_ n8_
   clear hb hbox hg
   refine hK.out _ _ trivial (fun hHeld => ?_)
   clear hK K
   refine norm_ (a' := ?_) ?_ ?_
   rotate_left
   ·
    show Act.put _ (some 14) _ = _
    simp only [Act.put, Zs]
    rfl
   exact norm_ Z21 (hJ6_9_11 (.slice Ao26 y146.length co26, .slice Ao25 y149.length co25, gb152) _ ⟨(Zr HO148), (Zr HO151), (Zk BK141), (Zk BK152), GW152.out, GE152.out, NB141_152.out, NB152_141.out, Z4⟩)
  rintro ⟨v147, v150, gb152⟩ w25 ⟨h0_, h1_, h2_, h3_, h4_, h5_, h6_, h7_, h8_⟩
  have n0_ : Aside0 (Kd.R (Kd.int .u64) 64 w25 w.heap.size (fun _ => True) v147 y146) := ⟨h0_⟩
  have n1_ : Aside0 (Kd.R Kd.bool 4 w25 w.heap.size (fun _ => True) v150 y149) := ⟨h1_⟩
  have n2_ : Aside0 (w25.heap[gb141]? = some (.cells #[.int .i64 0, .int .i64 0, .slice none 0 0, .slice none 0 0, .int .i64 0, .int .i64 0, .slice none 0 0, .slice none 0 0] 30 (0, 0))) := ⟨h2_⟩
  have n3_ : Aside0 (w25.heap[gb152]? = some (.cells #[.int .i64 0, .int .i64 0, .slice none 0 0, .slice none 0 0, .int .i64 0, .int .i64 0, .slice none 0 0, .slice none 0 0] 30 (0, 0))) := ⟨h3_⟩
  have n4_ : Aside0 (w.heap.size ≤ gb152) := ⟨h4_⟩
  have n5_ : Aside0 (w.heap.size ≤ gb152) := ⟨h5_⟩
  have n6_ : Aside0 (gb141 ≠ gb152) := ⟨h6_⟩
  have n7_ : Aside0 (gb152 ≠ gb141) := ⟨h7_⟩
  have n8_ : Aside0 (Below w.heap.size w w25) := ⟨h8_⟩
  clear BK141
  clear HB
  clear h0_ h1_ h2_ h3_ h4_ h5_ h6_ h7_ h8_
  have HO148 := n0_
  have HO151 := n1_
  have BK141 := n2_
  have BK152 := n3_
  have GW152 := n4_
  have GE152 := n5_
  have NB141_152 := n6_
  have NB152_141 := n7_
  have HB := n8_
  clear n0_ n1_ n2_ n3_ n4_ n5_ n6_ n7_ n8_
  have hHeld := trivial
  obtain ⟨Ao26, co26, eo26⟩ := Kd.R_slice HO151.out
  (first | subst eo26 | (injection eo26 with f1_ f2_ f3_; have f4_ := f1_.symm; have f5_ := f3_.symm; clear f1_ f2_ f3_; subst f4_; subst f5_))
  obtain ⟨Ao27, co27, eo27⟩ := Kd.R_slice HO148.out
  (first | subst eo27 | (injection eo27 with f1_ f2_ f3_; have f4_ := f1_.symm; have f5_ := f3_.symm; clear f1_ f2_ f3_; subst f4_; subst f5_))
  refine norm_ (a' := ?_) ?_ ?_
  rotate_left
  ·
   simp only [putAll, Act.put, Zt]
   rfl
  refine one_ (i := 12) (N := none) #[true, true, true, true, true, true, true, true, true, true, true, true, true] rfl rfl (one_of HT_.out (by kernel_rfl)) (by decide) (fun K hK => ?_)
  have hs28 : w25.cell? ⟨gb152, 0, none⟩ = some (.int .i64 0) := (blk_cell BK152.out 0).trans rfl
  have hfs28 := blk_frozen BK152.out 0
  have hns28_0 := NB141_152.out
  have hms28_0 := NB152_141.out
  have hs29 : w25.cell? ⟨gb152, 1, none⟩ = some (.int .i64 0) := (blk_cell BK152.out 1).trans rfl
  have hfs29 := blk_frozen BK152.out 1
  have hns29_0 := NB141_152.out
  have hms29_0 := NB152_141.out
  have hs30 : w25.cell? ⟨gb152, 2, none⟩ = some (.slice none 0 0) := (blk_cell BK152.out 2).trans rfl
  have hfs30 := blk_frozen BK152.out 2
  have hns30_0 := NB141_152.out
  have hms30_0 := NB152_141.out
  have hs31 : w25.cell? ⟨gb152, 3, none⟩ = some (.slice none 0 0) := (blk_cell BK152.out 3).trans rfl
  have hfs31 := blk_frozen BK152.out 3
  have hns31_0 := NB141_152.out
  have hms31_0 := NB152_141.out
  have hs32 : w25.cell? ⟨gb152, 4, none⟩ = some (.int .i64 0) := (blk_cell BK152.out 4).trans rfl
  have hfs32 := blk_frozen BK152.out 4
  have hns32_0 := NB141_152.out
  have hms32_0 := NB152_141.out
  have hs33 : w25.cell? ⟨gb152, 5, none⟩ = some (.int .i64 0) := (blk_cell BK152.out 5).trans rfl
  have hfs33 := blk_frozen BK152.out 5
  have hns33_0 := NB141_152.out
  have hms33_0 := NB152_141.out
  have hs34 : w25.cell? ⟨gb152, 6, none⟩ = some (.slice none 0 0) := (blk_cell BK152.out 6).trans rfl
  have hfs34 := blk_frozen BK152.out 6
  have hns34_0 := NB141_152.out
  have hms34_0 := NB152_141.out
  have hs35 : w25.cell? ⟨gb152, 7, none⟩ = some (.slice none 0 0) := (blk_cell BK152.out 7).trans rfl
  have hfs35 := blk_frozen BK152.out 7
  have hns35_0 := NB141_152.out
  have hms35_0 := NB152_141.out
  refine skip_ (w1 := ?_) (by rfl) rfl ?_ ?_
  rotate_left
  ·
   go_simp
   rfl
  refine hK.out _ _ trivial (fun hHeld => ?_)
  clear hK K
  refine done_ (done_of HT_.out (by kernel_rfl)) ?_
  try go_wp2
  go_loopg [57] kj5 (fun kq v57 w' => ∃ (x57_2 : Int) (x142000_2 : Int) (x142001_2 : Int) (x142004_2 : Int) (x142005_2 : Int) (x153006_2 : List Int) (x153007_2 : List Bool) (u153006 : Value) (u153007 : Value), v57 = .int .i64 x57_2 ∧ Aside0 (quant_Press.l0 kq a1 a2 l3 t144 l0 (l0.length : Int) x57_2 2 (l0.length : Int) t144 a1 x153006_2 x153007_2 = some (r1, r2, r3, r4, r5, r6, r7, r8, r9)) ∧ Aside0 (kq ≤ kj5) ∧ Aside0 (Kd.R (Kd.int .u64) 64 w' w.heap.size (fun _ => True) u153006 x153006_2) ∧ Aside0 (Kd.R Kd.bool 4 w' w.heap.size (fun _ => True) u153007 x153007_2) ∧ Aside0 (w'.heap[gb141]? = some (.cells #[.int .i64 x142000_2, .int .i64 x142001_2, (.slice none 0 0), (.slice none 0 0), .int .i64 x142004_2, .int .i64 x142005_2, (.slice none 0 0), (.slice none 0 0)] 30 (0, 0))) ∧ Aside0 (w'.heap[gb152]? = some (.cells #[.int .i64 2, .int .i64 (l0.length : Int), (.slice none 0 0), (.slice none 0 0), .int .i64 t144, .int .i64 a1, u153006, u153007] 30 (0, 0))) ∧ Aside0 (Below w.heap.size w w'))
  case atStart => exact ⟨(0), (0), (0), (0), (0), (y146), (y149), (.slice Ao27 y146.length co27), (.slice Ao26 y149.length co26), Z5, H', ⟨Nat.le_refl _⟩, ⟨by (with_reducible repeat (first | apply rrA | apply rrN | apply rrD)); exact Kd.R_mono (Kd.R_far (p := ⟨gb152, 7, none⟩) (Kd.R_far (p := ⟨gb152, 6, none⟩) (Kd.R_far (p := ⟨gb152, 5, none⟩) (Kd.R_far (p := ⟨gb152, 4, none⟩) (Kd.R_far (p := ⟨gb152, 3, none⟩) (Kd.R_far (p := ⟨gb152, 2, none⟩) (Kd.R_far (p := ⟨gb152, 1, none⟩) (Kd.R_far (p := ⟨gb152, 0, none⟩) (Kd.R_types HO148.out BK152.out (by decide)) (fun _ hk => hk.2) (.int .i64 2)) (fun _ hk => hk.2) (.int .i64 (l0.length : Int))) (fun _ hk => hk.2) (.slice none 0 0)) (fun _ hk => hk.2) (.slice none 0 0)) (fun _ hk => hk.2) (.int .i64 t144)) (fun _ hk => hk.2) (.int .i64 a1)) (fun _ hk => hk.2) (.slice Ao27 y146.length co27)) (fun _ hk => hk.2) (.slice Ao26 y149.length co26)) (fun _ hk => trivial)⟩, ⟨by (with_reducible repeat (first | apply rrA | apply rrN | apply rrD)); exact Kd.R_mono (Kd.R_far (p := ⟨gb152, 7, none⟩) (Kd.R_far (p := ⟨gb152, 6, none⟩) (Kd.R_far (p := ⟨gb152, 5, none⟩) (Kd.R_far (p := ⟨gb152, 4, none⟩) (Kd.R_far (p := ⟨gb152, 3, none⟩) (Kd.R_far (p := ⟨gb152, 2, none⟩) (Kd.R_far (p := ⟨gb152, 1, none⟩) (Kd.R_far (p := ⟨gb152, 0, none⟩) (Kd.R_types HO151.out BK152.out (by decide)) (fun _ hk => hk.2) (.int .i64 2)) (fun _ hk => hk.2) (.int .i64 (l0.length : Int))) (fun _ hk => hk.2) (.slice none 0 0)) (fun _ hk => hk.2) (.slice none 0 0)) (fun _ hk => hk.2) (.int .i64 t144)) (fun _ hk => hk.2) (.int .i64 a1)) (fun _ hk => hk.2) (.slice Ao27 y146.length co27)) (fun _ hk => hk.2) (.slice Ao26 y149.length co26)) (fun _ hk => trivial)⟩, ⟨by (with_reducible repeat (first | refine kkN ?_ _ | refine kkD ?_ | refine kkA ?_ _)); refine blk_far ?_ NB141_152.out _; (with_reducible repeat (first | refine kkN ?_ _ | refine kkD ?_ | refine kkA ?_ _)); refine blk_far ?_ NB141_152.out _; (with_reducible repeat (first | refine kkN ?_ _ | refine kkD ?_ | refine kkA ?_ _)); refine blk_far ?_ NB141_152.out _; (with_reducible repeat (first | refine kkN ?_ _ | refine kkD ?_ | refine kkA ?_ _)); refine blk_far ?_ NB141_152.out _; (with_reducible repeat (first | refine kkN ?_ _ | refine kkD ?_ | refine kkA ?_ _)); refine blk_far ?_ NB141_152.out _; (with_reducible repeat (first | refine kkN ?_ _ | refine kkD ?_ | refine kkA ?_ _)); refine blk_far ?_ NB141_152.out _; (with_reducible repeat (first | refine kkN ?_ _ | refine kkD ?_ | refine kkA ?_ _)); refine blk_far ?_ NB141_152.out _; (with_reducible repeat (first | refine kkN ?_ _ | refine kkD ?_ | refine kkA ?_ _)); refine blk_far ?_ NB141_152.out _; (with_reducible repeat (first | refine kkN ?_ _ | refine kkD ?_ | refine kkA ?_ _)); exact BK141.out⟩, ⟨by (with_reducible repeat (first | refine kkN ?_ _ | refine kkD ?_ | refine kkA ?_ _)); refine blk_put (cs := #[.int .i64 2, .int .i64 (l0.length : Int), .slice none 0 0, .slice none 0 0, .int .i64 t144, .int .i64 a1, .slice Ao27 y146.length co27, .slice none 0 0]) ?_ 7 _ rfl; (with_reducible repeat (first | refine kkN ?_ _ | refine kkD ?_ | refine kkA ?_ _)); refine blk_put (cs := #[.int .i64 2, .int .i64 (l0.length : Int), .slice none 0 0, .slice none 0 0, .int .i64 t144, .int .i64 a1, .slice none 0 0, .slice none 0 0]) ?_ 6 _ rfl; (with_reducible repeat (first | refine kkN ?_ _ | refine kkD ?_ | refine kkA ?_ _)); refine blk_put (cs := #[.int .i64 2, .int .i64 (l0.length : Int), .slice none 0 0, .slice none 0 0, .int .i64 t144, .int .i64 0, .slice none 0 0, .slice none 0 0]) ?_ 5 _ rfl; (with_reducible repeat (first | refine kkN ?_ _ | refine kkD ?_ | refine kkA ?_ _)); refine blk_put (cs := #[.int .i64 2, .int .i64 (l0.length : Int), .slice none 0 0, .slice none 0 0, .int .i64 0, .int .i64 0, .slice none 0 0, .slice none 0 0]) ?_ 4 _ rfl; (with_reducible repeat (first | refine kkN ?_ _ | refine kkD ?_ | refine kkA ?_ _)); refine blk_put (cs := #[.int .i64 2, .int .i64 (l0.length : Int), .slice none 0 0, .slice none 0 0, .int .i64 0, .int .i64 0, .slice none 0 0, .slice none 0 0]) ?_ 3 _ rfl; (with_reducible repeat (first | refine kkN ?_ _ | refine kkD ?_ | refine kkA ?_ _)); refine blk_put (cs := #[.int .i64 2, .int .i64 (l0.length : Int), .slice none 0 0, .slice none 0 0, .int .i64 0, .int .i64 0, .slice none 0 0, .slice none 0 0]) ?_ 2 _ rfl; (with_reducible repeat (first | refine kkN ?_ _ | refine kkD ?_ | refine kkA ?_ _)); refine blk_put (cs := #[.int .i64 2, .int .i64 0, .slice none 0 0, .slice none 0 0, .int .i64 0, .int .i64 0, .slice none 0 0, .slice none 0 0]) ?_ 1 _ rfl; (with_reducible repeat (first | refine kkN ?_ _ | refine kkD ?_ | refine kkA ?_ _)); refine blk_put (cs := #[.int .i64 0, .int .i64 0, .slice none 0 0, .slice none 0 0, .int .i64 0, .int .i64 0, .slice none 0 0, .slice none 0 0]) ?_ 0 _ rfl; (with_reducible repeat (first | refine kkN ?_ _ | refine kkD ?_ | refine kkA ?_ _)); exact BK152.out⟩, ⟨by repeat (first | (with_reducible first | exact HB.out | apply zzA | apply zzN | apply zzD | refine below_set ?_ GE141.out | refine below_set ?_ GE152.out) | exact HB.out)⟩⟩
  case round =>
   clear H'
   obtain ⟨x57_2, x142000_2, x142001_2, x142004_2, x142005_2, x153006_2, x153007_2, u153006, u153007, rfl, HA, HK2, HO_153006, HO_153007, BK141, BK152, HB⟩ := hrel
   cases gk with
   | zero => exact absurd HA.out (by simp [quant_Press.l0])
   | succ k2 =>
    have H := HA.out
    clear HA
    simp only [quant_Press.l0] at H
    by_cases c36 : x57_2 < (l0.length : Int)
    case neg =>
     rw [if_neg c36] at H
     have c36b0 : decide (x57_2 < (l0.length : Int)) = false := decide_eq_false c36
     clear c36
     simp only [Option.some.injEq, Prod.mk.injEq] at H
     obtain ⟨rfl, rfl, rfl, rfl, rfl, rfl, rfl, rfl, rfl⟩ := H
     have hnb93 := NB152_141.out
     have hnc93 := NB141_152.out
     obtain ⟨hcz94_0, hcz94_1, hcz94_2, hcz94_3, hcz94_4, hcz94_5, hcz94_6, hcz94_7, hfz94_0, hfz94_1, hfz94_2, hfz94_3, hfz94_4, hfz94_5, hfz94_6, hfz94_7⟩ := Y8f BK152
     obtain ⟨hcz95_0, hcz95_1, hcz95_2, hcz95_3, hcz95_4, hcz95_5, hcz95_6, hcz95_7, hfz95_0, hfz95_1, hfz95_2, hfz95_3, hfz95_4, hfz95_5, hfz95_6, hfz95_7⟩ := Y8f BK141
     obtain ⟨Ao96, co96, eo96⟩ := Kd.R_slice HO_153006.out
     subst eo96
     obtain ⟨Ao97, co97, eo97⟩ := Kd.R_slice HO_153007.out
     subst eo97
     go_wp2
     refine bodyPost_ret (results_ct rfl _ _ gb141 30 #[.int .i64 2, .int .i64 (l0.length : Int), .slice none 0 0, .slice none 0 0, .int .i64 t144, .int .i64 a1, .slice Ao96 x153006_2.length co96, .slice Ao97 x153007_2.length co97] (0, 0) _ rfl (by (with_reducible repeat (first | refine kkN ?_ _ | refine kkD ?_ | refine kkA ?_ _)); refine blk_put (cs := #[.int .i64 2, .int .i64 (l0.length : Int), .slice none 0 0, .slice none 0 0, .int .i64 t144, .int .i64 a1, .slice Ao96 x153006_2.length co96, .slice none 0 0]) ?_ 7 _ rfl; (with_reducible repeat (first | refine kkN ?_ _ | refine kkD ?_ | refine kkA ?_ _)); refine blk_put (cs := #[.int .i64 2, .int .i64 (l0.length : Int), .slice none 0 0, .slice none 0 0, .int .i64 t144, .int .i64 a1, .slice none 0 0, .slice none 0 0]) ?_ 6 _ rfl; (with_reducible repeat (first | refine kkN ?_ _ | refine kkD ?_ | refine kkA ?_ _)); refine blk_put (cs := #[.int .i64 2, .int .i64 (l0.length : Int), .slice none 0 0, .slice none 0 0, .int .i64 t144, .int .i64 x142005_2, .slice none 0 0, .slice none 0 0]) ?_ 5 _ rfl; (with_reducible repeat (first | refine kkN ?_ _ | refine kkD ?_ | refine kkA ?_ _)); refine blk_put (cs := #[.int .i64 2, .int .i64 (l0.length : Int), .slice none 0 0, .slice none 0 0, .int .i64 x142004_2, .int .i64 x142005_2, .slice none 0 0, .slice none 0 0]) ?_ 4 _ rfl; (with_reducible repeat (first | refine kkN ?_ _ | refine kkD ?_ | refine kkA ?_ _)); refine blk_put (cs := #[.int .i64 2, .int .i64 (l0.length : Int), .slice none 0 0, .slice none 0 0, .int .i64 x142004_2, .int .i64 x142005_2, .slice none 0 0, .slice none 0 0]) ?_ 3 _ rfl; (with_reducible repeat (first | refine kkN ?_ _ | refine kkD ?_ | refine kkA ?_ _)); refine blk_put (cs := #[.int .i64 2, .int .i64 (l0.length : Int), .slice none 0 0, .slice none 0 0, .int .i64 x142004_2, .int .i64 x142005_2, .slice none 0 0, .slice none 0 0]) ?_ 2 _ rfl; (with_reducible repeat (first | refine kkN ?_ _ | refine kkD ?_ | refine kkA ?_ _)); refine blk_put (cs := #[.int .i64 2, .int .i64 x142001_2, .slice none 0 0, .slice none 0 0, .int .i64 x142004_2, .int .i64 x142005_2, .slice none 0 0, .slice none 0 0]) ?_ 1 _ rfl; (with_reducible repeat (first | refine kkN ?_ _ | refine kkD ?_ | refine kkA ?_ _)); refine blk_put (cs := #[.int .i64 x142000_2, .int .i64 x142001_2, .slice none 0 0, .slice none 0 0, .int .i64 x142004_2, .int .i64 x142005_2, .slice none 0 0, .slice none 0 0]) ?_ 0 _ rfl; (with_reducible repeat (first | refine kkN ?_ _ | refine kkD ?_ | refine kkA ?_ _)); exact BK141.out) Try.underlying30 rfl (by kernel_rfl)) rfl ?_
     exact ⟨_, _, _, _, by first | rfl | (simp [errW_none, errW_some] <;> rfl) | (simp [*, errW_none, errW_some] <;> rfl), by first | exact Kd.R_nil _ _ _ _ _ | exact Kd.N_nil _ _ _ _ _ | exact Kd.V_nil _ _ _ _ _ | exact Kd.Q_nil _ _ _ _ _ | exact Kd.S_nil _ _ _ _ _, by first | exact Kd.R_nil _ _ _ _ _ | exact Kd.N_nil _ _ _ _ _ | exact Kd.V_nil _ _ _ _ _ | exact Kd.Q_nil _ _ _ _ _ | exact Kd.S_nil _ _ _ _ _, by (with_reducible repeat (first | apply rrA | apply rrN | apply rrD)); exact Kd.R_mono (Kd.R_far (p := ⟨gb141, 7, none⟩) (Kd.R_far (p := ⟨gb141, 6, none⟩) (Kd.R_far (p := ⟨gb141, 5, none⟩) (Kd.R_far (p := ⟨gb141, 4, none⟩) (Kd.R_far (p := ⟨gb141, 3, none⟩) (Kd.R_far (p := ⟨gb141, 2, none⟩) (Kd.R_far (p := ⟨gb141, 1, none⟩) (Kd.R_far (p := ⟨gb141, 0, none⟩) (Kd.R_types HO_153006.out BK141.out (by decide)) (fun _ hk => hk.2) (.int .i64 2)) (fun _ hk => hk.2) (.int .i64 (l0.length : Int))) (fun _ hk => hk.2) (.slice none 0 0)) (fun _ hk => hk.2) (.slice none 0 0)) (fun _ hk => hk.2) (.int .i64 t144)) (fun _ hk => hk.2) (.int .i64 a1)) (fun _ hk => hk.2) (.slice Ao96 x153006_2.length co96)) (fun _ hk => hk.2) (.slice Ao97 x153007_2.length co97)) (fun _ hk => trivial), by (with_reducible repeat (first | apply rrA | apply rrN | apply rrD)); exact Kd.R_mono (Kd.R_far (p := ⟨gb141, 7, none⟩) (Kd.R_far (p := ⟨gb141, 6, none⟩) (Kd.R_far (p := ⟨gb141, 5, none⟩) (Kd.R_far (p := ⟨gb141, 4, none⟩) (Kd.R_far (p := ⟨gb141, 3, none⟩) (Kd.R_far (p := ⟨gb141, 2, none⟩) (Kd.R_far (p := ⟨gb141, 1, none⟩) (Kd.R_far (p := ⟨gb141, 0, none⟩) (Kd.R_types HO_153007.out BK141.out (by decide)) (fun _ hk => hk.2) (.int .i64 2)) (fun _ hk => hk.2) (.int .i64 (l0.length : Int))) (fun _ hk => hk.2) (.slice none 0 0)) (fun _ hk => hk.2) (.slice none 0 0)) (fun _ hk => hk.2) (.int .i64 t144)) (fun _ hk => hk.2) (.int .i64 a1)) (fun _ hk => hk.2) (.slice Ao96 x153006_2.length co96)) (fun _ hk => hk.2) (.slice Ao97 x153007_2.length co97)) (fun _ hk => trivial), by repeat (first | (with_reducible first | exact HB.out | apply zzA | apply zzN | apply zzD | refine below_set ?_ GE141.out | refine below_set ?_ GE152.out) | exact HB.out)⟩
    rw [if_pos c36] at H
    have c36b0 : decide (x57_2 < (l0.length : Int)) = true := decide_eq_true c36
    clear c36
    by_cases c37 : 0 ≤ x57_2
    case neg =>
     rw [if_neg c37] at H
     exact absurd H (by simp)
    rw [if_pos c37] at H
    have c37b0 : decide (0 ≤ x57_2) = true := decide_eq_true c37
    clear c37
    by_cases c38 : x57_2 < (l0.length : Int)
    case neg =>
     rw [if_neg c38] at H
     exact absurd H (by simp)
    rw [if_pos c38] at H
    have c38b0 : decide (x57_2 < (l0.length : Int)) = true := decide_eq_true c38
    clear c38
    replace H := Option.bind_eq_some_iff.mp H
    obtain ⟨⟨t154, t155, t156⟩, A390, H⟩ := H
    replace H : (if t156 = 0 then (if t155 > 0 then ((slices_Clone_int_int.f l3).bind fun t157 => (if t157.length < 17592186044416 then ((draw_Chance.f k2 t155 (IntKind.u64.wrap (t144)) a2 (t157 ++ [x57_2])).bind fun bt163 => (if bt163.2 = 0 then (if bt163.1 = true then (if x57_2 < (x153006_2.length : Int) then (if x57_2 < (x153007_2.length : Int) then (quant_Press.l0 k2 a1 a2 l3 t144 l0 (l0.length : Int) (wrap64 (x57_2 + 1)) 2 (l0.length : Int) t144 a1 (x153006_2.set (x57_2 : Int).toNat (IntKind.u64.wrap (t154 + 1))) (x153007_2.set (x57_2 : Int).toNat (decide ((rd l0 x57_2) < 0)))) else (none)) else (none)) else (if x57_2 < (x153006_2.length : Int) then (if x57_2 < (x153007_2.length : Int) then (quant_Press.l0 k2 a1 a2 l3 t144 l0 (l0.length : Int) (wrap64 (x57_2 + 1)) 2 (l0.length : Int) t144 a1 (x153006_2.set (x57_2 : Int).toNat t154) (x153007_2.set (x57_2 : Int).toNat (decide ((rd l0 x57_2) < 0)))) else (none)) else (none))) else (some (0, 0, ([] : List Int), ([] : List Int), 0, 0, ([] : List Int), ([] : List Bool), bt163.2)))) else (none))) else (if x57_2 < (x153006_2.length : Int) then (if x57_2 < (x153007_2.length : Int) then (quant_Press.l0 k2 a1 a2 l3 t144 l0 (l0.length : Int) (wrap64 (x57_2 + 1)) 2 (l0.length : Int) t144 a1 (x153006_2.set (x57_2 : Int).toNat t154) (x153007_2.set (x57_2 : Int).toNat (decide ((rd l0 x57_2) < 0)))) else (none)) else (none))) else (some (0, 0, ([] : List Int), ([] : List Int), 0, 0, ([] : List Int), ([] : List Bool), t156))) = some (r1, r2, r3, r4, r5, r6, r7, r8, r9) := H
    have A39 := ZM A390
    clear A390
    by_cases c40 : t156 = 0
    case neg =>
     rw [if_neg c40] at H
     have c40b0 : (t156 == 0) = false := beq_eq_false_iff_ne.mpr c40
     have c40b1 : (t156 != 0) = true := bne_iff_ne.mpr c40
     simp only [Option.some.injEq, Prod.mk.injEq] at H
     obtain ⟨rfl, rfl, rfl, rfl, rfl, rfl, rfl, rfl, rfl⟩ := H
     have p153 : 0 ≤ (x57_2 : Int) := of_decide_eq_true Z2
     have q153 : x57_2 < (l0.length : Int) := of_decide_eq_true Z2
     obtain ⟨ad153, e153, hx153_0⟩ := Kd.at_int HR0.out x57_2 p153 q153
     cases e153
     replace hx153_0 := (HB.out.cell (World.block_lt_of_cell? w _ hx153_0)).trans hx153_0
     replace p153 := eq_true p153
     replace q153 := eq_true q153
     go_wp2_with (first | ((with_reducible refine gate_callee (f := 47) rfl ?_); refine goesL_ (some 66) rfl rfl Try.func47 (by kernel_rfl) rfl #[.int .i64 (rd l0 x57_2), .int .i64 t144, .int .i64 a1] rfl Z1 ?_; (with_reducible refine (quant_Level.calls (rd l0 x57_2) t144 a1 t154 t155 t156 _ A39.out).mono ?_); rintro e w' ⟨rfl, ⟨nd, rfl⟩⟩; refine ⟨_, rfl, ?_⟩; (try (rw [drewN_self wr]; generalize hq_ : World.drewN wr _ = wr; have n0_ : Aside0 (Kd.R (Kd.int .u64) 64 wr w.heap.size (fun _ => True) u153006 x153006_2) := ⟨by rw [← hq_]; exact (Zr HO_153006)⟩; have n1_ : Aside0 (Kd.R Kd.bool 4 wr w.heap.size (fun _ => True) u153007 x153007_2) := ⟨by rw [← hq_]; exact (Zr HO_153007)⟩; have n2_ : Aside0 (wr.heap[gb141]? = some (.cells #[.int .i64 x142000_2, .int .i64 x142001_2, .slice none 0 0, .slice none 0 0, .int .i64 x142004_2, .int .i64 x142005_2, .slice none 0 0, .slice none 0 0] 30 (0, 0))) := ⟨by rw [← hq_]; exact (Zk BK141)⟩; have n3_ : Aside0 (wr.heap[gb152]? = some (.cells #[.int .i64 2, .int .i64 (l0.length : Int), .slice none 0 0, .slice none 0 0, .int .i64 t144, .int .i64 a1, u153006, u153007] 30 (0, 0))) := ⟨by rw [← hq_]; exact (Zk BK152)⟩; have n4_ : Aside0 (Below w.heap.size w wr) := ⟨by rw [← hq_]; exact Z4⟩; clear HO_153006 HO_153007 BK141 BK152 HB hq_; have HO_153006 := n0_; have HO_153007 := n1_; have BK141 := n2_; have BK152 := n3_; have HB := n4_; clear n0_ n1_ n2_ n3_ n4_)); have hnb91 := NB141_152.out; have hnc91 := NB152_141.out; obtain ⟨hcz92_0, hcz92_1, hcz92_2, hcz92_3, hcz92_4, hcz92_5, hcz92_6, hcz92_7, hfz92_0, hfz92_1, hfz92_2, hfz92_3, hfz92_4, hfz92_5, hfz92_6, hfz92_7⟩ := Y8f BK141))
     refine bodyPost_ret (results_ct rfl _ _ gb141 30 #[.int .i64 0, .int .i64 0, .slice none 0 0, .slice none 0 0, .int .i64 0, .int .i64 0, .slice none 0 0, .slice none 0 0] (0, 0) _ rfl Z13 Try.underlying30 rfl (by kernel_rfl)) rfl ?_
     exact ⟨_, _, _, _, by first | rfl | (simp [errW_none, errW_some] <;> rfl) | (simp [*, errW_none, errW_some] <;> rfl), by first | exact Kd.R_nil _ _ _ _ _ | exact Kd.N_nil _ _ _ _ _ | exact Kd.V_nil _ _ _ _ _ | exact Kd.Q_nil _ _ _ _ _ | exact Kd.S_nil _ _ _ _ _, by first | exact Kd.R_nil _ _ _ _ _ | exact Kd.N_nil _ _ _ _ _ | exact Kd.V_nil _ _ _ _ _ | exact Kd.Q_nil _ _ _ _ _ | exact Kd.S_nil _ _ _ _ _, by first | exact Kd.R_nil _ _ _ _ _ | exact Kd.N_nil _ _ _ _ _ | exact Kd.V_nil _ _ _ _ _ | exact Kd.Q_nil _ _ _ _ _ | exact Kd.S_nil _ _ _ _ _, by first | exact Kd.R_nil _ _ _ _ _ | exact Kd.N_nil _ _ _ _ _ | exact Kd.V_nil _ _ _ _ _ | exact Kd.Q_nil _ _ _ _ _ | exact Kd.S_nil _ _ _ _ _, by repeat (first | (with_reducible first | exact HB.out | apply zzA | apply zzN | apply zzD | refine below_set ?_ GE141.out | refine below_set ?_ GE152.out) | exact HB.out)⟩
    rw [if_pos c40] at H
    have c40b0 : (t156 == 0) = true := beq_iff_eq.mpr c40
    have c40b1 : (t156 != 0) = false := bne_eq_false_iff_eq.mpr c40
    clear c40
    by_cases c41 : t155 > 0
    case neg =>
     rw [if_neg c41] at H
     have c41b0 : decide (0 < t155) = false := decide_eq_false c41
     clear c41
     by_cases c80 : x57_2 < (x153006_2.length : Int)
     case neg =>
      rw [if_neg c80] at H
      exact absurd H (by simp)
     rw [if_pos c80] at H
     have c80b0 : decide (x57_2 < (x153006_2.length : Int)) = true := decide_eq_true c80
     clear c80
     obtain ⟨y169, hy169⟩ : ∃ y_ : List Int, y_ = (x153006_2.set (x57_2 : Int).toNat t154) := ⟨_, rfl⟩
     replace H : (if x57_2 < (x153007_2.length : Int) then (quant_Press.l0 k2 a1 a2 l3 t144 l0 (l0.length : Int) (wrap64 (x57_2 + 1)) 2 (l0.length : Int) t144 a1 y169 (x153007_2.set (x57_2 : Int).toNat (decide ((rd l0 x57_2) < 0)))) else (none)) = some (r1, r2, r3, r4, r5, r6, r7, r8, r9) := by first | (rw [hy169]; with_reducible exact H) | (have H2_ := (Option.bind_some _ _).symm.trans H; rw [hy169]; with_reducible exact H2_) | (have H2_ := (Option.bind_some _ _).symm.trans H; with_reducible exact H2_) | with_reducible exact H | (rw [hy169]; exact H) | exact H
     have Ny169 := ZM hy169
     clear hy169
     by_cases c82 : x57_2 < (x153007_2.length : Int)
     case neg =>
      rw [if_neg c82] at H
      exact absurd H (by simp)
     rw [if_pos c82] at H
     have c82b0 : decide (x57_2 < (x153007_2.length : Int)) = true := decide_eq_true c82
     clear c82
     obtain ⟨y170, hy170⟩ : ∃ y_ : List Bool, y_ = (x153007_2.set (x57_2 : Int).toNat (decide ((rd l0 x57_2) < 0))) := ⟨_, rfl⟩
     replace H : (quant_Press.l0 k2 a1 a2 l3 t144 l0 (l0.length : Int) (wrap64 (x57_2 + 1)) 2 (l0.length : Int) t144 a1 y169 y170) = some (r1, r2, r3, r4, r5, r6, r7, r8, r9) := by first | (rw [hy170]; with_reducible exact H) | (have H2_ := (Option.bind_some _ _).symm.trans H; rw [hy170]; with_reducible exact H2_) | (have H2_ := (Option.bind_some _ _).symm.trans H; with_reducible exact H2_) | with_reducible exact H | (rw [hy170]; exact H) | exact H
     have Ny170 := ZM hy170
     clear hy170
     have H' := ZM H
     clear H
     have p153 : 0 ≤ (x57_2 : Int) := of_decide_eq_true Z2
     have q153 : x57_2 < (l0.length : Int) := of_decide_eq_true Z2
     obtain ⟨ad153, e153, hx153_0⟩ := Kd.at_int HR0.out x57_2 p153 q153
     cases e153
     replace hx153_0 := (HB.out.cell (World.block_lt_of_cell? w _ hx153_0)).trans hx153_0
     replace p153 := eq_true p153
     replace q153 := eq_true q153
     go_wp2_with (first | ((with_reducible refine gate_callee (f := 47) rfl ?_); refine goesL_ (some 66) rfl rfl Try.func47 (by kernel_rfl) rfl #[.int .i64 (rd l0 x57_2), .int .i64 t144, .int .i64 a1] rfl Z1 ?_; (with_reducible refine (quant_Level.calls (rd l0 x57_2) t144 a1 t154 t155 t156 _ A39.out).mono ?_); rintro e w' ⟨rfl, ⟨nd, rfl⟩⟩; refine ⟨_, rfl, ?_⟩; (try (rw [drewN_self wr]; generalize hq_ : World.drewN wr _ = wr; have n0_ : Aside0 (Kd.R (Kd.int .u64) 64 wr w.heap.size (fun _ => True) u153006 x153006_2) := ⟨by rw [← hq_]; exact (Zr HO_153006)⟩; have n1_ : Aside0 (Kd.R Kd.bool 4 wr w.heap.size (fun _ => True) u153007 x153007_2) := ⟨by rw [← hq_]; exact (Zr HO_153007)⟩; have n2_ : Aside0 (wr.heap[gb141]? = some (.cells #[.int .i64 x142000_2, .int .i64 x142001_2, .slice none 0 0, .slice none 0 0, .int .i64 x142004_2, .int .i64 x142005_2, .slice none 0 0, .slice none 0 0] 30 (0, 0))) := ⟨by rw [← hq_]; exact (Zk BK141)⟩; have n3_ : Aside0 (wr.heap[gb152]? = some (.cells #[.int .i64 2, .int .i64 (l0.length : Int), .slice none 0 0, .slice none 0 0, .int .i64 t144, .int .i64 a1, u153006, u153007] 30 (0, 0))) := ⟨by rw [← hq_]; exact (Zk BK152)⟩; have n4_ : Aside0 (Below w.heap.size w wr) := ⟨by rw [← hq_]; exact Z4⟩; clear HO_153006 HO_153007 BK141 BK152 HB hq_; have HO_153006 := n0_; have HO_153007 := n1_; have BK141 := n2_; have BK152 := n3_; have HB := n4_; clear n0_ n1_ n2_ n3_ n4_))))
     have n_ := ZM (rrD HO_153006.out)
     clear HO_153006
     have HO_153006 := n_
     clear n_
     have n_ := ZM (rrD HO_153007.out)
     clear HO_153007
     have HO_153007 := n_
     clear n_
     have n_ := ZM (kkD BK141.out)
     clear BK141
     have BK141 := n_
     clear n_
     have n_ := ZM (kkD BK152.out)
     clear BK152
     have BK152 := n_
     clear n_
     have n_ := ZM (zzD HB.out)
     clear HB
     have HB := n_
     clear n_
     refine start_ (n := 13) (S := fun w' => w'.cell? ⟨gb152, 6, none⟩ = some (u153006) ∧ w'.cell? ⟨gb152, 7, none⟩ = some (u153007)) (ds := [12]) #[false, false, false, false, false, false, false, false, false, false, false, false, false] (by kernel_rfl) rfl rfl ⟨(blk_cell BK152.out 6).trans rfl, (blk_cell BK152.out 7).trans rfl⟩ (fun hHeld => ?_)
     refine with_tabW quant_Press.tab20 quant_Press.bits20 (fun HT_ HW_ => ?_)
     generalize World.drew wr = wr at HO_153006 HO_153007 BK141 BK152 HB hHeld ⊢
     have hnb84 := NB152_141.out; have hnc84 := NB141_152.out; obtain ⟨hcz85_0, hcz85_1, hcz85_2, hcz85_3, hcz85_4, hcz85_5, hcz85_6, hcz85_7, hfz85_0, hfz85_1, hfz85_2, hfz85_3, hfz85_4, hfz85_5, hfz85_6, hfz85_7⟩ := Y8f BK152; have p81 : 0 ≤ (x57_2 : Int) := of_decide_eq_true Z2; have q81 : (x57_2 : Int) < ((x153006_2.length : Int) : Int) := of_decide_eq_true Z2; obtain ⟨go81, co81, eo81, gb81, gl81, cl81, HG81⟩ := Kd.R_form HO_153006.out (by omega); (first | cases eo81 | (injection eo81 with ea_ en_ ec_; (first | subst ea_ | (injection ea_ with ea_; subst ea_)); subst ec_; clear en_)); have GB81 := ZM gb81; have GG81 := ZM HG81; clear gb81 gl81 HG81; obtain ⟨hx81_0, hf81_0⟩ := Kd.R_celln 0 HO_153006.out (x57_2 : Int) p81 q81; replace p81 := eq_true p81; replace q81 := eq_true q81; obtain ⟨hy86_, hz86_⟩ := Kd.R_celln 0 HO_153006.out (x57_2 : Int) (of_decide_eq_true Z2) (of_decide_eq_true Z2); have HP86 := Kd.R_putg HO_153006.out (x57_2 : Int) t154
     refine pure_ (i := 0) (N := some 96) (v := ?_) (a' := ?_) #[true, false, false, false, false, false, false, false, false, false, false, false, false] rfl rfl (any_of HT_.out (by kernel_rfl)) (fun _ _ _ h => h) (Or.inl ⟨by rfl, ?_⟩) ?_ ?_
     rotate_left
     ·
      intro w'
      go_simp
      with_reducible rfl
     rotate_left
     ·
      simp only [Act.put, Zs]
      rfl
     refine pure_ (i := 2) (N := some 98) (v := ?_) (a' := ?_) #[true, false, true, false, false, false, false, false, false, false, false, false, false] rfl rfl (any_of HT_.out (by kernel_rfl)) (fun _ _ _ h => h) (Or.inl ⟨by rfl, ?_⟩) ?_ ?_
     rotate_left
     ·
      intro w'
      go_simp
      with_reducible rfl
     rotate_left
     ·
      simp only [Act.put, Zs]
      rfl
     refine pure_ (i := 3) (N := some 99) (v := ?_) (a' := ?_) #[true, false, true, true, false, false, false, false, false, false, false, false, false] rfl rfl (any_of HT_.out (by kernel_rfl)) (fun _ _ _ h => h) (Or.inl ⟨by rfl, ?_⟩) ?_ ?_
     rotate_left
     ·
      intro w'
      go_simp
      with_reducible rfl
     rotate_left
     ·
      simp only [Act.put, Zs]
      rfl
     refine pure_ (i := 5) (N := some 101) (v := ?_) (a' := ?_) #[true, false, true, true, false, true, false, false, false, false, false, false, false] rfl rfl (any_of HT_.out (by kernel_rfl)) (fun _ _ _ h => h) (Or.inl ⟨by rfl, ?_⟩) ?_ ?_
     rotate_left
     ·
      intro w'
      go_simp
      with_reducible rfl
     rotate_left
     ·
      simp only [Act.put, Zs]
      rfl
     refine pure_ (i := 6) (N := some 102) (v := ?_) (a' := ?_) #[true, false, true, true, false, true, true, false, false, false, false, false, false] rfl rfl (any_of HT_.out (by kernel_rfl)) (fun _ _ _ h => h) (Or.inl ⟨by rfl, ?_⟩) ?_ ?_
     rotate_left
     ·
      intro w'
      go_simp
      with_reducible rfl
     rotate_left
     ·
      simp only [Act.put, Zs]
      rfl
     refine pure_ (i := 7) (N := some 103) (v := ?_) (a' := ?_) #[true, false, true, true, false, true, true, true, false, false, false, false, false] rfl rfl (any_of HT_.out (by kernel_rfl)) (fun _ _ _ h => h) (Or.inl ⟨by rfl, ?_⟩) ?_ ?_
     rotate_left
     ·
      intro w'
      go_simp
      with_reducible rfl
     rotate_left
     ·
      simp only [Act.put, Zs]
      rfl
     refine pure_ (i := 8) (N := some 104) (v := ?_) (a' := ?_) #[true, false, true, true, false, true, true, true, true, false, false, false, false] rfl rfl (any_of HT_.out (by kernel_rfl)) (fun _ _ _ h => h) (Or.inl ⟨by rfl, ?_⟩) ?_ ?_
     rotate_left
     ·
      intro w'
      go_simp
      with_reducible rfl
     rotate_left
     ·
      simp only [Act.put, Zs]
      rfl
     refine take_ (i := 1) (N := some 97) (v := ?_) (a' := ?_) #[true, true, true, true, false, true, true, true, true, false, false, false, false] rfl rfl (take_ofW HT_.out HW_.out (by kernel_rfl)) (fun _ _ _ h => h) (Or.inl ⟨by rfl, ?_⟩) hHeld ?_ ?_
     rotate_left
     ·
      rintro w' ⟨s0, s1⟩
      go_simp
      with_reducible rfl
     rotate_left
     ·
      simp only [Act.put, Zs]
      rfl
     refine pure_ (i := 9) (N := some 105) (v := ?_) (a' := ?_) #[true, true, true, true, false, true, true, true, true, true, false, false, false] rfl rfl (any_of HT_.out (by kernel_rfl)) (fun _ _ _ h => h) (Or.inl ⟨by rfl, ?_⟩) ?_ ?_
     rotate_left
     ·
      intro w'
      go_simp
      with_reducible rfl
     rotate_left
     ·
      simp only [Act.put, Zs]
      rfl
     refine take_ (i := 4) (N := some 100) (v := ?_) (a' := ?_) #[true, true, true, true, true, true, true, true, true, true, false, false, false] rfl rfl (take_ofW HT_.out HW_.out (by kernel_rfl)) (fun _ _ _ h => h) (Or.inl ⟨by rfl, ?_⟩) hHeld ?_ ?_
     rotate_left
     ·
      rintro w' ⟨s0, s1⟩
      go_simp
      with_reducible rfl
     rotate_left
     ·
      simp only [Act.put, Zs]
      rfl
     refine one_ (i := 10) (N := none) #[true, true, true, true, true, true, true, true, true, true, true, false, false] rfl rfl (one_of HT_.out (by kernel_rfl)) (by decide) (fun K hK => ?_)
     refine skip_ (w1 := (wr.setCell ⟨go81, (x57_2 : Int).toNat, none⟩ (.int .u64 t154))) (by rfl) rfl Z48 ?_
     suffices hs_ : ∀ w_, w_ = (wr.setCell ⟨go81, (x57_2 : Int).toNat, none⟩ (.int .u64 t154)) → K _ w_ from hs_ _ rfl
     intro w87 hw; have hg : wr.grownBy w87 (some go81) := (by rw [hw]; exact HP86.2); have hp_ : Kd.R (Kd.int .u64) 64 w87 w.heap.size (fun _ => True) (.slice (some ⟨go81, 0, none⟩) x153006_2.length co81) y169 := (by rw [hw, Ny169.out]; exact HP86.1); clear HP86; have n0_ := ZM (hp_); have n1_ := ZM (Kd.R_over' (v := (.slice (some ⟨go81, 0, none⟩) x153006_2.length co81)) (Zr HO_153007) (Kd.R_typed HO_153006.out) (by decide) hg); have n2_ := ZM (blk_grown (g := gb141) (o := .cells #[.int .i64 x142000_2, .int .i64 x142001_2, .slice none 0 0, .slice none 0 0, .int .i64 x142004_2, .int .i64 x142005_2, .slice none 0 0, .slice none 0 0] 30 (0, 0)) (Zk BK141) hg (Kd.R_ne HO_153006.out BK141.out (by decide))); have n3_ := ZM (blk_grown (g := gb152) (o := .cells #[.int .i64 2, .int .i64 (l0.length : Int), .slice none 0 0, .slice none 0 0, .int .i64 t144, .int .i64 a1, .slice (some ⟨go81, 0, none⟩) x153006_2.length co81, u153007] 30 (0, 0)) (Zk BK152) hg (Kd.R_ne HO_153006.out BK152.out (by decide))); have n4_ := ZM ((by rw [hw]; exact below_set (HB.out) GB81.out : Below w.heap.size w w87)); clear HO_153006; clear HO_153007; clear BK141; clear BK152; clear HB; have HO_153006 := n0_; have HO_153007 := n1_; have BK141 := n2_; have BK152 := n3_; have HB := n4_; clear n0_ n1_ n2_ n3_ n4_; clear hg hw hp_; obtain ⟨hcz88_0, hcz88_1, hcz88_2, hcz88_3, hcz88_4, hcz88_5, hcz88_6, hcz88_7, hfz88_0, hfz88_1, hfz88_2, hfz88_3, hfz88_4, hfz88_5, hfz88_6, hfz88_7⟩ := Y8f BK152; have p83 : 0 ≤ (x57_2 : Int) := of_decide_eq_true Z2; have q83 : (x57_2 : Int) < ((x153007_2.length : Int) : Int) := of_decide_eq_true Z2; obtain ⟨go83, co83, eo83, gb83, gl83, cl83, HG83⟩ := Kd.R_form HO_153007.out (by omega); (first | cases eo83 | (injection eo83 with ea_ en_ ec_; (first | subst ea_ | (injection ea_ with ea_; subst ea_)); subst ec_; clear en_)); have GB83 := ZM gb83; have GG83 := ZM HG83; clear gb83 gl83 HG83; obtain ⟨hx83_0, hf83_0⟩ := Kd.R_celln false HO_153007.out (x57_2 : Int) p83 q83; replace p83 := eq_true p83; replace q83 := eq_true q83; obtain ⟨hy89_, hz89_⟩ := Kd.R_celln false HO_153007.out (x57_2 : Int) (of_decide_eq_true Z2) (of_decide_eq_true Z2); have HP89 := Kd.R_putg HO_153007.out (x57_2 : Int) (decide ((rd l0 x57_2) < 0))
     refine hK.out _ _ ⟨hcz88_6, hcz88_7⟩ (fun hHeld => ?_)
     clear hK K
     refine pure_ (i := 11) (N := some 106) (v := ?_) (a' := ?_) #[true, true, true, true, true, true, true, true, true, true, true, true, false] rfl rfl (any_of HT_.out (by kernel_rfl)) (fun _ _ _ h => h) (Or.inl ⟨by rfl, ?_⟩) ?_ ?_
     rotate_left
     ·
      intro w'
      go_simp
      with_reducible rfl
     rotate_left
     ·
      simp only [Act.put, Zs]
      rfl
     refine last_ (i := 12) (N := none) #[true, true, true, true, true, true, true, true, true, true, true, true, true] rfl rfl (one_of HT_.out (by kernel_rfl)) (by decide) (fun K hK => ?_)
     refine skip_ (w1 := (w87.setCell ⟨go83, (x57_2 : Int).toNat, none⟩ (.bool (decide ((rd l0 x57_2) < 0))))) (by rfl) rfl Z48 ?_
     suffices hs_ : ∀ w_, w_ = (w87.setCell ⟨go83, (x57_2 : Int).toNat, none⟩ (.bool (decide ((rd l0 x57_2) < 0)))) → K _ w_ from hs_ _ rfl
     intro w90 hw; have hg : w87.grownBy w90 (some go83) := (by rw [hw]; exact HP89.2); have hp_ : Kd.R Kd.bool 4 w90 w.heap.size (fun _ => True) (.slice (some ⟨go83, 0, none⟩) x153007_2.length co83) y170 := (by rw [hw, Ny170.out]; exact HP89.1); clear HP89; have n0_ := ZM (Kd.R_over' (v := (.slice (some ⟨go83, 0, none⟩) x153007_2.length co83)) (Zr HO_153006) (Kd.R_typed HO_153007.out) (by decide) hg); have n1_ := ZM (hp_); have n2_ := ZM (blk_grown (g := gb141) (o := .cells #[.int .i64 x142000_2, .int .i64 x142001_2, .slice none 0 0, .slice none 0 0, .int .i64 x142004_2, .int .i64 x142005_2, .slice none 0 0, .slice none 0 0] 30 (0, 0)) (Zk BK141) hg (Kd.R_ne HO_153007.out BK141.out (by decide))); have n3_ := ZM (blk_grown (g := gb152) (o := .cells #[.int .i64 2, .int .i64 (l0.length : Int), .slice none 0 0, .slice none 0 0, .int .i64 t144, .int .i64 a1, .slice (some ⟨go81, 0, none⟩) x153006_2.length co81, .slice (some ⟨go83, 0, none⟩) x153007_2.length co83] 30 (0, 0)) (Zk BK152) hg (Kd.R_ne HO_153007.out BK152.out (by decide))); have n4_ := ZM ((by rw [hw]; exact below_set (HB.out) GB83.out : Below w.heap.size w w90)); clear HO_153006; clear HO_153007; clear BK141; clear BK152; clear HB; have HO_153006 := n0_; have HO_153007 := n1_; have BK141 := n2_; have BK152 := n3_; have HB := n4_; clear n0_ n1_ n2_ n3_ n4_; clear hg hw hp_
     refine hK.out _ _ ?_
     clear hK K
     refine done_ (done_of HT_.out (by kernel_rfl)) ?_
     try go_wp2
     go_roundg k2
     case measure => have := HJ5.out; have := HK2.out; omega
     case rel => exact ⟨(wrap64 (x57_2 + 1)), (x142000_2), (x142001_2), (x142004_2), (x142005_2), (y169), (y170), (.slice (some ⟨go81, 0, none⟩) x153006_2.length co81), (.slice (some ⟨go83, 0, none⟩) x153007_2.length co83), Z5, H', ⟨by have := HJ5.out; have := HK2.out; omega⟩, ⟨by (with_reducible repeat (first | apply rrA | apply rrN | apply rrD)); exact HO_153006.out⟩, ⟨by (with_reducible repeat (first | apply rrA | apply rrN | apply rrD)); exact HO_153007.out⟩, ⟨by (with_reducible repeat (first | refine kkN ?_ _ | refine kkD ?_ | refine kkA ?_ _)); exact BK141.out⟩, ⟨by (with_reducible repeat (first | refine kkN ?_ _ | refine kkD ?_ | refine kkA ?_ _)); exact BK152.out⟩, ⟨by repeat (first | (with_reducible first | exact HB.out | apply zzA | apply zzN | apply zzD | refine below_set ?_ GE141.out | refine below_set ?_ GE152.out) | exact HB.out)⟩⟩
    rw [if_pos c41] at H
    have c41b0 : decide (0 < t155) = true := decide_eq_true c41
    clear c41
    replace H := Option.bind_eq_some_iff.mp H
    obtain ⟨t157, A420, H⟩ := H
    replace H : (if t157.length < 17592186044416 then ((draw_Chance.f k2 t155 (IntKind.u64.wrap (t144)) a2 (t157 ++ [x57_2])).bind fun bt163 => (if bt163.2 = 0 then (if bt163.1 = true then (if x57_2 < (x153006_2.length : Int) then (if x57_2 < (x153007_2.length : Int) then (quant_Press.l0 k2 a1 a2 l3 t144 l0 (l0.length : Int) (wrap64 (x57_2 + 1)) 2 (l0.length : Int) t144 a1 (x153006_2.set (x57_2 : Int).toNat (IntKind.u64.wrap (t154 + 1))) (x153007_2.set (x57_2 : Int).toNat (decide ((rd l0 x57_2) < 0)))) else (none)) else (none)) else (if x57_2 < (x153006_2.length : Int) then (if x57_2 < (x153007_2.length : Int) then (quant_Press.l0 k2 a1 a2 l3 t144 l0 (l0.length : Int) (wrap64 (x57_2 + 1)) 2 (l0.length : Int) t144 a1 (x153006_2.set (x57_2 : Int).toNat t154) (x153007_2.set (x57_2 : Int).toNat (decide ((rd l0 x57_2) < 0)))) else (none)) else (none))) else (some (0, 0, ([] : List Int), ([] : List Int), 0, 0, ([] : List Int), ([] : List Bool), bt163.2)))) else (none)) = some (r1, r2, r3, r4, r5, r6, r7, r8, r9) := H
    have A42 := ZM A420
    clear A420
    by_cases c43 : t157.length < 17592186044416
    case neg =>
     rw [if_neg c43] at H
     exact absurd H (by simp)
    rw [if_pos c43] at H
    have LMc43 := ZM c43
    clear c43
    obtain ⟨y160, hy160⟩ : ∃ y_ : List Int, y_ = (t157 ++ [x57_2]) := ⟨_, rfl⟩
    replace H : ((draw_Chance.f k2 t155 (IntKind.u64.wrap (t144)) a2 y160).bind fun bt163 => (if bt163.2 = 0 then (if bt163.1 = true then (if x57_2 < (x153006_2.length : Int) then (if x57_2 < (x153007_2.length : Int) then (quant_Press.l0 k2 a1 a2 l3 t144 l0 (l0.length : Int) (wrap64 (x57_2 + 1)) 2 (l0.length : Int) t144 a1 (x153006_2.set (x57_2 : Int).toNat (IntKind.u64.wrap (t154 + 1))) (x153007_2.set (x57_2 : Int).toNat (decide ((rd l0 x57_2) < 0)))) else (none)) else (none)) else (if x57_2 < (x153006_2.length : Int) then (if x57_2 < (x153007_2.length : Int) then (quant_Press.l0 k2 a1 a2 l3 t144 l0 (l0.length : Int) (wrap64 (x57_2 + 1)) 2 (l0.length : Int) t144 a1 (x153006_2.set (x57_2 : Int).toNat t154) (x153007_2.set (x57_2 : Int).toNat (decide ((rd l0 x57_2) < 0)))) else (none)) else (none))) else (some (0, 0, ([] : List Int), ([] : List Int), 0, 0, ([] : List Int), ([] : List Bool), bt163.2)))) = some (r1, r2, r3, r4, r5, r6, r7, r8, r9) := by first | (rw [hy160]; with_reducible exact H) | (have H2_ := (Option.bind_some _ _).symm.trans H; rw [hy160]; with_reducible exact H2_) | (have H2_ := (Option.bind_some _ _).symm.trans H; with_reducible exact H2_) | with_reducible exact H | (rw [hy160]; exact H) | exact H
    have Ny160 := ZM hy160
    clear hy160
    replace H := Option.bind_eq_some_iff.mp H
    obtain ⟨⟨t163, t164⟩, A440, H⟩ := H
    replace H : (if t164 = 0 then (if t163 = true then (if x57_2 < (x153006_2.length : Int) then (if x57_2 < (x153007_2.length : Int) then (quant_Press.l0 k2 a1 a2 l3 t144 l0 (l0.length : Int) (wrap64 (x57_2 + 1)) 2 (l0.length : Int) t144 a1 (x153006_2.set (x57_2 : Int).toNat (IntKind.u64.wrap (t154 + 1))) (x153007_2.set (x57_2 : Int).toNat (decide ((rd l0 x57_2) < 0)))) else (none)) else (none)) else (if x57_2 < (x153006_2.length : Int) then (if x57_2 < (x153007_2.length : Int) then (quant_Press.l0 k2 a1 a2 l3 t144 l0 (l0.length : Int) (wrap64 (x57_2 + 1)) 2 (l0.length : Int) t144 a1 (x153006_2.set (x57_2 : Int).toNat t154) (x153007_2.set (x57_2 : Int).toNat (decide ((rd l0 x57_2) < 0)))) else (none)) else (none))) else (some (0, 0, ([] : List Int), ([] : List Int), 0, 0, ([] : List Int), ([] : List Bool), t164))) = some (r1, r2, r3, r4, r5, r6, r7, r8, r9) := H
    have A44 := ZM A440
    clear A440
    by_cases c45 : t164 = 0
    case neg =>
     rw [if_neg c45] at H
     have c45b0 : (t164 == 0) = false := beq_eq_false_iff_ne.mpr c45
     have c45b1 : (t164 != 0) = true := bne_iff_ne.mpr c45
     simp only [Option.some.injEq, Prod.mk.injEq] at H
     obtain ⟨rfl, rfl, rfl, rfl, rfl, rfl, rfl, rfl, rfl⟩ := H
     have p153 : 0 ≤ (x57_2 : Int) := of_decide_eq_true Z2
     have q153 : x57_2 < (l0.length : Int) := of_decide_eq_true Z2
     obtain ⟨ad153, e153, hx153_0⟩ := Kd.at_int HR0.out x57_2 p153 q153
     cases e153
     replace hx153_0 := (HB.out.cell (World.block_lt_of_cell? w _ hx153_0)).trans hx153_0
     replace p153 := eq_true p153
     replace q153 := eq_true q153
     go_wp2_with (first | ((with_reducible refine gate_callee (f := 47) rfl ?_); refine goesL_ (some 66) rfl rfl Try.func47 (by kernel_rfl) rfl #[.int .i64 (rd l0 x57_2), .int .i64 t144, .int .i64 a1] rfl Z1 ?_; (with_reducible refine (quant_Level.calls (rd l0 x57_2) t144 a1 t154 t155 t156 _ A39.out).mono ?_); rintro e w' ⟨rfl, ⟨nd, rfl⟩⟩; refine ⟨_, rfl, ?_⟩; (try (rw [drewN_self wr]; generalize hq_ : World.drewN wr _ = wr; have n0_ : Aside0 (Kd.R (Kd.int .u64) 64 wr w.heap.size (fun _ => True) u153006 x153006_2) := ⟨by rw [← hq_]; exact (Zr HO_153006)⟩; have n1_ : Aside0 (Kd.R Kd.bool 4 wr w.heap.size (fun _ => True) u153007 x153007_2) := ⟨by rw [← hq_]; exact (Zr HO_153007)⟩; have n2_ : Aside0 (wr.heap[gb141]? = some (.cells #[.int .i64 x142000_2, .int .i64 x142001_2, .slice none 0 0, .slice none 0 0, .int .i64 x142004_2, .int .i64 x142005_2, .slice none 0 0, .slice none 0 0] 30 (0, 0))) := ⟨by rw [← hq_]; exact (Zk BK141)⟩; have n3_ : Aside0 (wr.heap[gb152]? = some (.cells #[.int .i64 2, .int .i64 (l0.length : Int), .slice none 0 0, .slice none 0 0, .int .i64 t144, .int .i64 a1, u153006, u153007] 30 (0, 0))) := ⟨by rw [← hq_]; exact (Zk BK152)⟩; have n4_ : Aside0 (Below w.heap.size w wr) := ⟨by rw [← hq_]; exact Z4⟩; clear HO_153006 HO_153007 BK141 BK152 HB hq_; have HO_153006 := n0_; have HO_153007 := n1_; have BK141 := n2_; have BK152 := n3_; have HB := n4_; clear n0_ n1_ n2_ n3_ n4_))) | ((with_reducible refine gate_callee (f := 87) rfl ?_); refine goesL_ (some 82) rfl rfl Try.func87 (by kernel_rfl) rfl #[.slice A3 l3.length c3] rfl Z1 ?_; (with_reducible refine (slices_Clone_int_int.calls _ _ l3 t157 _ ?side1 ?side2 A42.out).mono ?_); (case side1 => exact Z20); (case side2 => exact HC3.out); rintro e w75 ⟨v158, rfl, ho0, hb⟩; refine ⟨_, rfl, ?_⟩; replace HO_153006 := ZM (Kd.R_below (Zr HO_153006) hb); replace HO_153007 := ZM (Kd.R_below (Zr HO_153007) hb); have HO159 := ZM (Kd.R_lower ho0 (zzS Z4)); replace BK141 := ZM (blk_below (g := gb141) (o := .cells #[.int .i64 x142000_2, .int .i64 x142001_2, .slice none 0 0, .slice none 0 0, .int .i64 x142004_2, .int .i64 x142005_2, .slice none 0 0, .slice none 0 0] 30 (0, 0)) (Zk BK141) hb); replace BK152 := ZM (blk_below (g := gb152) (o := .cells #[.int .i64 2, .int .i64 (l0.length : Int), .slice none 0 0, .slice none 0 0, .int .i64 t144, .int .i64 a1, u153006, u153007] 30 (0, 0)) (Zk BK152) hb); replace HB := ZM (zzT Z4 hb); (try clear hb); (try clear hb2); (try clear hk); (try clear hi); (try clear ho0)) | ((with_reducible refine gate_builtin (b := .append) (xs := #[.tmp 82, .tmp 84]) rfl ?_); (try (refine gate_guard (by rfl) ?_; dsimp only)); at_builtin; refine Kd.R_append (Kd.int .i64) (w0 := w) w.heap.size rfl (.tmp 82) (.tmp 84) 26 3 (.int .i64 0) 8 rfl Try.underlying26 info3 rfl (by decide) (by omega) v158 t157 x57_2 [.int .i64 x57_2] (fun _ => True) (fun _ => False) rfl rfl ?aP (fun _ hk => hk.elim) ?aF ?aO ?aB ?aS ?aL ?_; (case aP => exact rfl); (case aB => exact Z4); (case aF => exact (fun _ _ => trivial)); (case aO => exact (Zr HO159)); (case aS => exact (zzS Z4)); (case aL => have := LMc43.out; omega); intro v161 w76 ho hb hg hat; rw [← Ny160.out] at ho; replace HO_153006 := ZM (Kd.R_over' (Zr HO_153006) (Kd.R_typed (Zr HO159)) (by decide) hg); replace HO_153007 := ZM (Kd.R_over' (Zr HO_153007) (Kd.R_typed (Zr HO159)) (by decide) hg); replace BK141 := ZM (blk_grown (g := gb141) (o := .cells #[.int .i64 x142000_2, .int .i64 x142001_2, .slice none 0 0, .slice none 0 0, .int .i64 x142004_2, .int .i64 x142005_2, .slice none 0 0, .slice none 0 0] 30 (0, 0)) (Zk BK141) hg (Kd.R_ne HO159.out BK141.out (by decide))); replace BK152 := ZM (blk_grown (g := gb152) (o := .cells #[.int .i64 2, .int .i64 (l0.length : Int), .slice none 0 0, .slice none 0 0, .int .i64 t144, .int .i64 a1, u153006, u153007] 30 (0, 0)) (Zk BK152) hg (Kd.R_ne HO159.out BK152.out (by decide))); have HO162 := ZM (ho); replace HB := ZM (hb); clear HO159; clear ho hb hg hat; obtain ⟨Ao77, co77, eo77⟩ := Kd.R_slice HO162.out; subst eo77) | ((with_reducible refine gate_callee (f := 86) rfl ?_); refine goesL_ (some 86) rfl rfl Try.func86 (by kernel_rfl) rfl #[.int .u64 t155, .int .u64 (IntKind.u64.wrap (t144)), .int .u64 a2, .slice Ao77 y160.length co77] rfl Z1 ?_; (with_reducible refine (draw_Chance.calls k2 t155 (IntKind.u64.wrap (t144)) a2 _ _ y160 t163 t164 _ ?side1 ?side2 A44.out).mono ?_); (case side1 => exact Z57); (case side2 => exact (Kd.R_reads' HO162.out).2.1); rintro e w' ⟨rfl, ⟨nd, rfl⟩⟩; refine ⟨_, rfl, ?_⟩; (try (rw [drewN_self w76]; generalize hq_ : World.drewN w76 _ = w76; have n0_ : Aside0 (Kd.R (Kd.int .i64) 3 w76 w.heap.size (fun _ => True) (.slice Ao77 y160.length co77) y160) := ⟨by rw [← hq_]; exact (Zr HO162)⟩; have n1_ : Aside0 (Kd.R (Kd.int .u64) 64 w76 w.heap.size (fun _ => True) u153006 x153006_2) := ⟨by rw [← hq_]; exact (Zr HO_153006)⟩; have n2_ : Aside0 (Kd.R Kd.bool 4 w76 w.heap.size (fun _ => True) u153007 x153007_2) := ⟨by rw [← hq_]; exact (Zr HO_153007)⟩; have n3_ : Aside0 (w76.heap[gb141]? = some (.cells #[.int .i64 x142000_2, .int .i64 x142001_2, .slice none 0 0, .slice none 0 0, .int .i64 x142004_2, .int .i64 x142005_2, .slice none 0 0, .slice none 0 0] 30 (0, 0))) := ⟨by rw [← hq_]; exact (Zk BK141)⟩; have n4_ : Aside0 (w76.heap[gb152]? = some (.cells #[.int .i64 2, .int .i64 (l0.length : Int), .slice none 0 0, .slice none 0 0, .int .i64 t144, .int .i64 a1, u153006, u153007] 30 (0, 0))) := ⟨by rw [← hq_]; exact (Zk BK152)⟩; have n5_ : Aside0 (Below w.heap.size w w76) := ⟨by rw [← hq_]; exact Z4⟩; clear HO162 HO_153006 HO_153007 BK141 BK152 HB hq_; have HO162 := n0_; have HO_153006 := n1_; have HO_153007 := n2_; have BK141 := n3_; have BK152 := n4_; have HB := n5_; clear n0_ n1_ n2_ n3_ n4_ n5_)); have hnb78 := NB141_152.out; have hnc78 := NB152_141.out; obtain ⟨hcz79_0, hcz79_1, hcz79_2, hcz79_3, hcz79_4, hcz79_5, hcz79_6, hcz79_7, hfz79_0, hfz79_1, hfz79_2, hfz79_3, hfz79_4, hfz79_5, hfz79_6, hfz79_7⟩ := Y8f BK141))
     refine bodyPost_ret (results_ct rfl _ _ gb141 30 #[.int .i64 0, .int .i64 0, .slice none 0 0, .slice none 0 0, .int .i64 0, .int .i64 0, .slice none 0 0, .slice none 0 0] (0, 0) _ rfl Z13 Try.underlying30 rfl (by kernel_rfl)) rfl ?_
     exact ⟨_, _, _, _, by first | rfl | (simp [errW_none, errW_some] <;> rfl) | (simp [*, errW_none, errW_some] <;> rfl), by first | exact Kd.R_nil _ _ _ _ _ | exact Kd.N_nil _ _ _ _ _ | exact Kd.V_nil _ _ _ _ _ | exact Kd.Q_nil _ _ _ _ _ | exact Kd.S_nil _ _ _ _ _, by first | exact Kd.R_nil _ _ _ _ _ | exact Kd.N_nil _ _ _ _ _ | exact Kd.V_nil _ _ _ _ _ | exact Kd.Q_nil _ _ _ _ _ | exact Kd.S_nil _ _ _ _ _, by first | exact Kd.R_nil _ _ _ _ _ | exact Kd.N_nil _ _ _ _ _ | exact Kd.V_nil _ _ _ _ _ | exact Kd.Q_nil _ _ _ _ _ | exact Kd.S_nil _ _ _ _ _, by first | exact Kd.R_nil _ _ _ _ _ | exact Kd.N_nil _ _ _ _ _ | exact Kd.V_nil _ _ _ _ _ | exact Kd.Q_nil _ _ _ _ _ | exact Kd.S_nil _ _ _ _ _, by repeat (first | (with_reducible first | exact HB.out | apply zzA | apply zzN | apply zzD | refine below_set ?_ GE141.out | refine below_set ?_ GE152.out) | exact HB.out)⟩
    rw [if_pos c45] at H
    have c45b0 : (t164 == 0) = true := beq_iff_eq.mpr c45
    have c45b1 : (t164 != 0) = false := bne_eq_false_iff_eq.mpr c45
    clear c45
    by_cases c46 : t163 = true
    ·
     subst c46
     have H1 : (if x57_2 < (x153006_2.length : Int) then (if x57_2 < (x153007_2.length : Int) then (quant_Press.l0 k2 a1 a2 l3 t144 l0 (l0.length : Int) (wrap64 (x57_2 + 1)) 2 (l0.length : Int) t144 a1 (x153006_2.set (x57_2 : Int).toNat (IntKind.u64.wrap (t154 + 1))) (x153007_2.set (x57_2 : Int).toNat (decide ((rd l0 x57_2) < 0)))) else (none)) else (none)) = some (r1, r2, r3, r4, r5, r6, r7, r8, r9) := by rw [if_pos rfl] at H; exact H
     clear H
     have H := H1
     clear H1
     by_cases c47 : x57_2 < (x153006_2.length : Int)
     case neg =>
      rw [if_neg c47] at H
      exact absurd H (by simp)
     rw [if_pos c47] at H
     have c47b0 : decide (x57_2 < (x153006_2.length : Int)) = true := decide_eq_true c47
     clear c47
     obtain ⟨y165, hy165⟩ : ∃ y_ : List Int, y_ = (x153006_2.set (x57_2 : Int).toNat (IntKind.u64.wrap (t154 + 1))) := ⟨_, rfl⟩
     replace H : (if x57_2 < (x153007_2.length : Int) then (quant_Press.l0 k2 a1 a2 l3 t144 l0 (l0.length : Int) (wrap64 (x57_2 + 1)) 2 (l0.length : Int) t144 a1 y165 (x153007_2.set (x57_2 : Int).toNat (decide ((rd l0 x57_2) < 0)))) else (none)) = some (r1, r2, r3, r4, r5, r6, r7, r8, r9) := by first | (rw [hy165]; with_reducible exact H) | (have H2_ := (Option.bind_some _ _).symm.trans H; rw [hy165]; with_reducible exact H2_) | (have H2_ := (Option.bind_some _ _).symm.trans H; with_reducible exact H2_) | with_reducible exact H | (rw [hy165]; exact H) | exact H
     have Ny165 := ZM hy165
     clear hy165
     by_cases c49 : x57_2 < (x153007_2.length : Int)
     case neg =>
      rw [if_neg c49] at H
      exact absurd H (by simp)
     rw [if_pos c49] at H
     have c49b0 : decide (x57_2 < (x153007_2.length : Int)) = true := decide_eq_true c49
     clear c49
     obtain ⟨y166, hy166⟩ : ∃ y_ : List Bool, y_ = (x153007_2.set (x57_2 : Int).toNat (decide ((rd l0 x57_2) < 0))) := ⟨_, rfl⟩
     replace H : (quant_Press.l0 k2 a1 a2 l3 t144 l0 (l0.length : Int) (wrap64 (x57_2 + 1)) 2 (l0.length : Int) t144 a1 y165 y166) = some (r1, r2, r3, r4, r5, r6, r7, r8, r9) := by first | (rw [hy166]; with_reducible exact H) | (have H2_ := (Option.bind_some _ _).symm.trans H; rw [hy166]; with_reducible exact H2_) | (have H2_ := (Option.bind_some _ _).symm.trans H; with_reducible exact H2_) | with_reducible exact H | (rw [hy166]; exact H) | exact H
     have Ny166 := ZM hy166
     clear hy166
     have H' := ZM H
     clear H
     have p153 : 0 ≤ (x57_2 : Int) := of_decide_eq_true Z2
     have q153 : x57_2 < (l0.length : Int) := of_decide_eq_true Z2
     obtain ⟨ad153, e153, hx153_0⟩ := Kd.at_int HR0.out x57_2 p153 q153
     cases e153
     replace hx153_0 := (HB.out.cell (World.block_lt_of_cell? w _ hx153_0)).trans hx153_0
     replace p153 := eq_true p153
     replace q153 := eq_true q153
     go_wp2_with (first | ((with_reducible refine gate_callee (f := 47) rfl ?_); refine goesL_ (some 66) rfl rfl Try.func47 (by kernel_rfl) rfl #[.int .i64 (rd l0 x57_2), .int .i64 t144, .int .i64 a1] rfl Z1 ?_; (with_reducible refine (quant_Level.calls (rd l0 x57_2) t144 a1 t154 t155 t156 _ A39.out).mono ?_); rintro e w' ⟨rfl, ⟨nd, rfl⟩⟩; refine ⟨_, rfl, ?_⟩; (try (rw [drewN_self wr]; generalize hq_ : World.drewN wr _ = wr; have n0_ : Aside0 (Kd.R (Kd.int .u64) 64 wr w.heap.size (fun _ => True) u153006 x153006_2) := ⟨by rw [← hq_]; exact (Zr HO_153006)⟩; have n1_ : Aside0 (Kd.R Kd.bool 4 wr w.heap.size (fun _ => True) u153007 x153007_2) := ⟨by rw [← hq_]; exact (Zr HO_153007)⟩; have n2_ : Aside0 (wr.heap[gb141]? = some (.cells #[.int .i64 x142000_2, .int .i64 x142001_2, .slice none 0 0, .slice none 0 0, .int .i64 x142004_2, .int .i64 x142005_2, .slice none 0 0, .slice none 0 0] 30 (0, 0))) := ⟨by rw [← hq_]; exact (Zk BK141)⟩; have n3_ : Aside0 (wr.heap[gb152]? = some (.cells #[.int .i64 2, .int .i64 (l0.length : Int), .slice none 0 0, .slice none 0 0, .int .i64 t144, .int .i64 a1, u153006, u153007] 30 (0, 0))) := ⟨by rw [← hq_]; exact (Zk BK152)⟩; have n4_ : Aside0 (Below w.heap.size w wr) := ⟨by rw [← hq_]; exact Z4⟩; clear HO_153006 HO_153007 BK141 BK152 HB hq_; have HO_153006 := n0_; have HO_153007 := n1_; have BK141 := n2_; have BK152 := n3_; have HB := n4_; clear n0_ n1_ n2_ n3_ n4_))) | ((with_reducible refine gate_callee (f := 87) rfl ?_); refine goesL_ (some 82) rfl rfl Try.func87 (by kernel_rfl) rfl #[.slice A3 l3.length c3] rfl Z1 ?_; (with_reducible refine (slices_Clone_int_int.calls _ _ l3 t157 _ ?side1 ?side2 A42.out).mono ?_); (case side1 => exact Z20); (case side2 => exact HC3.out); rintro e w51 ⟨v158, rfl, ho0, hb⟩; refine ⟨_, rfl, ?_⟩; replace HO_153006 := ZM (Kd.R_below (Zr HO_153006) hb); replace HO_153007 := ZM (Kd.R_below (Zr HO_153007) hb); have HO159 := ZM (Kd.R_lower ho0 (zzS Z4)); replace BK141 := ZM (blk_below (g := gb141) (o := .cells #[.int .i64 x142000_2, .int .i64 x142001_2, .slice none 0 0, .slice none 0 0, .int .i64 x142004_2, .int .i64 x142005_2, .slice none 0 0, .slice none 0 0] 30 (0, 0)) (Zk BK141) hb); replace BK152 := ZM (blk_below (g := gb152) (o := .cells #[.int .i64 2, .int .i64 (l0.length : Int), .slice none 0 0, .slice none 0 0, .int .i64 t144, .int .i64 a1, u153006, u153007] 30 (0, 0)) (Zk BK152) hb); replace HB := ZM (zzT Z4 hb); (try clear hb); (try clear hb2); (try clear hk); (try clear hi); (try clear ho0)) | ((with_reducible refine gate_builtin (b := .append) (xs := #[.tmp 82, .tmp 84]) rfl ?_); (try (refine gate_guard (by rfl) ?_; dsimp only)); at_builtin; refine Kd.R_append (Kd.int .i64) (w0 := w) w.heap.size rfl (.tmp 82) (.tmp 84) 26 3 (.int .i64 0) 8 rfl Try.underlying26 info3 rfl (by decide) (by omega) v158 t157 x57_2 [.int .i64 x57_2] (fun _ => True) (fun _ => False) rfl rfl ?aP (fun _ hk => hk.elim) ?aF ?aO ?aB ?aS ?aL ?_; (case aP => exact rfl); (case aB => exact Z4); (case aF => exact (fun _ _ => trivial)); (case aO => exact (Zr HO159)); (case aS => exact (zzS Z4)); (case aL => have := LMc43.out; omega); intro v161 w52 ho hb hg hat; rw [← Ny160.out] at ho; replace HO_153006 := ZM (Kd.R_over' (Zr HO_153006) (Kd.R_typed (Zr HO159)) (by decide) hg); replace HO_153007 := ZM (Kd.R_over' (Zr HO_153007) (Kd.R_typed (Zr HO159)) (by decide) hg); replace BK141 := ZM (blk_grown (g := gb141) (o := .cells #[.int .i64 x142000_2, .int .i64 x142001_2, .slice none 0 0, .slice none 0 0, .int .i64 x142004_2, .int .i64 x142005_2, .slice none 0 0, .slice none 0 0] 30 (0, 0)) (Zk BK141) hg (Kd.R_ne HO159.out BK141.out (by decide))); replace BK152 := ZM (blk_grown (g := gb152) (o := .cells #[.int .i64 2, .int .i64 (l0.length : Int), .slice none 0 0, .slice none 0 0, .int .i64 t144, .int .i64 a1, u153006, u153007] 30 (0, 0)) (Zk BK152) hg (Kd.R_ne HO159.out BK152.out (by decide))); have HO162 := ZM (ho); replace HB := ZM (hb); clear HO159; clear ho hb hg hat; obtain ⟨Ao53, co53, eo53⟩ := Kd.R_slice HO162.out; subst eo53) | ((with_reducible refine gate_callee (f := 86) rfl ?_); refine goesL_ (some 86) rfl rfl Try.func86 (by kernel_rfl) rfl #[.int .u64 t155, .int .u64 (IntKind.u64.wrap (t144)), .int .u64 a2, .slice Ao53 y160.length co53] rfl Z1 ?_; (with_reducible refine (draw_Chance.calls k2 t155 (IntKind.u64.wrap (t144)) a2 _ _ y160 true t164 _ ?side1 ?side2 A44.out).mono ?_); (case side1 => exact Z57); (case side2 => exact (Kd.R_reads' HO162.out).2.1); rintro e w' ⟨rfl, ⟨nd, rfl⟩⟩; refine ⟨_, rfl, ?_⟩; (try (rw [drewN_self w52]; generalize hq_ : World.drewN w52 _ = w52; have n0_ : Aside0 (Kd.R (Kd.int .i64) 3 w52 w.heap.size (fun _ => True) (.slice Ao53 y160.length co53) y160) := ⟨by rw [← hq_]; exact (Zr HO162)⟩; have n1_ : Aside0 (Kd.R (Kd.int .u64) 64 w52 w.heap.size (fun _ => True) u153006 x153006_2) := ⟨by rw [← hq_]; exact (Zr HO_153006)⟩; have n2_ : Aside0 (Kd.R Kd.bool 4 w52 w.heap.size (fun _ => True) u153007 x153007_2) := ⟨by rw [← hq_]; exact (Zr HO_153007)⟩; have n3_ : Aside0 (w52.heap[gb141]? = some (.cells #[.int .i64 x142000_2, .int .i64 x142001_2, .slice none 0 0, .slice none 0 0, .int .i64 x142004_2, .int .i64 x142005_2, .slice none 0 0, .slice none 0 0] 30 (0, 0))) := ⟨by rw [← hq_]; exact (Zk BK141)⟩; have n4_ : Aside0 (w52.heap[gb152]? = some (.cells #[.int .i64 2, .int .i64 (l0.length : Int), .slice none 0 0, .slice none 0 0, .int .i64 t144, .int .i64 a1, u153006, u153007] 30 (0, 0))) := ⟨by rw [← hq_]; exact (Zk BK152)⟩; have n5_ : Aside0 (Below w.heap.size w w52) := ⟨by rw [← hq_]; exact Z4⟩; clear HO162 HO_153006 HO_153007 BK141 BK152 HB hq_; have HO162 := n0_; have HO_153006 := n1_; have HO_153007 := n2_; have BK141 := n3_; have BK152 := n4_; have HB := n5_; clear n0_ n1_ n2_ n3_ n4_ n5_))))
     have n_ := ZM (rrD HO162.out)
     clear HO162
     have HO162 := n_
     clear n_
     have n_ := ZM (rrD HO_153006.out)
     clear HO_153006
     have HO_153006 := n_
     clear n_
     have n_ := ZM (rrD HO_153007.out)
     clear HO_153007
     have HO_153007 := n_
     clear n_
     have n_ := ZM (kkD BK141.out)
     clear BK141
     have BK141 := n_
     clear n_
     have n_ := ZM (kkD BK152.out)
     clear BK152
     have BK152 := n_
     clear n_
     have n_ := ZM (zzD HB.out)
     clear HB
     have HB := n_
     clear n_
     refine start_ (n := 13) (S := fun w' => w'.cell? ⟨gb152, 6, none⟩ = some (u153006) ∧ w'.cell? ⟨gb152, 7, none⟩ = some (u153007)) (ds := [12]) #[false, false, false, false, false, false, false, false, false, false, false, false, false] (by kernel_rfl) rfl rfl ⟨(blk_cell BK152.out 6).trans rfl, (blk_cell BK152.out 7).trans rfl⟩ (fun hHeld => ?_)
     refine with_tabW quant_Press.tab20 quant_Press.bits20 (fun HT_ HW_ => ?_)
     generalize World.drew w52 = w52 at HO162 HO_153006 HO_153007 BK141 BK152 HB hHeld ⊢
     have hnb54 := NB152_141.out; have hnc54 := NB141_152.out; obtain ⟨hcz55_0, hcz55_1, hcz55_2, hcz55_3, hcz55_4, hcz55_5, hcz55_6, hcz55_7, hfz55_0, hfz55_1, hfz55_2, hfz55_3, hfz55_4, hfz55_5, hfz55_6, hfz55_7⟩ := Y8f BK152; have p48 : 0 ≤ (x57_2 : Int) := of_decide_eq_true Z2; have q48 : (x57_2 : Int) < ((x153006_2.length : Int) : Int) := of_decide_eq_true Z2; obtain ⟨go48, co48, eo48, gb48, gl48, cl48, HG48⟩ := Kd.R_form HO_153006.out (by omega); (first | cases eo48 | (injection eo48 with ea_ en_ ec_; (first | subst ea_ | (injection ea_ with ea_; subst ea_)); subst ec_; clear en_)); have GB48 := ZM gb48; have GG48 := ZM HG48; clear gb48 gl48 HG48; obtain ⟨hx48_0, hf48_0⟩ := Kd.R_celln 0 HO_153006.out (x57_2 : Int) p48 q48; replace p48 := eq_true p48; replace q48 := eq_true q48; obtain ⟨hy56_, hz56_⟩ := Kd.R_celln 0 HO_153006.out (x57_2 : Int) (of_decide_eq_true Z2) (of_decide_eq_true Z2); have HP56 := Kd.R_putg HO_153006.out (x57_2 : Int) (IntKind.u64.wrap (t154 + 1))
     refine pure_ (i := 0) (N := some 96) (v := ?_) (a' := ?_) #[true, false, false, false, false, false, false, false, false, false, false, false, false] rfl rfl (any_of HT_.out (by kernel_rfl)) (fun _ _ _ h => h) (Or.inl ⟨by rfl, ?_⟩) ?_ ?_
     rotate_left
     ·
      intro w'
      go_simp
      with_reducible rfl
     rotate_left
     ·
      simp only [Act.put, Zs]
      rfl
     refine pure_ (i := 2) (N := some 98) (v := ?_) (a' := ?_) #[true, false, true, false, false, false, false, false, false, false, false, false, false] rfl rfl (any_of HT_.out (by kernel_rfl)) (fun _ _ _ h => h) (Or.inl ⟨by rfl, ?_⟩) ?_ ?_
     rotate_left
     ·
      intro w'
      go_simp
      with_reducible rfl
     rotate_left
     ·
      simp only [Act.put, Zs]
      rfl
     refine pure_ (i := 3) (N := some 99) (v := ?_) (a' := ?_) #[true, false, true, true, false, false, false, false, false, false, false, false, false] rfl rfl (any_of HT_.out (by kernel_rfl)) (fun _ _ _ h => h) (Or.inl ⟨by rfl, ?_⟩) ?_ ?_
     rotate_left
     ·
      intro w'
      go_simp
      with_reducible rfl
     rotate_left
     ·
      simp only [Act.put, Zs]
      rfl
     refine pure_ (i := 5) (N := some 101) (v := ?_) (a' := ?_) #[true, false, true, true, false, true, false, false, false, false, false, false, false] rfl rfl (any_of HT_.out (by kernel_rfl)) (fun _ _ _ h => h) (Or.inl ⟨by rfl, ?_⟩) ?_ ?_
     rotate_left
     ·
      intro w'
      go_simp
      with_reducible rfl
     rotate_left
     ·
      simp only [Act.put, Zs]
      rfl
     refine pure_ (i := 6) (N := some 102) (v := ?_) (a' := ?_) #[true, false, true, true, false, true, true, false, false, false, false, false, false] rfl rfl (any_of HT_.out (by kernel_rfl)) (fun _ _ _ h => h) (Or.inl ⟨by rfl, ?_⟩) ?_ ?_
     rotate_left
     ·
      intro w'
      go_simp
      with_reducible rfl
     rotate_left
     ·
      simp only [Act.put, Zs]
      rfl
     refine pure_ (i := 7) (N := some 103) (v := ?_) (a' := ?_) #[true, false, true, true, false, true, true, true, false, false, false, false, false] rfl rfl (any_of HT_.out (by kernel_rfl)) (fun _ _ _ h => h) (Or.inl ⟨by rfl, ?_⟩) ?_ ?_
     rotate_left
     ·
      intro w'
      go_simp
      with_reducible rfl
     rotate_left
     ·
      simp only [Act.put, Zs]
      rfl
     refine pure_ (i := 8) (N := some 104) (v := ?_) (a' := ?_) #[true, false, true, true, false, true, true, true, true, false, false, false, false] rfl rfl (any_of HT_.out (by kernel_rfl)) (fun _ _ _ h => h) (Or.inl ⟨by rfl, ?_⟩) ?_ ?_
     rotate_left
     ·
      intro w'
      go_simp
      with_reducible rfl
     rotate_left
     ·
      simp only [Act.put, Zs]
      rfl
     refine take_ (i := 1) (N := some 97) (v := ?_) (a' := ?_) #[true, true, true, true, false, true, true, true, true, false, false, false, false] rfl rfl (take_ofW HT_.out HW_.out (by kernel_rfl)) (fun _ _ _ h => h) (Or.inl ⟨by rfl, ?_⟩) hHeld ?_ ?_
     rotate_left
     ·
      rintro w' ⟨s0, s1⟩
      go_simp
      with_reducible rfl
     rotate_left
     ·
      simp only [Act.put, Zs]
      rfl
     refine pure_ (i := 9) (N := some 105) (v := ?_) (a' := ?_) #[true, true, true, true, false, true, true, true, true, true, false, false, false] rfl rfl (any_of HT_.out (by kernel_rfl)) (fun _ _ _ h => h) (Or.inl ⟨by rfl, ?_⟩) ?_ ?_
     rotate_left
     ·
      intro w'
      go_simp
      with_reducible rfl
     rotate_left
     ·
      simp only [Act.put, Zs]
      rfl
     refine take_ (i := 4) (N := some 100) (v := ?_) (a' := ?_) #[true, true, true, true, true, true, true, true, true, true, false, false, false] rfl rfl (take_ofW HT_.out HW_.out (by kernel_rfl)) (fun _ _ _ h => h) (Or.inl ⟨by rfl, ?_⟩) hHeld ?_ ?_
     rotate_left
     ·
      rintro w' ⟨s0, s1⟩
      go_simp
      with_reducible rfl
     rotate_left
     ·
      simp only [Act.put, Zs]
      rfl
     refine one_ (i := 10) (N := none) #[true, true, true, true, true, true, true, true, true, true, true, false, false] rfl rfl (one_of HT_.out (by kernel_rfl)) (by decide) (fun K hK => ?_)
     refine skip_ (w1 := (w52.setCell ⟨go48, (x57_2 : Int).toNat, none⟩ (.int .u64 (IntKind.u64.wrap (t154 + 1))))) (by rfl) rfl Z48 ?_
     suffices hs_ : ∀ w_, w_ = (w52.setCell ⟨go48, (x57_2 : Int).toNat, none⟩ (.int .u64 (IntKind.u64.wrap (t154 + 1)))) → K _ w_ from hs_ _ rfl
     intro w57 hw; have hg : w52.grownBy w57 (some go48) := (by rw [hw]; exact HP56.2); have hp_ : Kd.R (Kd.int .u64) 64 w57 w.heap.size (fun _ => True) (.slice (some ⟨go48, 0, none⟩) x153006_2.length co48) y165 := (by rw [hw, Ny165.out]; exact HP56.1); clear HP56; have n0_ := ZM (hp_); have n1_ := ZM (Kd.R_over' (v := (.slice (some ⟨go48, 0, none⟩) x153006_2.length co48)) (Zr HO_153007) (Kd.R_typed HO_153006.out) (by decide) hg); have n2_ := ZM (blk_grown (g := gb141) (o := .cells #[.int .i64 x142000_2, .int .i64 x142001_2, .slice none 0 0, .slice none 0 0, .int .i64 x142004_2, .int .i64 x142005_2, .slice none 0 0, .slice none 0 0] 30 (0, 0)) (Zk BK141) hg (Kd.R_ne HO_153006.out BK141.out (by decide))); have n3_ := ZM (blk_grown (g := gb152) (o := .cells #[.int .i64 2, .int .i64 (l0.length : Int), .slice none 0 0, .slice none 0 0, .int .i64 t144, .int .i64 a1, .slice (some ⟨go48, 0, none⟩) x153006_2.length co48, u153007] 30 (0, 0)) (Zk BK152) hg (Kd.R_ne HO_153006.out BK152.out (by decide))); have n4_ := ZM (Kd.R_over' (v := (.slice (some ⟨go48, 0, none⟩) x153006_2.length co48)) (Zr HO162) (Kd.R_typed HO_153006.out) (by decide) hg); have n5_ := ZM ((by rw [hw]; exact below_set (HB.out) GB48.out : Below w.heap.size w w57)); clear HO_153006; clear HO_153007; clear BK141; clear BK152; clear HO162; clear HB; have HO_153006 := n0_; have HO_153007 := n1_; have BK141 := n2_; have BK152 := n3_; have HO162 := n4_; have HB := n5_; clear n0_ n1_ n2_ n3_ n4_ n5_; clear hg hw hp_; obtain ⟨hcz58_0, hcz58_1, hcz58_2, hcz58_3, hcz58_4, hcz58_5, hcz58_6, hcz58_7, hfz58_0, hfz58_1, hfz58_2, hfz58_3, hfz58_4, hfz58_5, hfz58_6, hfz58_7⟩ := Y8f BK152; have p50 : 0 ≤ (x57_2 : Int) := of_decide_eq_true Z2; have q50 : (x57_2 : Int) < ((x153007_2.length : Int) : Int) := of_decide_eq_true Z2; obtain ⟨go50, co50, eo50, gb50, gl50, cl50, HG50⟩ := Kd.R_form HO_153007.out (by omega); (first | cases eo50 | (injection eo50 with ea_ en_ ec_; (first | subst ea_ | (injection ea_ with ea_; subst ea_)); subst ec_; clear en_)); have GB50 := ZM gb50; have GG50 := ZM HG50; clear gb50 gl50 HG50; obtain ⟨hx50_0, hf50_0⟩ := Kd.R_celln false HO_153007.out (x57_2 : Int) p50 q50; replace p50 := eq_true p50; replace q50 := eq_true q50; obtain ⟨hy59_, hz59_⟩ := Kd.R_celln false HO_153007.out (x57_2 : Int) (of_decide_eq_true Z2) (of_decide_eq_true Z2); have HP59 := Kd.R_putg HO_153007.out (x57_2 : Int) (decide ((rd l0 x57_2) < 0))
     refine hK.out _ _ ⟨hcz58_6, hcz58_7⟩ (fun hHeld => ?_)
     clear hK K
     refine pure_ (i := 11) (N := some 106) (v := ?_) (a' := ?_) #[true, true, true, true, true, true, true, true, true, true, true, true, false] rfl rfl (any_of HT_.out (by kernel_rfl)) (fun _ _ _ h => h) (Or.inl ⟨by rfl, ?_⟩) ?_ ?_
     rotate_left
     ·
      intro w'
      go_simp
      with_reducible rfl
     rotate_left
     ·
      simp only [Act.put, Zs]
      rfl
     refine last_ (i := 12) (N := none) #[true, true, true, true, true, true, true, true, true, true, true, true, true] rfl rfl (one_of HT_.out (by kernel_rfl)) (by decide) (fun K hK => ?_)
     refine skip_ (w1 := (w57.setCell ⟨go50, (x57_2 : Int).toNat, none⟩ (.bool (decide ((rd l0 x57_2) < 0))))) (by rfl) rfl Z48 ?_
     suffices hs_ : ∀ w_, w_ = (w57.setCell ⟨go50, (x57_2 : Int).toNat, none⟩ (.bool (decide ((rd l0 x57_2) < 0)))) → K _ w_ from hs_ _ rfl
     intro w60 hw; have hg : w57.grownBy w60 (some go50) := (by rw [hw]; exact HP59.2); have hp_ : Kd.R Kd.bool 4 w60 w.heap.size (fun _ => True) (.slice (some ⟨go50, 0, none⟩) x153007_2.length co50) y166 := (by rw [hw, Ny166.out]; exact HP59.1); clear HP59; have n0_ := ZM (Kd.R_over' (v := (.slice (some ⟨go50, 0, none⟩) x153007_2.length co50)) (Zr HO_153006) (Kd.R_typed HO_153007.out) (by decide) hg); have n1_ := ZM (hp_); have n2_ := ZM (blk_grown (g := gb141) (o := .cells #[.int .i64 x142000_2, .int .i64 x142001_2, .slice none 0 0, .slice none 0 0, .int .i64 x142004_2, .int .i64 x142005_2, .slice none 0 0, .slice none 0 0] 30 (0, 0)) (Zk BK141) hg (Kd.R_ne HO_153007.out BK141.out (by decide))); have n3_ := ZM (blk_grown (g := gb152) (o := .cells #[.int .i64 2, .int .i64 (l0.length : Int), .slice none 0 0, .slice none 0 0, .int .i64 t144, .int .i64 a1, .slice (some ⟨go48, 0, none⟩) x153006_2.length co48, .slice (some ⟨go50, 0, none⟩) x153007_2.length co50] 30 (0, 0)) (Zk BK152) hg (Kd.R_ne HO_153007.out BK152.out (by decide))); have n4_ := ZM (Kd.R_over' (v := (.slice (some ⟨go50, 0, none⟩) x153007_2.length co50)) (Zr HO162) (Kd.R_typed HO_153007.out) (by decide) hg); have n5_ := ZM ((by rw [hw]; exact below_set (HB.out) GB50.out : Below w.heap.size w w60)); clear HO_153006; clear HO_153007; clear BK141; clear BK152; clear HO162; clear HB; have HO_153006 := n0_; have HO_153007 := n1_; have BK141 := n2_; have BK152 := n3_; have HO162 := n4_; have HB := n5_; clear n0_ n1_ n2_ n3_ n4_ n5_; clear hg hw hp_
     refine hK.out _ _ ?_
     clear hK K
     refine done_ (done_of HT_.out (by kernel_rfl)) ?_
     try go_wp2
     go_roundg k2
     case measure => have := HJ5.out; have := HK2.out; omega
     case rel => exact ⟨(wrap64 (x57_2 + 1)), (x142000_2), (x142001_2), (x142004_2), (x142005_2), (y165), (y166), (.slice (some ⟨go48, 0, none⟩) x153006_2.length co48), (.slice (some ⟨go50, 0, none⟩) x153007_2.length co50), Z5, H', ⟨by have := HJ5.out; have := HK2.out; omega⟩, ⟨by (with_reducible repeat (first | apply rrA | apply rrN | apply rrD)); exact HO_153006.out⟩, ⟨by (with_reducible repeat (first | apply rrA | apply rrN | apply rrD)); exact HO_153007.out⟩, ⟨by (with_reducible repeat (first | refine kkN ?_ _ | refine kkD ?_ | refine kkA ?_ _)); exact BK141.out⟩, ⟨by (with_reducible repeat (first | refine kkN ?_ _ | refine kkD ?_ | refine kkA ?_ _)); exact BK152.out⟩, ⟨by repeat (first | (with_reducible first | exact HB.out | apply zzA | apply zzN | apply zzD | refine below_set ?_ GE141.out | refine below_set ?_ GE152.out) | exact HB.out)⟩⟩
    replace c46 := Bool.eq_false_iff.mpr c46
    subst c46
    have H1 : (if x57_2 < (x153006_2.length : Int) then (if x57_2 < (x153007_2.length : Int) then (quant_Press.l0 k2 a1 a2 l3 t144 l0 (l0.length : Int) (wrap64 (x57_2 + 1)) 2 (l0.length : Int) t144 a1 (x153006_2.set (x57_2 : Int).toNat t154) (x153007_2.set (x57_2 : Int).toNat (decide ((rd l0 x57_2) < 0)))) else (none)) else (none)) = some (r1, r2, r3, r4, r5, r6, r7, r8, r9) := by rw [if_neg (show ¬ (false = true) by decide)] at H; exact H
    clear H
    have H := H1
    clear H1
    by_cases c61 : x57_2 < (x153006_2.length : Int)
    case neg =>
     rw [if_neg c61] at H
     exact absurd H (by simp)
    rw [if_pos c61] at H
    have c61b0 : decide (x57_2 < (x153006_2.length : Int)) = true := decide_eq_true c61
    clear c61
    obtain ⟨y167, hy167⟩ : ∃ y_ : List Int, y_ = (x153006_2.set (x57_2 : Int).toNat t154) := ⟨_, rfl⟩
    replace H : (if x57_2 < (x153007_2.length : Int) then (quant_Press.l0 k2 a1 a2 l3 t144 l0 (l0.length : Int) (wrap64 (x57_2 + 1)) 2 (l0.length : Int) t144 a1 y167 (x153007_2.set (x57_2 : Int).toNat (decide ((rd l0 x57_2) < 0)))) else (none)) = some (r1, r2, r3, r4, r5, r6, r7, r8, r9) := by first | (rw [hy167]; with_reducible exact H) | (have H2_ := (Option.bind_some _ _).symm.trans H; rw [hy167]; with_reducible exact H2_) | (have H2_ := (Option.bind_some _ _).symm.trans H; with_reducible exact H2_) | with_reducible exact H | (rw [hy167]; exact H) | exact H
    have Ny167 := ZM hy167
    clear hy167
    by_cases c63 : x57_2 < (x153007_2.length : Int)
    case neg =>
     rw [if_neg c63] at H
     exact absurd H (by simp)
    rw [if_pos c63] at H
    have c63b0 : decide (x57_2 < (x153007_2.length : Int)) = true := decide_eq_true c63
    clear c63
    obtain ⟨y168, hy168⟩ : ∃ y_ : List Bool, y_ = (x153007_2.set (x57_2 : Int).toNat (decide ((rd l0 x57_2) < 0))) := ⟨_, rfl⟩
    replace H : (quant_Press.l0 k2 a1 a2 l3 t144 l0 (l0.length : Int) (wrap64 (x57_2 + 1)) 2 (l0.length : Int) t144 a1 y167 y168) = some (r1, r2, r3, r4, r5, r6, r7, r8, r9) := by first | (rw [hy168]; with_reducible exact H) | (have H2_ := (Option.bind_some _ _).symm.trans H; rw [hy168]; with_reducible exact H2_) | (have H2_ := (Option.bind_some _ _).symm.trans H; with_reducible exact H2_) | with_reducible exact H | (rw [hy168]; exact H) | exact H
    have Ny168 := ZM hy168
    clear hy168
    have H' := ZM H
    clear H
    have p153 : 0 ≤ (x57_2 : Int) := of_decide_eq_true Z2
    have q153 : x57_2 < (l0.length : Int) := of_decide_eq_true Z2
    obtain ⟨ad153, e153, hx153_0⟩ := Kd.at_int HR0.out x57_2 p153 q153
    cases e153
    replace hx153_0 := (HB.out.cell (World.block_lt_of_cell? w _ hx153_0)).trans hx153_0
    replace p153 := eq_true p153
    replace q153 := eq_true q153
    go_wp2_with (first | ((with_reducible refine gate_callee (f := 47) rfl ?_); refine goesL_ (some 66) rfl rfl Try.func47 (by kernel_rfl) rfl #[.int .i64 (rd l0 x57_2), .int .i64 t144, .int .i64 a1] rfl Z1 ?_; (with_reducible refine (quant_Level.calls (rd l0 x57_2) t144 a1 t154 t155 t156 _ A39.out).mono ?_); rintro e w' ⟨rfl, ⟨nd, rfl⟩⟩; refine ⟨_, rfl, ?_⟩; (try (rw [drewN_self wr]; generalize hq_ : World.drewN wr _ = wr; have n0_ : Aside0 (Kd.R (Kd.int .u64) 64 wr w.heap.size (fun _ => True) u153006 x153006_2) := ⟨by rw [← hq_]; exact (Zr HO_153006)⟩; have n1_ : Aside0 (Kd.R Kd.bool 4 wr w.heap.size (fun _ => True) u153007 x153007_2) := ⟨by rw [← hq_]; exact (Zr HO_153007)⟩; have n2_ : Aside0 (wr.heap[gb141]? = some (.cells #[.int .i64 x142000_2, .int .i64 x142001_2, .slice none 0 0, .slice none 0 0, .int .i64 x142004_2, .int .i64 x142005_2, .slice none 0 0, .slice none 0 0] 30 (0, 0))) := ⟨by rw [← hq_]; exact (Zk BK141)⟩; have n3_ : Aside0 (wr.heap[gb152]? = some (.cells #[.int .i64 2, .int .i64 (l0.length : Int), .slice none 0 0, .slice none 0 0, .int .i64 t144, .int .i64 a1, u153006, u153007] 30 (0, 0))) := ⟨by rw [← hq_]; exact (Zk BK152)⟩; have n4_ : Aside0 (Below w.heap.size w wr) := ⟨by rw [← hq_]; exact Z4⟩; clear HO_153006 HO_153007 BK141 BK152 HB hq_; have HO_153006 := n0_; have HO_153007 := n1_; have BK141 := n2_; have BK152 := n3_; have HB := n4_; clear n0_ n1_ n2_ n3_ n4_))) | ((with_reducible refine gate_callee (f := 87) rfl ?_); refine goesL_ (some 82) rfl rfl Try.func87 (by kernel_rfl) rfl #[.slice A3 l3.length c3] rfl Z1 ?_; (with_reducible refine (slices_Clone_int_int.calls _ _ l3 t157 _ ?side1 ?side2 A42.out).mono ?_); (case side1 => exact Z20); (case side2 => exact HC3.out); rintro e w65 ⟨v158, rfl, ho0, hb⟩; refine ⟨_, rfl, ?_⟩; replace HO_153006 := ZM (Kd.R_below (Zr HO_153006) hb); replace HO_153007 := ZM (Kd.R_below (Zr HO_153007) hb); have HO159 := ZM (Kd.R_lower ho0 (zzS Z4)); replace BK141 := ZM (blk_below (g := gb141) (o := .cells #[.int .i64 x142000_2, .int .i64 x142001_2, .slice none 0 0, .slice none 0 0, .int .i64 x142004_2, .int .i64 x142005_2, .slice none 0 0, .slice none 0 0] 30 (0, 0)) (Zk BK141) hb); replace BK152 := ZM (blk_below (g := gb152) (o := .cells #[.int .i64 2, .int .i64 (l0.length : Int), .slice none 0 0, .slice none 0 0, .int .i64 t144, .int .i64 a1, u153006, u153007] 30 (0, 0)) (Zk BK152) hb); replace HB := ZM (zzT Z4 hb); (try clear hb); (try clear hb2); (try clear hk); (try clear hi); (try clear ho0)) | ((with_reducible refine gate_builtin (b := .append) (xs := #[.tmp 82, .tmp 84]) rfl ?_); (try (refine gate_guard (by rfl) ?_; dsimp only)); at_builtin; refine Kd.R_append (Kd.int .i64) (w0 := w) w.heap.size rfl (.tmp 82) (.tmp 84) 26 3 (.int .i64 0) 8 rfl Try.underlying26 info3 rfl (by decide) (by omega) v158 t157 x57_2 [.int .i64 x57_2] (fun _ => True) (fun _ => False) rfl rfl ?aP (fun _ hk => hk.elim) ?aF ?aO ?aB ?aS ?aL ?_; (case aP => exact rfl); (case aB => exact Z4); (case aF => exact (fun _ _ => trivial)); (case aO => exact (Zr HO159)); (case aS => exact (zzS Z4)); (case aL => have := LMc43.out; omega); intro v161 w66 ho hb hg hat; rw [← Ny160.out] at ho; replace HO_153006 := ZM (Kd.R_over' (Zr HO_153006) (Kd.R_typed (Zr HO159)) (by decide) hg); replace HO_153007 := ZM (Kd.R_over' (Zr HO_153007) (Kd.R_typed (Zr HO159)) (by decide) hg); replace BK141 := ZM (blk_grown (g := gb141) (o := .cells #[.int .i64 x142000_2, .int .i64 x142001_2, .slice none 0 0, .slice none 0 0, .int .i64 x142004_2, .int .i64 x142005_2, .slice none 0 0, .slice none 0 0] 30 (0, 0)) (Zk BK141) hg (Kd.R_ne HO159.out BK141.out (by decide))); replace BK152 := ZM (blk_grown (g := gb152) (o := .cells #[.int .i64 2, .int .i64 (l0.length : Int), .slice none 0 0, .slice none 0 0, .int .i64 t144, .int .i64 a1, u153006, u153007] 30 (0, 0)) (Zk BK152) hg (Kd.R_ne HO159.out BK152.out (by decide))); have HO162 := ZM (ho); replace HB := ZM (hb); clear HO159; clear ho hb hg hat; obtain ⟨Ao67, co67, eo67⟩ := Kd.R_slice HO162.out; subst eo67) | ((with_reducible refine gate_callee (f := 86) rfl ?_); refine goesL_ (some 86) rfl rfl Try.func86 (by kernel_rfl) rfl #[.int .u64 t155, .int .u64 (IntKind.u64.wrap (t144)), .int .u64 a2, .slice Ao67 y160.length co67] rfl Z1 ?_; (with_reducible refine (draw_Chance.calls k2 t155 (IntKind.u64.wrap (t144)) a2 _ _ y160 false t164 _ ?side1 ?side2 A44.out).mono ?_); (case side1 => exact Z57); (case side2 => exact (Kd.R_reads' HO162.out).2.1); rintro e w' ⟨rfl, ⟨nd, rfl⟩⟩; refine ⟨_, rfl, ?_⟩; (try (rw [drewN_self w66]; generalize hq_ : World.drewN w66 _ = w66; have n0_ : Aside0 (Kd.R (Kd.int .i64) 3 w66 w.heap.size (fun _ => True) (.slice Ao67 y160.length co67) y160) := ⟨by rw [← hq_]; exact (Zr HO162)⟩; have n1_ : Aside0 (Kd.R (Kd.int .u64) 64 w66 w.heap.size (fun _ => True) u153006 x153006_2) := ⟨by rw [← hq_]; exact (Zr HO_153006)⟩; have n2_ : Aside0 (Kd.R Kd.bool 4 w66 w.heap.size (fun _ => True) u153007 x153007_2) := ⟨by rw [← hq_]; exact (Zr HO_153007)⟩; have n3_ : Aside0 (w66.heap[gb141]? = some (.cells #[.int .i64 x142000_2, .int .i64 x142001_2, .slice none 0 0, .slice none 0 0, .int .i64 x142004_2, .int .i64 x142005_2, .slice none 0 0, .slice none 0 0] 30 (0, 0))) := ⟨by rw [← hq_]; exact (Zk BK141)⟩; have n4_ : Aside0 (w66.heap[gb152]? = some (.cells #[.int .i64 2, .int .i64 (l0.length : Int), .slice none 0 0, .slice none 0 0, .int .i64 t144, .int .i64 a1, u153006, u153007] 30 (0, 0))) := ⟨by rw [← hq_]; exact (Zk BK152)⟩; have n5_ : Aside0 (Below w.heap.size w w66) := ⟨by rw [← hq_]; exact Z4⟩; clear HO162 HO_153006 HO_153007 BK141 BK152 HB hq_; have HO162 := n0_; have HO_153006 := n1_; have HO_153007 := n2_; have BK141 := n3_; have BK152 := n4_; have HB := n5_; clear n0_ n1_ n2_ n3_ n4_ n5_))))
    have n_ := ZM (rrD HO162.out)
    clear HO162
    have HO162 := n_
    clear n_
    have n_ := ZM (rrD HO_153006.out)
    clear HO_153006
    have HO_153006 := n_
    clear n_
    have n_ := ZM (rrD HO_153007.out)
    clear HO_153007
    have HO_153007 := n_
    clear n_
    have n_ := ZM (kkD BK141.out)
    clear BK141
    have BK141 := n_
    clear n_
    have n_ := ZM (kkD BK152.out)
    clear BK152
    have BK152 := n_
    clear n_
    have n_ := ZM (zzD HB.out)
    clear HB
    have HB := n_
    clear n_
    refine start_ (n := 13) (S := fun w' => w'.cell? ⟨gb152, 6, none⟩ = some (u153006) ∧ w'.cell? ⟨gb152, 7, none⟩ = some (u153007)) (ds := [12]) #[false, false, false, false, false, false, false, false, false, false, false, false, false] (by kernel_rfl) rfl rfl ⟨(blk_cell BK152.out 6).trans rfl, (blk_cell BK152.out 7).trans rfl⟩ (fun hHeld => ?_)
    refine with_tabW quant_Press.tab20 quant_Press.bits20 (fun HT_ HW_ => ?_)
    generalize World.drew w66 = w66 at HO162 HO_153006 HO_153007 BK141 BK152 HB hHeld ⊢
    have hnb68 := NB152_141.out; have hnc68 := NB141_152.out; obtain ⟨hcz69_0, hcz69_1, hcz69_2, hcz69_3, hcz69_4, hcz69_5, hcz69_6, hcz69_7, hfz69_0, hfz69_1, hfz69_2, hfz69_3, hfz69_4, hfz69_5, hfz69_6, hfz69_7⟩ := Y8f BK152; have p62 : 0 ≤ (x57_2 : Int) := of_decide_eq_true Z2; have q62 : (x57_2 : Int) < ((x153006_2.length : Int) : Int) := of_decide_eq_true Z2; obtain ⟨go62, co62, eo62, gb62, gl62, cl62, HG62⟩ := Kd.R_form HO_153006.out (by omega); (first | cases eo62 | (injection eo62 with ea_ en_ ec_; (first | subst ea_ | (injection ea_ with ea_; subst ea_)); subst ec_; clear en_)); have GB62 := ZM gb62; have GG62 := ZM HG62; clear gb62 gl62 HG62; obtain ⟨hx62_0, hf62_0⟩ := Kd.R_celln 0 HO_153006.out (x57_2 : Int) p62 q62; replace p62 := eq_true p62; replace q62 := eq_true q62; obtain ⟨hy70_, hz70_⟩ := Kd.R_celln 0 HO_153006.out (x57_2 : Int) (of_decide_eq_true Z2) (of_decide_eq_true Z2); have HP70 := Kd.R_putg HO_153006.out (x57_2 : Int) t154
    refine pure_ (i := 0) (N := some 96) (v := ?_) (a' := ?_) #[true, false, false, false, false, false, false, false, false, false, false, false, false] rfl rfl (any_of HT_.out (by kernel_rfl)) (fun _ _ _ h => h) (Or.inl ⟨by rfl, ?_⟩) ?_ ?_
    rotate_left
    ·
     intro w'
     go_simp
     with_reducible rfl
    rotate_left
    ·
     simp only [Act.put, Zs]
     rfl
    refine pure_ (i := 2) (N := some 98) (v := ?_) (a' := ?_) #[true, false, true, false, false, false, false, false, false, false, false, false, false] rfl rfl (any_of HT_.out (by kernel_rfl)) (fun _ _ _ h => h) (Or.inl ⟨by rfl, ?_⟩) ?_ ?_
    rotate_left
    ·
     intro w'
     go_simp
     with_reducible rfl
    rotate_left
    ·
     simp only [Act.put, Zs]
     rfl
    refine pure_ (i := 3) (N := some 99) (v := ?_) (a' := ?_) #[true, false, true, true, false, false, false, false, false, false, false, false, false] rfl rfl (any_of HT_.out (by kernel_rfl)) (fun _ _ _ h => h) (Or.inl ⟨by rfl, ?_⟩) ?_ ?_
    rotate_left
    ·
     intro w'
     go_simp
     with_reducible rfl
    rotate_left
    ·
     simp only [Act.put, Zs]
     rfl
    refine pure_ (i := 5) (N := some 101) (v := ?_) (a' := ?_) #[true, false, true, true, false, true, false, false, false, false, false, false, false] rfl rfl (any_of HT_.out (by kernel_rfl)) (fun _ _ _ h => h) (Or.inl ⟨by rfl, ?_⟩) ?_ ?_
    rotate_left
    ·
     intro w'
     go_simp
     with_reducible rfl
    rotate_left
    ·
     simp only [Act.put, Zs]
     rfl
    refine pure_ (i := 6) (N := some 102) (v := ?_) (a' := ?_) #[true, false, true, true, false, true, true, false, false, false, false, false, false] rfl rfl (any_of HT_.out (by kernel_rfl)) (fun _ _ _ h => h) (Or.inl ⟨by rfl, ?_⟩) ?_ ?_
    rotate_left
    ·
     intro w'
     go_simp
     with_reducible rfl
    rotate_left
    ·
     simp only [Act.put, Zs]
     rfl
    refine pure_ (i := 7) (N := some 103) (v := ?_) (a' := ?_) #[true, false, true, true, false, true, true, true, false, false, false, false, false] rfl rfl (any_of HT_.out (by kernel_rfl)) (fun _ _ _ h => h) (Or.inl ⟨by rfl, ?_⟩) ?_ ?_
    rotate_left
    ·
     intro w'
     go_simp
     with_reducible rfl
    rotate_left
    ·
     simp only [Act.put, Zs]
     rfl
    refine pure_ (i := 8) (N := some 104) (v := ?_) (a' := ?_) #[true, false, true, true, false, true, true, true, true, false, false, false, false] rfl rfl (any_of HT_.out (by kernel_rfl)) (fun _ _ _ h => h) (Or.inl ⟨by rfl, ?_⟩) ?_ ?_
    rotate_left
    ·
     intro w'
     go_simp
     with_reducible rfl
    rotate_left
    ·
     simp only [Act.put, Zs]
     rfl
    refine take_ (i := 1) (N := some 97) (v := ?_) (a' := ?_) #[true, true, true, true, false, true, true, true, true, false, false, false, false] rfl rfl (take_ofW HT_.out HW_.out (by kernel_rfl)) (fun _ _ _ h => h) (Or.inl ⟨by rfl, ?_⟩) hHeld ?_ ?_
    rotate_left
    ·
     rintro w' ⟨s0, s1⟩
     go_simp
     with_reducible rfl
    rotate_left
    ·
     simp only [Act.put, Zs]
     rfl
    refine pure_ (i := 9) (N := some 105) (v := ?_) (a' := ?_) #[true, true, true, true, false, true, true, true, true, true, false, false, false] rfl rfl (any_of HT_.out (by kernel_rfl)) (fun _ _ _ h => h) (Or.inl ⟨by rfl, ?_⟩) ?_ ?_
    rotate_left
    ·
     intro w'
     go_simp
     with_reducible rfl
    rotate_left
    ·
     simp only [Act.put, Zs]
     rfl
    refine take_ (i := 4) (N := some 100) (v := ?_) (a' := ?_) #[true, true, true, true, true, true, true, true, true, true, false, false, false] rfl rfl (take_ofW HT_.out HW_.out (by kernel_rfl)) (fun _ _ _ h => h) (Or.inl ⟨by rfl, ?_⟩) hHeld ?_ ?_
    rotate_left
    ·
     rintro w' ⟨s0, s1⟩
     go_simp
     with_reducible rfl
    rotate_left
    ·
     simp only [Act.put, Zs]
     rfl
    refine one_ (i := 10) (N := none) #[true, true, true, true, true, true, true, true, true, true, true, false, false] rfl rfl (one_of HT_.out (by kernel_rfl)) (by decide) (fun K hK => ?_)
    refine skip_ (w1 := (w66.setCell ⟨go62, (x57_2 : Int).toNat, none⟩ (.int .u64 t154))) (by rfl) rfl Z48 ?_
    suffices hs_ : ∀ w_, w_ = (w66.setCell ⟨go62, (x57_2 : Int).toNat, none⟩ (.int .u64 t154)) → K _ w_ from hs_ _ rfl
    intro w71 hw; have hg : w66.grownBy w71 (some go62) := (by rw [hw]; exact HP70.2); have hp_ : Kd.R (Kd.int .u64) 64 w71 w.heap.size (fun _ => True) (.slice (some ⟨go62, 0, none⟩) x153006_2.length co62) y167 := (by rw [hw, Ny167.out]; exact HP70.1); clear HP70; have n0_ := ZM (hp_); have n1_ := ZM (Kd.R_over' (v := (.slice (some ⟨go62, 0, none⟩) x153006_2.length co62)) (Zr HO_153007) (Kd.R_typed HO_153006.out) (by decide) hg); have n2_ := ZM (blk_grown (g := gb141) (o := .cells #[.int .i64 x142000_2, .int .i64 x142001_2, .slice none 0 0, .slice none 0 0, .int .i64 x142004_2, .int .i64 x142005_2, .slice none 0 0, .slice none 0 0] 30 (0, 0)) (Zk BK141) hg (Kd.R_ne HO_153006.out BK141.out (by decide))); have n3_ := ZM (blk_grown (g := gb152) (o := .cells #[.int .i64 2, .int .i64 (l0.length : Int), .slice none 0 0, .slice none 0 0, .int .i64 t144, .int .i64 a1, .slice (some ⟨go62, 0, none⟩) x153006_2.length co62, u153007] 30 (0, 0)) (Zk BK152) hg (Kd.R_ne HO_153006.out BK152.out (by decide))); have n4_ := ZM (Kd.R_over' (v := (.slice (some ⟨go62, 0, none⟩) x153006_2.length co62)) (Zr HO162) (Kd.R_typed HO_153006.out) (by decide) hg); have n5_ := ZM ((by rw [hw]; exact below_set (HB.out) GB62.out : Below w.heap.size w w71)); clear HO_153006; clear HO_153007; clear BK141; clear BK152; clear HO162; clear HB; have HO_153006 := n0_; have HO_153007 := n1_; have BK141 := n2_; have BK152 := n3_; have HO162 := n4_; have HB := n5_; clear n0_ n1_ n2_ n3_ n4_ n5_; clear hg hw hp_; obtain ⟨hcz72_0, hcz72_1, hcz72_2, hcz72_3, hcz72_4, hcz72_5, hcz72_6, hcz72_7, hfz72_0, hfz72_1, hfz72_2, hfz72_3, hfz72_4, hfz72_5, hfz72_6, hfz72_7⟩ := Y8f BK152; have p64 : 0 ≤ (x57_2 : Int) := of_decide_eq_true Z2; have q64 : (x57_2 : Int) < ((x153007_2.length : Int) : Int) := of_decide_eq_true Z2; obtain ⟨go64, co64, eo64, gb64, gl64, cl64, HG64⟩ := Kd.R_form HO_153007.out (by omega); (first | cases eo64 | (injection eo64 with ea_ en_ ec_; (first | subst ea_ | (injection ea_ with ea_; subst ea_)); subst ec_; clear en_)); have GB64 := ZM gb64; have GG64 := ZM HG64; clear gb64 gl64 HG64; obtain ⟨hx64_0, hf64_0⟩ := Kd.R_celln false HO_153007.out (x57_2 : Int) p64 q64; replace p64 := eq_true p64; replace q64 := eq_true q64; obtain ⟨hy73_, hz73_⟩ := Kd.R_celln false HO_153007.out (x57_2 : Int) (of_decide_eq_true Z2) (of_decide_eq_true Z2); have HP73 := Kd.R_putg HO_153007.out (x57_2 : Int) (decide ((rd l0 x57_2) < 0))
    refine hK.out _ _ ⟨hcz72_6, hcz72_7⟩ (fun hHeld => ?_)
    clear hK K
    refine pure_ (i := 11) (N := some 106) (v := ?_) (a' := ?_) #[true, true, true, true, true, true, true, true, true, true, true, true, false] rfl rfl (any_of HT_.out (by kernel_rfl)) (fun _ _ _ h => h) (Or.inl ⟨by rfl, ?_⟩) ?_ ?_
    rotate_left
    ·
     intro w'
     go_simp
     with_reducible rfl
    rotate_left
    ·
     simp only [Act.put, Zs]
     rfl
    refine last_ (i := 12) (N := none) #[true, true, true, true, true, true, true, true, true, true, true, true, true] rfl rfl (one_of HT_.out (by kernel_rfl)) (by decide) (fun K hK => ?_)
    refine skip_ (w1 := (w71.setCell ⟨go64, (x57_2 : Int).toNat, none⟩ (.bool (decide ((rd l0 x57_2) < 0))))) (by rfl) rfl Z48 ?_
    suffices hs_ : ∀ w_, w_ = (w71.setCell ⟨go64, (x57_2 : Int).toNat, none⟩ (.bool (decide ((rd l0 x57_2) < 0)))) → K _ w_ from hs_ _ rfl
    intro w74 hw; have hg : w71.grownBy w74 (some go64) := (by rw [hw]; exact HP73.2); have hp_ : Kd.R Kd.bool 4 w74 w.heap.size (fun _ => True) (.slice (some ⟨go64, 0, none⟩) x153007_2.length co64) y168 := (by rw [hw, Ny168.out]; exact HP73.1); clear HP73; have n0_ := ZM (Kd.R_over' (v := (.slice (some ⟨go64, 0, none⟩) x153007_2.length co64)) (Zr HO_153006) (Kd.R_typed HO_153007.out) (by decide) hg); have n1_ := ZM (hp_); have n2_ := ZM (blk_grown (g := gb141) (o := .cells #[.int .i64 x142000_2, .int .i64 x142001_2, .slice none 0 0, .slice none 0 0, .int .i64 x142004_2, .int .i64 x142005_2, .slice none 0 0, .slice none 0 0] 30 (0, 0)) (Zk BK141) hg (Kd.R_ne HO_153007.out BK141.out (by decide))); have n3_ := ZM (blk_grown (g := gb152) (o := .cells #[.int .i64 2, .int .i64 (l0.length : Int), .slice none 0 0, .slice none 0 0, .int .i64 t144, .int .i64 a1, .slice (some ⟨go62, 0, none⟩) x153006_2.length co62, .slice (some ⟨go64, 0, none⟩) x153007_2.length co64] 30 (0, 0)) (Zk BK152) hg (Kd.R_ne HO_153007.out BK152.out (by decide))); have n4_ := ZM (Kd.R_over' (v := (.slice (some ⟨go64, 0, none⟩) x153007_2.length co64)) (Zr HO162) (Kd.R_typed HO_153007.out) (by decide) hg); have n5_ := ZM ((by rw [hw]; exact below_set (HB.out) GB64.out : Below w.heap.size w w74)); clear HO_153006; clear HO_153007; clear BK141; clear BK152; clear HO162; clear HB; have HO_153006 := n0_; have HO_153007 := n1_; have BK141 := n2_; have BK152 := n3_; have HO162 := n4_; have HB := n5_; clear n0_ n1_ n2_ n3_ n4_ n5_; clear hg hw hp_
    refine hK.out _ _ ?_
    clear hK K
    refine done_ (done_of HT_.out (by kernel_rfl)) ?_
    try go_wp2
    go_roundg k2
    case measure => have := HJ5.out; have := HK2.out; omega
    case rel => exact ⟨(wrap64 (x57_2 + 1)), (x142000_2), (x142001_2), (x142004_2), (x142005_2), (y167), (y168), (.slice (some ⟨go62, 0, none⟩) x153006_2.length co62), (.slice (some ⟨go64, 0, none⟩) x153007_2.length co64), Z5, H', ⟨by have := HJ5.out; have := HK2.out; omega⟩, ⟨by (with_reducible repeat (first | apply rrA | apply rrN | apply rrD)); exact HO_153006.out⟩, ⟨by (with_reducible repeat (first | apply rrA | apply rrN | apply rrD)); exact HO_153007.out⟩, ⟨by (with_reducible repeat (first | refine kkN ?_ _ | refine kkD ?_ | refine kkA ?_ _)); exact BK141.out⟩, ⟨by (with_reducible repeat (first | refine kkN ?_ _ | refine kkD ?_ | refine kkA ?_ _)); exact BK152.out⟩, ⟨by repeat (first | (with_reducible first | exact HB.out | apply zzA | apply zzN | apply zzD | refine below_set ?_ GE141.out | refine below_set ?_ GE152.out) | exact HB.out)⟩⟩
end Go.Proofs.Ytkfhdpnfcaghbaa.HQ
