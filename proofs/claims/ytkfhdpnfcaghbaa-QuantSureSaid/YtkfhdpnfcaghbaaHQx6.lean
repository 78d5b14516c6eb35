/- What Go functions do, each as a plain Lean function with the same answers, and the proof of it, in every world: printed by the session's driver over the kit's print, with texts by hand. -/
import Derived.Test.YtkfhdpnfcaghbaaHQx0
import Derived.Test.YtkfhdpnfcaghbaaHQx1
import Derived.Test.YtkfhdpnfcaghbaaHQx3
import Derived.Test.YtkfhdpnfcaghbaaHQx4
import Derived.Test.YtkfhdpnfcaghbaaHQx5
namespace Go.Proofs.Ytkfhdpnfcaghbaa.HQ
open Go.RowKit Go.Proofs.YtkfhdpnfcaghbaaW.PrintWords Go.Proofs.YtkfhdpnfcaghbaaW.PrintLast Go.Proofs.YtkfhdpnfcaghbaaW.PrintMore
attribute [local go_sem] max2_int min2_int max_two min_two max_three min_three max_four min_four   -- for this text's walks alone
open Go.Proofs.Ytkfhdpnfcaghbaa.Sp
attribute [local go_sem] Go.Proofs.Ytkfhdpnfcaghbaa.Sp.u64_not
set_option linter.unusedVariables false
set_option linter.unusedSimpArgs false

/-! ### quant_Press: function 46 -/
mutual
def quant_Press.j0 : Nat → List Int → Int → Int → List Int → Bool → Option (Int × Int × List Int × List Int × Int × Int × List Int × List Bool × Int)
 | 0, _, _, _, _, _ => none
 | k + 1, x0, x1, x2, x3, x33 => if x33 = true then (some (0, 0, ([] : List Int), ([] : List Int), 0, 0, ([] : List Int), ([] : List Bool), 1)) else ((vec_Most.f x0).bind fun bt129 => (if bt129.2 = 0 then (if 0 ≤ (x0.length : Int) then (if ((x0.length : Int) : Int).toNat ≤ 35184372088832 then (if ((x0.length : Int) : Int).toNat ≤ 281474976710656 then (quant_Press.l0 k x1 x2 x3 bt129.1 x0 (x0.length : Int) 0 2 (x0.length : Int) bt129.1 x1 (List.replicate ((x0.length : Int) : Int).toNat 0) (List.replicate ((x0.length : Int) : Int).toNat false)) else (none)) else (none)) else (none)) else (some (0, 0, ([] : List Int), ([] : List Int), 0, 0, ([] : List Int), ([] : List Bool), bt129.2))))
def quant_Press.l0 : Nat → Int → Int → List Int → Int → List Int → Int → Int → Int → Int → Int → Int → List Int → List Bool → Option (Int × Int × List Int × List Int × Int × Int × List Int × List Bool × Int)
 | 0, _, _, _, _, _, _, _, _, _, _, _, _, _ => none
 | k + 1, x1, x2, x3, x12, x55, x56, x57, x138000, x138001, x138004, x138005, x138006, x138007 => if x57 < x56 then (if 0 ≤ x57 then (if x57 < (x55.length : Int) then ((quant_Level.f (rd x55 x57) x12 x1).bind fun bt139 => (if bt139.2.2 = 0 then (if bt139.2.1 > 0 then ((slices_Clone_int_int.f x3).bind fun t142 => (if t142.length < 17592186044416 then ((draw_Chance.f k bt139.2.1 (IntKind.u64.wrap (x12)) x2 (t142 ++ [x57])).bind fun bt148 => (if bt148.2 = 0 then (if bt148.1 = true then (if x57 < (x138006.length : Int) then (if x57 < (x138007.length : Int) then (quant_Press.l0 k x1 x2 x3 x12 x55 x56 (wrap64 (x57 + 1)) x138000 x138001 x138004 x138005 (x138006.set (x57 : Int).toNat (IntKind.u64.wrap (bt139.1 + 1))) (x138007.set (x57 : Int).toNat (decide ((rd x55 x57) < 0)))) else (none)) else (none)) else (if x57 < (x138006.length : Int) then (if x57 < (x138007.length : Int) then (quant_Press.l0 k x1 x2 x3 x12 x55 x56 (wrap64 (x57 + 1)) x138000 x138001 x138004 x138005 (x138006.set (x57 : Int).toNat bt139.1) (x138007.set (x57 : Int).toNat (decide ((rd x55 x57) < 0)))) else (none)) else (none))) else (some (0, 0, ([] : List Int), ([] : List Int), 0, 0, ([] : List Int), ([] : List Bool), bt148.2)))) else (none))) else (if x57 < (x138006.length : Int) then (if x57 < (x138007.length : Int) then (quant_Press.l0 k x1 x2 x3 x12 x55 x56 (wrap64 (x57 + 1)) x138000 x138001 x138004 x138005 (x138006.set (x57 : Int).toNat bt139.1) (x138007.set (x57 : Int).toNat (decide ((rd x55 x57) < 0)))) else (none)) else (none))) else (some (0, 0, ([] : List Int), ([] : List Int), 0, 0, ([] : List Int), ([] : List Bool), bt139.2.2)))) else (none)) else (none)) else (some (x138000, x138001, ([] : List Int), ([] : List Int), x138004, x138005, x138006, x138007, 0))
end
def quant_Press.f (k : Nat) (l0 : List Int) (a1 : Int) (a2 : Int) (l3 : List Int) : Option (Int × Int × List Int × List Int × Int × Int × List Int × List Bool × Int) := (quant_Steps.f a1).bind fun bt127 => (if bt127.2 = 0 then (quant_Press.j0 k l0 a1 a2 l3 ((l0.length : Int) == 0)) else (quant_Press.j0 k l0 a1 a2 l3 true))
theorem quant_Press.mono_l : ∀ k, (∀ y0 y1 y2 y3 y4, LeO (quant_Press.j0 k y0 y1 y2 y3 y4) (quant_Press.j0 (k + 1) y0 y1 y2 y3 y4)) ∧ (∀ y0 y1 y2 y3 y4 y5 y6 y7 y8 y9 y10 y11 y12, LeO (quant_Press.l0 k y0 y1 y2 y3 y4 y5 y6 y7 y8 y9 y10 y11 y12) (quant_Press.l0 (k + 1) y0 y1 y2 y3 y4 y5 y6 y7 y8 y9 y10 y11 y12))
 | 0 => ⟨fun _ _ _ _ _ r h => by simp [quant_Press.j0] at h, fun _ _ _ _ _ _ _ _ _ _ _ _ _ r h => by simp [quant_Press.l0] at h⟩
 | k + 1 => by
  obtain ⟨ih0, ih1⟩ := quant_Press.mono_l k
  refine ⟨?_, ?_⟩
  ·
   intro y0 y1 y2 y3 y4
   unfold quant_Press.j0
   repeat' first
   | (with_reducible exact ih0 _ _ _ _ _)
   | (with_reducible exact ih1 _ _ _ _ _ _ _ _ _ _ _ _ _)
   | (with_reducible exact draw_Chance.mono _ _ _ _ _)
   | (with_reducible exact LeO.refl _)
   | (with_reducible exact LeO.none _)
   | (with_reducible refine LeO.ite ?_ ?_)
   | (with_reducible refine LeO.bind ?_ (fun _ => ?_))
   | exact ih0 _ _ _ _ _
   | exact ih1 _ _ _ _ _ _ _ _ _ _ _ _ _
   | exact draw_Chance.mono _ _ _ _ _
   | exact LeO.none _
   | refine LeO.ite ?_ ?_
   | refine LeO.bind ?_ (fun _ => ?_)
  ·
   intro y0 y1 y2 y3 y4 y5 y6 y7 y8 y9 y10 y11 y12
   unfold quant_Press.l0
   repeat' first
   | (with_reducible exact ih0 _ _ _ _ _)
   | (with_reducible exact ih1 _ _ _ _ _ _ _ _ _ _ _ _ _)
   | (with_reducible exact draw_Chance.mono _ _ _ _ _)
   | (with_reducible exact LeO.refl _)
   | (with_reducible exact LeO.none _)
   | (with_reducible refine LeO.ite ?_ ?_)
   | (with_reducible refine LeO.bind ?_ (fun _ => ?_))
   | exact ih0 _ _ _ _ _
   | exact ih1 _ _ _ _ _ _ _ _ _ _ _ _ _
   | exact draw_Chance.mono _ _ _ _ _
   | exact LeO.none _
   | refine LeO.ite ?_ ?_
   | refine LeO.bind ?_ (fun _ => ?_)
theorem quant_Press.mono : ∀ a0 a1 a2 a3 k, LeO (quant_Press.f k a0 a1 a2 a3) (quant_Press.f (k + 1) a0 a1 a2 a3) := by
 intro a0 a1 a2 a3 k
 obtain ⟨ih0, ih1⟩ := quant_Press.mono_l k
 unfold quant_Press.f
 repeat' first
   | (with_reducible exact ih0 _ _ _ _ _)
   | (with_reducible exact ih1 _ _ _ _ _ _ _ _ _ _ _ _ _)
   | (with_reducible exact draw_Chance.mono _ _ _ _ _)
   | (with_reducible exact LeO.refl _)
   | (with_reducible exact LeO.none _)
   | (with_reducible refine LeO.ite ?_ ?_)
   | (with_reducible refine LeO.bind ?_ (fun _ => ?_))
   | exact ih0 _ _ _ _ _
   | exact ih1 _ _ _ _ _ _ _ _ _ _ _ _ _
   | exact draw_Chance.mono _ _ _ _ _
   | exact LeO.none _
   | refine LeO.ite ?_ ?_
   | refine LeO.bind ?_ (fun _ => ?_)
def quant_Press.T7 : Bool × List (List Nat × List Nat) := (true, [([], []), ([0], [0]), ([], []), ([], []), ([], []), ([4], [4]), ([5, 5], [5]), ([], []), ([7], [7]), ([8, 8], [8]), ([1, 2, 3, 6, 9], [1, 2, 3, 6, 9]), ([], []), ([11, 10, 0, 1, 2, 3, 4, 5, 6, 7, 8, 9, 10, 11], [10, 11])])
def quant_Press.B7 : List Nat := [0, 1, 0, 0, 0, 16, 48, 0, 128, 384, 1023, 0, 4095]
theorem quant_Press.tab7 : rtab .any (opsOf Try.f46 7) = quant_Press.T7 := by kernel_rfl
theorem quant_Press.bits7 : waitsOk quant_Press.T7.2 quant_Press.B7 = true := by kernel_rfl
def quant_Press.T20 : Bool × List (List Nat × List Nat) := (true, [([], []), ([0], [0]), ([], []), ([], []), ([3], [3]), ([], []), ([], []), ([], []), ([7], [7]), ([1, 2, 0, 1, 2, 6], [1, 2]), ([9, 6, 0, 1, 2, 6], [6, 9]), ([4, 5, 0, 1, 2, 3, 4, 5, 6, 7, 8, 9, 10], [4, 5]), ([11, 8, 10, 0, 1, 2, 3, 4, 5, 6, 7, 8, 9, 10], [8, 11])])
def quant_Press.B20 : List Nat := [0, 1, 0, 0, 8, 0, 0, 0, 128, 71, 583, 2047, 4095]
theorem quant_Press.tab20 : rtab .any (opsOf Try.f46 20) = quant_Press.T20 := by kernel_rfl
theorem quant_Press.bits20 : waitsOk quant_Press.T20.2 quant_Press.B20 = true := by kernel_rfl
set_option maxHeartbeats 8000000 in
set_option maxRecDepth 100000 in
theorem quant_Press.calls (k : Nat) (A0 : Option Addr) (c0 : Nat) (l0 : List Int) (a1 : Int) (a2 : Int) (A3 : Option Addr) (c3 : Nat) (l3 : List Int) (r1 : Int) (r2 : Int) (r3 : List Int) (r4 : List Int) (r5 : Int) (r6 : Int) (r7 : List Int) (r8 : List Bool) (r9 : Int) (w : World) (hr0 : Kd.C (Kd.int .i64) w A0 l0.length l0) (hc0 : l0.length ≤ c0) (hr3 : Kd.C (Kd.int .i64) w A3 l3.length l3) (hc3 : l3.length ≤ c3) (h : quant_Press.f k l0 a1 a2 l3 = some (r1, r2, r3, r4, r5, r6, r7, r8, r9)) :
  Calls Try.prog 46 #[.slice A0 l0.length c0, .int .i64 a1, .int .u64 a2, .slice A3 l3.length c3] w fun e w' => ∃ v2_ v3_ v6_ v7_ : Value, e = .returned (.tuple #[.agg #[.int .i64 r1, .int .i64 r2, v2_, v3_, .int .i64 r5, .int .i64 r6, v6_, v7_], .int .i64 r9]) ∧ Kd.R (Kd.int .i64) 3 w' w.heap.size (fun _ => True) v2_ r3 ∧ Kd.R (Kd.int .i64) 2 w' w.heap.size (fun _ => True) v3_ r4 ∧ Kd.R (Kd.int .u64) 64 w' w.heap.size (fun _ => True) v6_ r7 ∧ Kd.R Kd.bool 4 w' w.heap.size (fun _ => True) v7_ r8 ∧ Below w.heap.size w w' := by
 have hu30 := Try.underlying30
 have HR0 := Aside0.mk hr0
 have HC0 := Aside0.mk hc0
 clear hr0 hc0
 have HR3 := Aside0.mk hr3
 have HC3 := Aside0.mk hc3
 clear hr3 hc3
 have HB := Aside0.mk (Below.refl w.heap.size w)
 have H : ((quant_Steps.f a1).bind fun bt127 => (if bt127.2 = 0 then (quant_Press.j0 k l0 a1 a2 l3 ((l0.length : Int) == 0)) else (quant_Press.j0 k l0 a1 a2 l3 true))) = some (r1, r2, r3, r4, r5, r6, r7, r8, r9) := h
 clear h
 replace H := Option.bind_eq_some_iff.mp H
 obtain ⟨⟨t127, t128⟩, A50, H⟩ := H
 replace H : (if t128 = 0 then (quant_Press.j0 k l0 a1 a2 l3 ((l0.length : Int) == 0)) else (quant_Press.j0 k l0 a1 a2 l3 true)) = some (r1, r2, r3, r4, r5, r6, r7, r8, r9) := H
 have A5 := Aside0.mk A50
 clear A50
 have HC6 := Aside0.mk H
 clear H
 go_enter Try.func46, Try.ntmps46
 go_upto_region 2 with (first | ((with_reducible refine gate_dst (N := 8) rfl ?_); (try (refine gate_guard (by rfl) ?_; dsimp only)); refine box_event ?hg (N := 8) ?hd (cs := #[.int .i64 0, .int .i64 0, .slice none 0 0, .slice none 0 0, .int .i64 0, .int .i64 0, .slice none 0 0, .slice none 0 0]) (t := 30) ?hr ?_; (case hd => rfl); (case hg => rfl); (case hr => first | (go_simp; done) | (go_simp; rfl)); intro gb126 hg w7 hbox hb; have n0_ := Aside0.mk (zzT (by repeat (first | (with_reducible first | exact HB.out | apply zzA | apply zzN | apply zzD) | exact HB.out)) hb); have n1_ := Aside0.mk (hbox); have n2_ := Aside0.mk ((by rw [hg]; exact (zzS (by repeat (first | (with_reducible first | exact HB.out | apply zzA | apply zzN | apply zzD) | exact HB.out))) : w.heap.size ≤ gb126)); have n3_ := Aside0.mk ((by rw [hg]; exact (zzS (by repeat (first | (with_reducible first | exact HB.out | apply zzA | apply zzN | apply zzD) | exact HB.out))) : w.heap.size ≤ gb126)); clear HB; have HB := n0_; have BK126 := n1_; have GW126 := n2_; have GE126 := n3_; clear n0_ n1_ n2_ n3_; clear hb hbox hg) | ((with_reducible refine gate_callee (f := 51) rfl ?_); refine goesL_ (some 24) rfl rfl Try.func51 (by kernel_rfl) rfl #[.int .i64 a1] rfl (by (try simp only [List.map_toArray, List.map_cons, List.map_nil]); first | done | rfl | (simp only [List.length_drop, List.length_take]; rfl)) ?_; (with_reducible refine (quant_Steps.calls a1 t127 t128 _ A5.out).mono ?_); rintro e w' ⟨rfl, ⟨nd, rfl⟩⟩; refine ⟨_, rfl, ?_⟩))
 (try simp only [Act.put, List.setIfInBounds_toArray, List.set_cons_zero, List.set_cons_succ])
 go_cut [33] (fun v33 wc => ∃ (kq : Nat) (x33_5 : Bool), v33 = .bool x33_5 ∧ Aside0 (quant_Press.j0 kq l0 a1 a2 l3 x33_5 = some (r1, r2, r3, r4, r5, r6, r7, r8, r9)) ∧ Aside0 (kq ≤ k) ∧ Aside0 (wc.heap[gb126]? = some (.cells #[.int .i64 0, .int .i64 0, (.slice none 0 0), (.slice none 0 0), .int .i64 0, .int .i64 0, (.slice none 0 0), (.slice none 0 0)] 30 (0, 0))) ∧ Aside0 (Below w.heap.size w wc))
 case first =>
  have H := HC6.out
  clear HC6
  by_cases c8 : t128 = 0
  ·
   rw [if_pos c8] at H
   have c8b0 : (t128 == 0) = true := beq_iff_eq.mpr c8
   have c8b1 : (t128 != 0) = false := bne_eq_false_iff_eq.mpr c8
   clear c8
   (first | rw [c8b0] | (simp only [i64_w, i32_w]; rw [c8b0]) | skip)
   have H' := Aside0.mk H
   clear H
   go_wp2
   go_meet
   case rel => exact ⟨_, (((l0.length : Int) == 0)), (by first | rfl | (simp; done) | (simp [*]; done)), H', ⟨by first | omega | exact Nat.le_refl _⟩, ⟨by (with_reducible repeat (first | refine kkN ?_ _ | refine kkD ?_ | refine kkA ?_ _)); exact BK126.out⟩, ⟨by repeat (first | (with_reducible first | exact HB.out | apply zzA | apply zzN | apply zzD | refine below_set ?_ GE126.out) | exact HB.out)⟩⟩
  ·
   rw [if_neg c8] at H
   have c8b0 : (t128 == 0) = false := beq_eq_false_iff_ne.mpr c8
   have c8b1 : (t128 != 0) = true := bne_iff_ne.mpr c8
   (first | rw [c8b0] | (simp only [i64_w, i32_w]; rw [c8b0]) | skip)
   have H' := Aside0.mk H
   clear H
   go_wp2
   go_meet
   case rel => exact ⟨_, (true), (by first | rfl | (simp; done) | (simp [*]; done)), H', ⟨by first | omega | exact Nat.le_refl _⟩, ⟨by (with_reducible repeat (first | refine kkN ?_ _ | refine kkD ?_ | refine kkA ?_ _)); exact BK126.out⟩, ⟨by repeat (first | (with_reducible first | exact HB.out | apply zzA | apply zzN | apply zzD | refine below_set ?_ GE126.out) | exact HB.out)⟩⟩
 case rest =>
  clear HC6
  try clear p2
  try clear c3
  try clear c4
  try clear c5
  try clear c8
  try clear c8b0
  try clear c8b1
  obtain ⟨kq, x33_5, rfl, HA, HJ5, BK126, HB⟩ := hcut
  cases kq with
  | zero => exact absurd HA.out (by simp [quant_Press.j0])
  | succ kj5 =>
   have H := HA.out
   clear HA
   simp only [quant_Press.j0] at H
   by_cases c9 : x33_5 = true
   ·
    subst c9
    have H1 : (some (0, 0, ([] : List Int), ([] : List Int), 0, 0, ([] : List Int), ([] : List Bool), 1)) = some (r1, r2, r3, r4, r5, r6, r7, r8, r9) := by rw [if_pos rfl] at H; exact H
    clear H
    have H := H1
    clear H1
    simp only [Option.some.injEq, Prod.mk.injEq] at H
    obtain ⟨rfl, rfl, rfl, rfl, rfl, rfl, rfl, rfl, rfl⟩ := H
    have hcz10_0 : wc.cell? ⟨gb126, 0, none⟩ = some (.int .i64 0) := (blk_cell BK126.out 0).trans rfl
    have hcz10_1 : wc.cell? ⟨gb126, 1, none⟩ = some (.int .i64 0) := (blk_cell BK126.out 1).trans rfl
    have hcz10_2 : wc.cell? ⟨gb126, 2, none⟩ = some (.slice none 0 0) := (blk_cell BK126.out 2).trans rfl
    have hcz10_3 : wc.cell? ⟨gb126, 3, none⟩ = some (.slice none 0 0) := (blk_cell BK126.out 3).trans rfl
    have hcz10_4 : wc.cell? ⟨gb126, 4, none⟩ = some (.int .i64 0) := (blk_cell BK126.out 4).trans rfl
    have hcz10_5 : wc.cell? ⟨gb126, 5, none⟩ = some (.int .i64 0) := (blk_cell BK126.out 5).trans rfl
    have hcz10_6 : wc.cell? ⟨gb126, 6, none⟩ = some (.slice none 0 0) := (blk_cell BK126.out 6).trans rfl
    have hcz10_7 : wc.cell? ⟨gb126, 7, none⟩ = some (.slice none 0 0) := (blk_cell BK126.out 7).trans rfl
    have hfz10_0 := blk_frozen BK126.out 0
    have hfz10_1 := blk_frozen BK126.out 1
    have hfz10_2 := blk_frozen BK126.out 2
    have hfz10_3 := blk_frozen BK126.out 3
    have hfz10_4 := blk_frozen BK126.out 4
    have hfz10_5 := blk_frozen BK126.out 5
    have hfz10_6 := blk_frozen BK126.out 6
    have hfz10_7 := blk_frozen BK126.out 7
    go_wp2
    refine bodyPost_ret (results_ct rfl _ _ gb126 30 #[.int .i64 0, .int .i64 0, .slice none 0 0, .slice none 0 0, .int .i64 0, .int .i64 0, .slice none 0 0, .slice none 0 0] (0, 0) _ rfl (by (with_reducible repeat (first | refine kkN ?_ _ | refine kkD ?_ | refine kkA ?_ _)); refine blk_put (cs := #[.int .i64 0, .int .i64 0, .slice none 0 0, .slice none 0 0, .int .i64 0, .int .i64 0, .slice none 0 0, .slice none 0 0]) ?_ 7 _ rfl; (with_reducible repeat (first | refine kkN ?_ _ | refine kkD ?_ | refine kkA ?_ _)); refine blk_put (cs := #[.int .i64 0, .int .i64 0, .slice none 0 0, .slice none 0 0, .int .i64 0, .int .i64 0, .slice none 0 0, .slice none 0 0]) ?_ 6 _ rfl; (with_reducible repeat (first | refine kkN ?_ _ | refine kkD ?_ | refine kkA ?_ _)); refine blk_put (cs := #[.int .i64 0, .int .i64 0, .slice none 0 0, .slice none 0 0, .int .i64 0, .int .i64 0, .slice none 0 0, .slice none 0 0]) ?_ 5 _ rfl; (with_reducible repeat (first | refine kkN ?_ _ | refine kkD ?_ | refine kkA ?_ _)); refine blk_put (cs := #[.int .i64 0, .int .i64 0, .slice none 0 0, .slice none 0 0, .int .i64 0, .int .i64 0, .slice none 0 0, .slice none 0 0]) ?_ 4 _ rfl; (with_reducible repeat (first | refine kkN ?_ _ | refine kkD ?_ | refine kkA ?_ _)); refine blk_put (cs := #[.int .i64 0, .int .i64 0, .slice none 0 0, .slice none 0 0, .int .i64 0, .int .i64 0, .slice none 0 0, .slice none 0 0]) ?_ 3 _ rfl; (with_reducible repeat (first | refine kkN ?_ _ | refine kkD ?_ | refine kkA ?_ _)); refine blk_put (cs := #[.int .i64 0, .int .i64 0, .slice none 0 0, .slice none 0 0, .int .i64 0, .int .i64 0, .slice none 0 0, .slice none 0 0]) ?_ 2 _ rfl; (with_reducible repeat (first | refine kkN ?_ _ | refine kkD ?_ | refine kkA ?_ _)); refine blk_put (cs := #[.int .i64 0, .int .i64 0, .slice none 0 0, .slice none 0 0, .int .i64 0, .int .i64 0, .slice none 0 0, .slice none 0 0]) ?_ 1 _ rfl; (with_reducible repeat (first | refine kkN ?_ _ | refine kkD ?_ | refine kkA ?_ _)); refine blk_put (cs := #[.int .i64 0, .int .i64 0, .slice none 0 0, .slice none 0 0, .int .i64 0, .int .i64 0, .slice none 0 0, .slice none 0 0]) ?_ 0 _ rfl; (with_reducible repeat (first | refine kkN ?_ _ | refine kkD ?_ | refine kkA ?_ _)); exact BK126.out) Try.underlying30 rfl (by kernel_rfl)) rfl ?_
    exact ⟨_, _, _, _, by first | rfl | (simp [errW_none, errW_some] <;> rfl) | (simp [*, errW_none, errW_some] <;> rfl), by first | exact Kd.R_nil _ _ _ _ _ | exact Kd.N_nil _ _ _ _ _ | exact Kd.V_nil _ _ _ _ _ | exact Kd.Q_nil _ _ _ _ _ | exact Kd.S_nil _ _ _ _ _, by first | exact Kd.R_nil _ _ _ _ _ | exact Kd.N_nil _ _ _ _ _ | exact Kd.V_nil _ _ _ _ _ | exact Kd.Q_nil _ _ _ _ _ | exact Kd.S_nil _ _ _ _ _, by first | exact Kd.R_nil _ _ _ _ _ | exact Kd.N_nil _ _ _ _ _ | exact Kd.V_nil _ _ _ _ _ | exact Kd.Q_nil _ _ _ _ _ | exact Kd.S_nil _ _ _ _ _, by first | exact Kd.R_nil _ _ _ _ _ | exact Kd.N_nil _ _ _ _ _ | exact Kd.V_nil _ _ _ _ _ | exact Kd.Q_nil _ _ _ _ _ | exact Kd.S_nil _ _ _ _ _, by repeat (first | (with_reducible first | exact HB.out | apply zzA | apply zzN | apply zzD | refine below_set ?_ GE126.out) | exact HB.out)⟩
   ·
    replace c9 := Bool.eq_false_iff.mpr c9
    subst c9
    have H1 : ((vec_Most.f l0).bind fun bt129 => (if bt129.2 = 0 then (if 0 ≤ (l0.length : Int) then (if ((l0.length : Int) : Int).toNat ≤ 35184372088832 then (if ((l0.length : Int) : Int).toNat ≤ 281474976710656 then (quant_Press.l0 kj5 a1 a2 l3 bt129.1 l0 (l0.length : Int) 0 2 (l0.length : Int) bt129.1 a1 (List.replicate ((l0.length : Int) : Int).toNat 0) (List.replicate ((l0.length : Int) : Int).toNat false)) else (none)) else (none)) else (none)) else (some (0, 0, ([] : List Int), ([] : List Int), 0, 0, ([] : List Int), ([] : List Bool), bt129.2)))) = some (r1, r2, r3, r4, r5, r6, r7, r8, r9) := by rw [if_neg (show ¬ (false = true) by decide)] at H; exact H
    clear H
    have H := H1
    clear H1
    replace H := Option.bind_eq_some_iff.mp H
    obtain ⟨⟨t129, t130⟩, A110, H⟩ := H
    replace H : (if t130 = 0 then (if 0 ≤ (l0.length : Int) then (if ((l0.length : Int) : Int).toNat ≤ 35184372088832 then (if ((l0.length : Int) : Int).toNat ≤ 281474976710656 then (quant_Press.l0 kj5 a1 a2 l3 t129 l0 (l0.length : Int) 0 2 (l0.length : Int) t129 a1 (List.replicate ((l0.length : Int) : Int).toNat 0) (List.replicate ((l0.length : Int) : Int).toNat false)) else (none)) else (none)) else (none)) else (some (0, 0, ([] : List Int), ([] : List Int), 0, 0, ([] : List Int), ([] : List Bool), t130))) = some (r1, r2, r3, r4, r5, r6, r7, r8, r9) := H
    have A11 := Aside0.mk A110
    clear A110
    by_cases c12 : t130 = 0
    ·
     rw [if_pos c12] at H
     have c12b0 : (t130 == 0) = true := beq_iff_eq.mpr c12
     have c12b1 : (t130 != 0) = false := bne_eq_false_iff_eq.mpr c12
     clear c12
     by_cases c13 : 0 ≤ (l0.length : Int)
     ·
      rw [if_pos c13] at H
      have c13b0 := eq_true c13
      have c13b1 : decide (0 ≤ (l0.length : Int)) = true := decide_eq_true c13
      clear c13
      by_cases c14 : ((l0.length : Int) : Int).toNat ≤ 35184372088832
      ·
       rw [if_pos c14] at H
       have c14b0 := eq_true c14
       have c14b1 : decide (((l0.length : Int) : Int).toNat ≤ 35184372088832) = true := decide_eq_true c14
       clear c14
       obtain ⟨y131, hy131⟩ : ∃ y_ : List Int, y_ = (List.replicate ((l0.length : Int) : Int).toNat 0) := ⟨_, rfl⟩
       replace H : (if ((l0.length : Int) : Int).toNat ≤ 281474976710656 then (quant_Press.l0 kj5 a1 a2 l3 t129 l0 (l0.length : Int) 0 2 (l0.length : Int) t129 a1 y131 (List.replicate ((l0.length : Int) : Int).toNat false)) else (none)) = some (r1, r2, r3, r4, r5, r6, r7, r8, r9) := by first | (rw [hy131]; with_reducible exact H) | (have H2_ := (Option.bind_some _ _).symm.trans H; rw [hy131]; with_reducible exact H2_) | (have H2_ := (Option.bind_some _ _).symm.trans H; with_reducible exact H2_) | with_reducible exact H | (rw [hy131]; exact H) | exact H
       have Ny131 := Aside0.mk hy131
       clear hy131
       by_cases c15 : ((l0.length : Int) : Int).toNat ≤ 281474976710656
       ·
        rw [if_pos c15] at H
        have c15b0 := eq_true c15
        have c15b1 : decide (((l0.length : Int) : Int).toNat ≤ 281474976710656) = true := decide_eq_true c15
        clear c15
        obtain ⟨y134, hy134⟩ : ∃ y_ : List Bool, y_ = (List.replicate ((l0.length : Int) : Int).toNat false) := ⟨_, rfl⟩
        replace H : (quant_Press.l0 kj5 a1 a2 l3 t129 l0 (l0.length : Int) 0 2 (l0.length : Int) t129 a1 y131 y134) = some (r1, r2, r3, r4, r5, r6, r7, r8, r9) := by first | (rw [hy134]; with_reducible exact H) | (have H2_ := (Option.bind_some _ _).symm.trans H; rw [hy134]; with_reducible exact H2_) | (have H2_ := (Option.bind_some _ _).symm.trans H; with_reducible exact H2_) | with_reducible exact H | (rw [hy134]; exact H) | exact H
        have Ny134 := Aside0.mk hy134
        clear hy134
        have H' := Aside0.mk H
        clear H
        try go_wp2_with (first | ((with_reducible refine gate_callee (f := 65) rfl ?_); refine goesL_ (some 37) rfl rfl Try.func65 (by kernel_rfl) rfl #[.slice A0 l0.length c0] rfl (by (try simp only [List.map_toArray, List.map_cons, List.map_nil]); first | done | rfl | (simp only [List.length_drop, List.length_take]; rfl)) ?_; (with_reducible refine (vec_Most.calls _ _ l0 t129 t130 _ ?side1 ?side2 A11.out).mono ?_); (case side1 => repeat (first | exact (Kd.C_below HR0.out HB.out) | (with_reducible refine ccA ?_ _) | (with_reducible refine ccN ?_ _) | (with_reducible refine ccD ?_))); (case side2 => exact HC0.out); rintro e w16 ⟨rfl, hb⟩; refine ⟨_, rfl, ?_⟩; have n0_ := Aside0.mk (blk_below (g := gb126) (o := .cells #[.int .i64 0, .int .i64 0, .slice none 0 0, .slice none 0 0, .int .i64 0, .int .i64 0, .slice none 0 0, .slice none 0 0] 30 (0, 0)) (by (with_reducible repeat (first | refine kkN ?_ _ | refine kkD ?_ | refine kkA ?_ _)); exact BK126.out) hb); have n1_ := Aside0.mk (zzT (by repeat (first | (with_reducible first | exact HB.out | apply zzA | apply zzN | apply zzD | refine below_set ?_ GE126.out) | exact HB.out)) hb); clear BK126; clear HB; have BK126 := n0_; have HB := n1_; clear n0_ n1_; (try clear hb); (try clear hb2); (try clear hk); (try clear hi)))
        have n0_ := Aside0.mk (kkD BK126.out)
        have n1_ := Aside0.mk (zzD HB.out)
        clear BK126
        clear HB
        have BK126 := n0_
        have HB := n1_
        clear n0_ n1_
        refine start_ (n := 13) (S := fun w' => True) (ds := []) #[false, false, false, false, false, false, false, false, false, false, false, false, false] (by kernel_rfl) rfl rfl trivial (fun hHeld => ?_); refine with_tabW quant_Press.tab7 quant_Press.bits7 (fun HT_ HW_ => ?_)
        generalize w16.drew = w17 at BK126 HB hHeld ⊢
        refine pure_ (i := 0) (N := some 44) (v := ?_) (a' := ?_) #[true, false, false, false, false, false, false, false, false, false, false, false, false] rfl rfl (any_of HT_.out (by kernel_rfl)) (fun _ _ _ h => h) (Or.inl ⟨by rfl, ?_⟩) ?_ ?_
        rotate_left
        ·
         intro w'
         go_simp
         with_reducible rfl
        rotate_left
        ·
         simp only [Act.put, List.setIfInBounds_toArray, List.set_cons_zero, List.set_cons_succ, i64_w, i32_w]
         rfl
        refine pure_ (i := 1) (N := some 45) (v := ?_) (a' := ?_) #[true, true, false, false, false, false, false, false, false, false, false, false, false] rfl rfl (any_of HT_.out (by kernel_rfl)) (fun _ _ _ h => h) (Or.inl ⟨by rfl, ?_⟩) ?_ ?_
        rotate_left
        ·
         intro w'
         go_simp
         with_reducible rfl
        rotate_left
        ·
         simp only [Act.put, List.setIfInBounds_toArray, List.set_cons_zero, List.set_cons_succ, i64_w, i32_w]
         rfl
        refine pure_ (i := 2) (N := some 46) (v := ?_) (a' := ?_) #[true, true, true, false, false, false, false, false, false, false, false, false, false] rfl rfl (any_of HT_.out (by kernel_rfl)) (fun _ _ _ h => h) (Or.inl ⟨by rfl, ?_⟩) ?_ ?_
        rotate_left
        ·
         intro w'
         go_simp
         with_reducible rfl
        rotate_left
        ·
         simp only [Act.put, List.setIfInBounds_toArray, List.set_cons_zero, List.set_cons_succ, i64_w, i32_w]
         rfl
        refine pure_ (i := 3) (N := some 47) (v := ?_) (a' := ?_) #[true, true, true, true, false, false, false, false, false, false, false, false, false] rfl rfl (any_of HT_.out (by kernel_rfl)) (fun _ _ _ h => h) (Or.inl ⟨by rfl, ?_⟩) ?_ ?_
        rotate_left
        ·
         intro w'
         go_simp
         with_reducible rfl
        rotate_left
        ·
         simp only [Act.put, List.setIfInBounds_toArray, List.set_cons_zero, List.set_cons_succ, i64_w, i32_w]
         rfl
        refine pure_ (i := 4) (N := some 48) (v := ?_) (a' := ?_) #[true, true, true, true, true, false, false, false, false, false, false, false, false] rfl rfl (any_of HT_.out (by kernel_rfl)) (fun _ _ _ h => h) (Or.inl ⟨by rfl, ?_⟩) ?_ ?_
        rotate_left
        ·
         intro w'
         go_simp
         with_reducible rfl
        rotate_left
        ·
         simp only [Act.put, List.setIfInBounds_toArray, List.set_cons_zero, List.set_cons_succ, i64_w, i32_w]
         rfl
        refine pure_ (i := 5) (N := some 49) (v := ?_) (a' := ?_) #[true, true, true, true, true, true, false, false, false, false, false, false, false] rfl rfl (any_of HT_.out (by kernel_rfl)) (fun _ _ _ h => h) (Or.inl ⟨by rfl, ?_⟩) ?_ ?_
        rotate_left
        ·
         intro w'
         go_simp
         with_reducible rfl
        rotate_left
        ·
         simp only [Act.put, List.setIfInBounds_toArray, List.set_cons_zero, List.set_cons_succ, i64_w, i32_w]
         rfl
        refine pure_ (i := 7) (N := some 51) (v := ?_) (a' := ?_) #[true, true, true, true, true, true, false, true, false, false, false, false, false] rfl rfl (any_of HT_.out (by kernel_rfl)) (fun _ _ _ h => h) (Or.inl ⟨by rfl, ?_⟩) ?_ ?_
        rotate_left
        ·
         intro w'
         go_simp
         with_reducible rfl
        rotate_left
        ·
         simp only [Act.put, List.setIfInBounds_toArray, List.set_cons_zero, List.set_cons_succ, i64_w, i32_w]
         rfl
        refine pure_ (i := 8) (N := some 52) (v := ?_) (a' := ?_) #[true, true, true, true, true, true, false, true, true, false, false, false, false] rfl rfl (any_of HT_.out (by kernel_rfl)) (fun _ _ _ h => h) (Or.inl ⟨by rfl, ?_⟩) ?_ ?_
        rotate_left
        ·
         intro w'
         go_simp
         with_reducible rfl
        rotate_left
        ·
         simp only [Act.put, List.setIfInBounds_toArray, List.set_cons_zero, List.set_cons_succ, i64_w, i32_w]
         rfl
        refine join_ (σ := Value × Value × Nat) 1 #[true, true, true, true, true, true, true, true, true, true, true, true, false] (fun s_ => [(50, s_.1), (53, s_.2.1), (14, .pointer (some ⟨s_.2.2, 0, none⟩)), (54, .agg #[.int .i64 2, .int .i64 (l0.length : Int), .slice none 0 0, .slice none 0 0, .int .i64 t129, .int .i64 a1, s_.1, s_.2.1])]) (fun s_ w' => (Kd.R (Kd.int .u64) 64 w' w.heap.size (fun _ => True) s_.1 y131) ∧ (Kd.R Kd.bool 4 w' w.heap.size (fun _ => True) s_.2.1 y134) ∧ (w'.heap[gb126]? = some (.cells #[.int .i64 0, .int .i64 0, .slice none 0 0, .slice none 0 0, .int .i64 0, .int .i64 0, .slice none 0 0, .slice none 0 0] 30 (0, 0))) ∧ (w'.heap[s_.2.2]? = some (.cells #[.int .i64 0, .int .i64 0, .slice none 0 0, .slice none 0 0, .int .i64 0, .int .i64 0, .slice none 0 0, .slice none 0 0] 30 (0, 0))) ∧ (w.heap.size ≤ s_.2.2) ∧ (w.heap.size ≤ s_.2.2) ∧ (gb126 ≠ s_.2.2) ∧ (s_.2.2 ≠ gb126) ∧ (Below w.heap.size w w')) ?_ ?_
        rotate_left
        ·
         intro hJ6_9_11
         refine join_ (σ := Value × Value) 2 #[true, true, true, true, true, true, true, true, true, true, true, false, false] (fun s_ => [(50, s_.1), (53, s_.2), (54, .agg #[.int .i64 2, .int .i64 (l0.length : Int), .slice none 0 0, .slice none 0 0, .int .i64 t129, .int .i64 a1, s_.1, s_.2])]) (fun s_ w' => (Kd.R (Kd.int .u64) 64 w' w.heap.size (fun _ => True) s_.1 y131) ∧ (Kd.R Kd.bool 4 w' w.heap.size (fun _ => True) s_.2 y134) ∧ (w'.heap[gb126]? = some (.cells #[.int .i64 0, .int .i64 0, .slice none 0 0, .slice none 0 0, .int .i64 0, .int .i64 0, .slice none 0 0, .slice none 0 0] 30 (0, 0))) ∧ (Below w.heap.size w w')) ?_ ?_
         rotate_left
         ·
          intro hJ6_9
          refine join_ (σ := Value × Nat) 3 #[true, true, true, true, true, true, true, true, true, false, false, true, false] (fun s_ => [(50, s_.1), (14, .pointer (some ⟨s_.2, 0, none⟩))]) (fun s_ w' => (Kd.R (Kd.int .u64) 64 w' w.heap.size (fun _ => True) s_.1 y131) ∧ (w'.heap[gb126]? = some (.cells #[.int .i64 0, .int .i64 0, .slice none 0 0, .slice none 0 0, .int .i64 0, .int .i64 0, .slice none 0 0, .slice none 0 0] 30 (0, 0))) ∧ (w'.heap[s_.2]? = some (.cells #[.int .i64 0, .int .i64 0, .slice none 0 0, .slice none 0 0, .int .i64 0, .int .i64 0, .slice none 0 0, .slice none 0 0] 30 (0, 0))) ∧ (w.heap.size ≤ s_.2) ∧ (w.heap.size ≤ s_.2) ∧ (gb126 ≠ s_.2) ∧ (s_.2 ≠ gb126) ∧ (Below w.heap.size w w')) ?_ ?_
          rotate_left
          ·
           intro hJ6_11
           refine join_ (σ := Value × Nat) 3 #[true, true, true, true, true, true, false, true, true, true, false, true, false] (fun s_ => [(53, s_.1), (14, .pointer (some ⟨s_.2, 0, none⟩))]) (fun s_ w' => (Kd.R Kd.bool 4 w' w.heap.size (fun _ => True) s_.1 y134) ∧ (w'.heap[gb126]? = some (.cells #[.int .i64 0, .int .i64 0, .slice none 0 0, .slice none 0 0, .int .i64 0, .int .i64 0, .slice none 0 0, .slice none 0 0] 30 (0, 0))) ∧ (w'.heap[s_.2]? = some (.cells #[.int .i64 0, .int .i64 0, .slice none 0 0, .slice none 0 0, .int .i64 0, .int .i64 0, .slice none 0 0, .slice none 0 0] 30 (0, 0))) ∧ (w.heap.size ≤ s_.2) ∧ (w.heap.size ≤ s_.2) ∧ (gb126 ≠ s_.2) ∧ (s_.2 ≠ gb126) ∧ (Below w.heap.size w w')) ?_ ?_
           rotate_left
           ·
            intro hJ9_11
            refine join_ (σ := Value) 4 #[true, true, true, true, true, true, true, true, true, false, false, false, false] (fun s_ => [(50, s_)]) (fun s_ w' => (Kd.R (Kd.int .u64) 64 w' w.heap.size (fun _ => True) s_ y131) ∧ (w'.heap[gb126]? = some (.cells #[.int .i64 0, .int .i64 0, .slice none 0 0, .slice none 0 0, .int .i64 0, .int .i64 0, .slice none 0 0, .slice none 0 0] 30 (0, 0))) ∧ (Below w.heap.size w w')) ?_ ?_
            rotate_left
            ·
             intro hJ6
             refine join_ (σ := Value) 4 #[true, true, true, true, true, true, false, true, true, true, false, false, false] (fun s_ => [(53, s_)]) (fun s_ w' => (Kd.R Kd.bool 4 w' w.heap.size (fun _ => True) s_ y134) ∧ (w'.heap[gb126]? = some (.cells #[.int .i64 0, .int .i64 0, .slice none 0 0, .slice none 0 0, .int .i64 0, .int .i64 0, .slice none 0 0, .slice none 0 0] 30 (0, 0))) ∧ (Below w.heap.size w w')) ?_ ?_
             rotate_left
             ·
              intro hJ9
              refine join_ (σ := Nat) 4 #[true, true, true, true, true, true, false, true, true, false, false, true, false] (fun s_ => [(14, .pointer (some ⟨s_, 0, none⟩))]) (fun s_ w' => (w'.heap[gb126]? = some (.cells #[.int .i64 0, .int .i64 0, .slice none 0 0, .slice none 0 0, .int .i64 0, .int .i64 0, .slice none 0 0, .slice none 0 0] 30 (0, 0))) ∧ (w'.heap[s_]? = some (.cells #[.int .i64 0, .int .i64 0, .slice none 0 0, .slice none 0 0, .int .i64 0, .int .i64 0, .slice none 0 0, .slice none 0 0] 30 (0, 0))) ∧ (w.heap.size ≤ s_) ∧ (w.heap.size ≤ s_) ∧ (gb126 ≠ s_) ∧ (s_ ≠ gb126) ∧ (Below w.heap.size w w')) ?_ ?_
              rotate_left
              ·
               intro hJ11
               refine three_ (i := 6) (j := 9) (k := 11) (Ni := some 50) (Nj := some 53) (Nk := some 14) #[true, true, true, true, true, true, true, true, true, false, false, false, false] #[true, true, true, true, true, true, false, true, true, true, false, false, false] #[true, true, true, true, true, true, false, true, true, false, false, true, false] rfl rfl rfl rfl rfl rfl (three_of HT_.out (by kernel_rfl)) (by decide) (by decide) (by decide) (fun K hK => ?_) (fun K hK => ?_) (fun K hK => ?_)
               ·
                skip
                refine Kd.R_make_step (Kd.int .u64) _ 64 (by rfl) (N := 50) rfl 28 _ _ rfl (l0.length : Int) rfl rfl Try.underlying28 (.int .u64 0) 8 info64 rfl (by decide) (by omega) 0 (ok := fun _ => True) (okp := fun _ => True) rfl (fun _ hk => hk) trivial (of_decide_eq_true (by first | (with_reducible assumption) | assumption)) (Nat.le_trans (Nat.mul_le_mul_right _ (of_decide_eq_true (by first | (with_reducible assumption) | assumption) : (l0.length : Int).toNat ≤ 35184372088832)) (by omega)) (Below.refl _ _) (Nat.le_refl _) ?_
                intro v132 w18 ho19 hb hg_ hnew_
                clear hg_ hnew_
                (first | rw [← Ny131.out] at ho19 | (simp only [Int.reduceToNat] at ho19; rw [← Ny131.out] at ho19))
                have n0_ := Aside0.mk (Kd.R_lower ho19 (zzS (by repeat (first | (with_reducible first | exact HB.out | apply zzA | apply zzN | apply zzD | refine below_set ?_ GE126.out) | exact HB.out))))
                have n1_ := Aside0.mk (blk_below (g := gb126) (o := .cells #[.int .i64 0, .int .i64 0, .slice none 0 0, .slice none 0 0, .int .i64 0, .int .i64 0, .slice none 0 0, .slice none 0 0] 30 (0, 0)) (by (with_reducible repeat (first | refine kkN ?_ _ | refine kkD ?_ | refine kkA ?_ _)); exact BK126.out) hb)
                have n2_ := Aside0.mk (zzT (by repeat (first | (with_reducible first | exact HB.out | apply zzA | apply zzN | apply zzD | refine below_set ?_ GE126.out) | exact HB.out)) hb)
                clear BK126
                clear HB
                have HO133 := n0_
                have BK126 := n1_
                have HB := n2_
                clear n0_ n1_ n2_
                clear hb ho19
                refine hK.out _ _ trivial (fun hHeld => ?_)
                clear hK K
                refine norm_ (a' := ?_) ?_ ?_
                rotate_left
                ·
                 show Act.put _ (some 50) _ = _
                 simp only [Act.put, List.setIfInBounds_toArray, List.set_cons_zero, List.set_cons_succ, i64_w, i32_w]
                 rfl
                exact norm_ (by first | (simp only [putAll, Act.put, List.setIfInBounds_toArray, List.set_cons_zero, List.set_cons_succ]; done) | (simp only [putAll, Act.put, List.setIfInBounds_toArray, List.set_cons_zero, List.set_cons_succ]; rfl)) (hJ6 (v132) _ ⟨(by (with_reducible repeat (first | apply rrA | apply rrN | apply rrD)); exact HO133.out), (by (with_reducible repeat (first | refine kkN ?_ _ | refine kkD ?_ | refine kkA ?_ _)); exact BK126.out), (by repeat (first | (with_reducible first | exact HB.out | apply zzA | apply zzN | apply zzD | refine below_set ?_ GE126.out) | exact HB.out))⟩)
               ·
                skip
                refine Kd.R_make_step Kd.bool _ 4 (by rfl) (N := 53) rfl 22 _ _ rfl (l0.length : Int) rfl rfl Try.underlying22 (.bool false) 1 info4 rfl (by decide) (by omega) false (ok := fun _ => True) (okp := fun _ => True) rfl (fun _ hk => hk) trivial (of_decide_eq_true (by first | (with_reducible assumption) | assumption)) (Nat.le_trans (Nat.mul_le_mul_right _ (of_decide_eq_true (by first | (with_reducible assumption) | assumption) : (l0.length : Int).toNat ≤ 281474976710656)) (by omega)) (Below.refl _ _) (Nat.le_refl _) ?_
                intro v135 w18 ho19 hb hg_ hnew_
                clear hg_ hnew_
                (first | rw [← Ny134.out] at ho19 | (simp only [Int.reduceToNat] at ho19; rw [← Ny134.out] at ho19))
                have n0_ := Aside0.mk (Kd.R_lower ho19 (zzS (by repeat (first | (with_reducible first | exact HB.out | apply zzA | apply zzN | apply zzD | refine below_set ?_ GE126.out) | exact HB.out))))
                have n1_ := Aside0.mk (blk_below (g := gb126) (o := .cells #[.int .i64 0, .int .i64 0, .slice none 0 0, .slice none 0 0, .int .i64 0, .int .i64 0, .slice none 0 0, .slice none 0 0] 30 (0, 0)) (by (with_reducible repeat (first | refine kkN ?_ _ | refine kkD ?_ | refine kkA ?_ _)); exact BK126.out) hb)
                have n2_ := Aside0.mk (zzT (by repeat (first | (with_reducible first | exact HB.out | apply zzA | apply zzN | apply zzD | refine below_set ?_ GE126.out) | exact HB.out)) hb)
                clear BK126
                clear HB
                have HO136 := n0_
                have BK126 := n1_
                have HB := n2_
                clear n0_ n1_ n2_
                clear hb ho19
                refine hK.out _ _ trivial (fun hHeld => ?_)
                clear hK K
                refine norm_ (a' := ?_) ?_ ?_
                rotate_left
                ·
                 show Act.put _ (some 53) _ = _
                 simp only [Act.put, List.setIfInBounds_toArray, List.set_cons_zero, List.set_cons_succ, i64_w, i32_w]
                 rfl
                exact norm_ (by first | (simp only [putAll, Act.put, List.setIfInBounds_toArray, List.set_cons_zero, List.set_cons_succ]; done) | (simp only [putAll, Act.put, List.setIfInBounds_toArray, List.set_cons_zero, List.set_cons_succ]; rfl)) (hJ9 (v135) _ ⟨(by (with_reducible repeat (first | apply rrA | apply rrN | apply rrD)); exact HO136.out), (by (with_reducible repeat (first | refine kkN ?_ _ | refine kkD ?_ | refine kkA ?_ _)); exact BK126.out), (by repeat (first | (with_reducible first | exact HB.out | apply zzA | apply zzN | apply zzD | refine below_set ?_ GE126.out) | exact HB.out))⟩)
               ·
                skip
                refine box_step ?hg (N := 14) ?hd (cs := #[.int .i64 0, .int .i64 0, .slice none 0 0, .slice none 0 0, .int .i64 0, .int .i64 0, .slice none 0 0, .slice none 0 0]) (t := 30) ?hr ?_; (case hd => rfl); (case hg => rfl); (case hr => first | (go_simp; done) | (go_simp; rfl))
                intro gb137 hg w18 hbox hb
                have n0_ := Aside0.mk (blk_below (g := gb126) (o := .cells #[.int .i64 0, .int .i64 0, .slice none 0 0, .slice none 0 0, .int .i64 0, .int .i64 0, .slice none 0 0, .slice none 0 0] 30 (0, 0)) (by (with_reducible repeat (first | refine kkN ?_ _ | refine kkD ?_ | refine kkA ?_ _)); exact BK126.out) hb)
                have n1_ := Aside0.mk (zzT (by repeat (first | (with_reducible first | exact HB.out | apply zzA | apply zzN | apply zzD | refine below_set ?_ GE126.out) | exact HB.out)) hb)
                have n2_ := Aside0.mk (hbox)
                have n3_ := Aside0.mk ((by rw [hg]; exact (zzS (by repeat (first | (with_reducible first | exact HB.out | apply zzA | apply zzN | apply zzD | refine below_set ?_ GE126.out) | exact HB.out))) : w.heap.size ≤ gb137))
                have n4_ := Aside0.mk ((by rw [hg]; exact (zzS (by repeat (first | (with_reducible first | exact HB.out | apply zzA | apply zzN | apply zzD | refine below_set ?_ GE126.out) | exact HB.out))) : w.heap.size ≤ gb137))
                have n5_ := Aside0.mk ((by rw [hg]; exact Nat.ne_of_lt (blk_lt (g := gb126) (o := .cells #[.int .i64 0, .int .i64 0, .slice none 0 0, .slice none 0 0, .int .i64 0, .int .i64 0, .slice none 0 0, .slice none 0 0] 30 (0, 0)) (by (with_reducible repeat (first | refine kkN ?_ _ | refine kkD ?_ | refine kkA ?_ _)); exact BK126.out)) : gb126 ≠ gb137))
                have n6_ := Aside0.mk ((by rw [hg]; exact Nat.ne_of_gt (blk_lt (g := gb126) (o := .cells #[.int .i64 0, .int .i64 0, .slice none 0 0, .slice none 0 0, .int .i64 0, .int .i64 0, .slice none 0 0, .slice none 0 0] 30 (0, 0)) (by (with_reducible repeat (first | refine kkN ?_ _ | refine kkD ?_ | refine kkA ?_ _)); exact BK126.out)) : gb137 ≠ gb126))
                clear BK126
                clear HB
                have BK126 := n0_
                have HB := n1_
                have BK137 := n2_
                have GW137 := n3_
                have GE137 := n4_
                have NB126_137 := n5_
                have NB137_126 := n6_
                clear n0_ n1_ n2_ n3_ n4_ n5_ n6_
                clear hb hbox hg
                refine hK.out _ _ trivial (fun hHeld => ?_)
                clear hK K
                refine norm_ (a' := ?_) ?_ ?_
                rotate_left
                ·
                 show Act.put _ (some 14) _ = _
                 simp only [Act.put, List.setIfInBounds_toArray, List.set_cons_zero, List.set_cons_succ, i64_w, i32_w]
                 rfl
                exact norm_ (by first | (simp only [putAll, Act.put, List.setIfInBounds_toArray, List.set_cons_zero, List.set_cons_succ]; done) | (simp only [putAll, Act.put, List.setIfInBounds_toArray, List.set_cons_zero, List.set_cons_succ]; rfl)) (hJ11 (gb137) _ ⟨(by (with_reducible repeat (first | refine kkN ?_ _ | refine kkD ?_ | refine kkA ?_ _)); exact BK126.out), (by (with_reducible repeat (first | refine kkN ?_ _ | refine kkD ?_ | refine kkA ?_ _)); exact BK137.out), GW137.out, GE137.out, NB126_137.out, NB137_126.out, (by repeat (first | (with_reducible first | exact HB.out | apply zzA | apply zzN | apply zzD | refine below_set ?_ GE126.out | refine below_set ?_ GE137.out) | exact HB.out))⟩)
              ·
               skip
               rintro gb137 w19 ⟨h0_, h1_, h2_, h3_, h4_, h5_, h6_⟩
               have n0_ : Aside0 (w19.heap[gb126]? = some (.cells #[.int .i64 0, .int .i64 0, .slice none 0 0, .slice none 0 0, .int .i64 0, .int .i64 0, .slice none 0 0, .slice none 0 0] 30 (0, 0))) := ⟨h0_⟩
               have n1_ : Aside0 (w19.heap[gb137]? = some (.cells #[.int .i64 0, .int .i64 0, .slice none 0 0, .slice none 0 0, .int .i64 0, .int .i64 0, .slice none 0 0, .slice none 0 0] 30 (0, 0))) := ⟨h1_⟩
               have n2_ : Aside0 (w.heap.size ≤ gb137) := ⟨h2_⟩
               have n3_ : Aside0 (w.heap.size ≤ gb137) := ⟨h3_⟩
               have n4_ : Aside0 (gb126 ≠ gb137) := ⟨h4_⟩
               have n5_ : Aside0 (gb137 ≠ gb126) := ⟨h5_⟩
               have n6_ : Aside0 (Below w.heap.size w w19) := ⟨h6_⟩
               clear BK126
               clear HB
               clear h0_ h1_ h2_ h3_ h4_ h5_ h6_
               have BK126 := n0_
               have BK137 := n1_
               have GW137 := n2_
               have GE137 := n3_
               have NB126_137 := n4_
               have NB137_126 := n5_
               have HB := n6_
               clear n0_ n1_ n2_ n3_ n4_ n5_ n6_
               have hHeld := trivial
               refine norm_ (a' := ?_) ?_ ?_
               rotate_left
               ·
                simp only [putAll, Act.put, List.setIfInBounds_toArray, List.set_cons_zero, List.set_cons_succ]
                rfl
               refine two_ (i := 6) (j := 9) (Ni := some 50) (Nj := some 53) #[true, true, true, true, true, true, true, true, true, false, false, true, false] #[true, true, true, true, true, true, false, true, true, true, false, true, false] rfl rfl rfl rfl (two_of HT_.out (by kernel_rfl)) (by decide) (by decide) (fun K hK => ?_) (fun K hK => ?_)
               ·
                skip
                refine Kd.R_make_step (Kd.int .u64) _ 64 (by rfl) (N := 50) rfl 28 _ _ rfl (l0.length : Int) rfl rfl Try.underlying28 (.int .u64 0) 8 info64 rfl (by decide) (by omega) 0 (ok := fun _ => True) (okp := fun _ => True) rfl (fun _ hk => hk) trivial (of_decide_eq_true (by first | (with_reducible assumption) | assumption)) (Nat.le_trans (Nat.mul_le_mul_right _ (of_decide_eq_true (by first | (with_reducible assumption) | assumption) : (l0.length : Int).toNat ≤ 35184372088832)) (by omega)) (Below.refl _ _) (Nat.le_refl _) ?_
                intro v132 w20 ho21 hb hg_ hnew_
                clear hg_ hnew_
                (first | rw [← Ny131.out] at ho21 | (simp only [Int.reduceToNat] at ho21; rw [← Ny131.out] at ho21))
                have n0_ := Aside0.mk (Kd.R_lower ho21 (zzS (by repeat (first | (with_reducible first | exact HB.out | apply zzA | apply zzN | apply zzD | refine below_set ?_ GE126.out | refine below_set ?_ GE137.out) | exact HB.out))))
                have n1_ := Aside0.mk (blk_below (g := gb126) (o := .cells #[.int .i64 0, .int .i64 0, .slice none 0 0, .slice none 0 0, .int .i64 0, .int .i64 0, .slice none 0 0, .slice none 0 0] 30 (0, 0)) (by (with_reducible repeat (first | refine kkN ?_ _ | refine kkD ?_ | refine kkA ?_ _)); exact BK126.out) hb)
                have n2_ := Aside0.mk (blk_below (g := gb137) (o := .cells #[.int .i64 0, .int .i64 0, .slice none 0 0, .slice none 0 0, .int .i64 0, .int .i64 0, .slice none 0 0, .slice none 0 0] 30 (0, 0)) (by (with_reducible repeat (first | refine kkN ?_ _ | refine kkD ?_ | refine kkA ?_ _)); exact BK137.out) hb)
                have n3_ := Aside0.mk (zzT (by repeat (first | (with_reducible first | exact HB.out | apply zzA | apply zzN | apply zzD | refine below_set ?_ GE126.out | refine below_set ?_ GE137.out) | exact HB.out)) hb)
                clear BK126
                clear BK137
                clear HB
                have HO133 := n0_
                have BK126 := n1_
                have BK137 := n2_
                have HB := n3_
                clear n0_ n1_ n2_ n3_
                clear hb ho21
                refine hK.out _ _ trivial (fun hHeld => ?_)
                clear hK K
                refine norm_ (a' := ?_) ?_ ?_
                rotate_left
                ·
                 show Act.put _ (some 50) _ = _
                 simp only [Act.put, List.setIfInBounds_toArray, List.set_cons_zero, List.set_cons_succ, i64_w, i32_w]
                 rfl
                exact norm_ (by first | (simp only [putAll, Act.put, List.setIfInBounds_toArray, List.set_cons_zero, List.set_cons_succ]; done) | (simp only [putAll, Act.put, List.setIfInBounds_toArray, List.set_cons_zero, List.set_cons_succ]; rfl)) (hJ6_11 (v132, gb137) _ ⟨(by (with_reducible repeat (first | apply rrA | apply rrN | apply rrD)); exact HO133.out), (by (with_reducible repeat (first | refine kkN ?_ _ | refine kkD ?_ | refine kkA ?_ _)); exact BK126.out), (by (with_reducible repeat (first | refine kkN ?_ _ | refine kkD ?_ | refine kkA ?_ _)); exact BK137.out), GW137.out, GE137.out, NB126_137.out, NB137_126.out, (by repeat (first | (with_reducible first | exact HB.out | apply zzA | apply zzN | apply zzD | refine below_set ?_ GE126.out | refine below_set ?_ GE137.out) | exact HB.out))⟩)
               ·
                skip
                refine Kd.R_make_step Kd.bool _ 4 (by rfl) (N := 53) rfl 22 _ _ rfl (l0.length : Int) rfl rfl Try.underlying22 (.bool false) 1 info4 rfl (by decide) (by omega) false (ok := fun _ => True) (okp := fun _ => True) rfl (fun _ hk => hk) trivial (of_decide_eq_true (by first | (with_reducible assumption) | assumption)) (Nat.le_trans (Nat.mul_le_mul_right _ (of_decide_eq_true (by first | (with_reducible assumption) | assumption) : (l0.length : Int).toNat ≤ 281474976710656)) (by omega)) (Below.refl _ _) (Nat.le_refl _) ?_
                intro v135 w20 ho21 hb hg_ hnew_
                clear hg_ hnew_
                (first | rw [← Ny134.out] at ho21 | (simp only [Int.reduceToNat] at ho21; rw [← Ny134.out] at ho21))
                have n0_ := Aside0.mk (Kd.R_lower ho21 (zzS (by repeat (first | (with_reducible first | exact HB.out | apply zzA | apply zzN | apply zzD | refine below_set ?_ GE126.out | refine below_set ?_ GE137.out) | exact HB.out))))
                have n1_ := Aside0.mk (blk_below (g := gb126) (o := .cells #[.int .i64 0, .int .i64 0, .slice none 0 0, .slice none 0 0, .int .i64 0, .int .i64 0, .slice none 0 0, .slice none 0 0] 30 (0, 0)) (by (with_reducible repeat (first | refine kkN ?_ _ | refine kkD ?_ | refine kkA ?_ _)); exact BK126.out) hb)
                have n2_ := Aside0.mk (blk_below (g := gb137) (o := .cells #[.int .i64 0, .int .i64 0, .slice none 0 0, .slice none 0 0, .int .i64 0, .int .i64 0, .slice none 0 0, .slice none 0 0] 30 (0, 0)) (by (with_reducible repeat (first | refine kkN ?_ _ | refine kkD ?_ | refine kkA ?_ _)); exact BK137.out) hb)
                have n3_ := Aside0.mk (zzT (by repeat (first | (with_reducible first | exact HB.out | apply zzA | apply zzN | apply zzD | refine below_set ?_ GE126.out | refine below_set ?_ GE137.out) | exact HB.out)) hb)
                clear BK126
                clear BK137
                clear HB
                have HO136 := n0_
                have BK126 := n1_
                have BK137 := n2_
                have HB := n3_
                clear n0_ n1_ n2_ n3_
                clear hb ho21
                refine hK.out _ _ trivial (fun hHeld => ?_)
                clear hK K
                refine norm_ (a' := ?_) ?_ ?_
                rotate_left
                ·
                 show Act.put _ (some 53) _ = _
                 simp only [Act.put, List.setIfInBounds_toArray, List.set_cons_zero, List.set_cons_succ, i64_w, i32_w]
                 rfl
                exact norm_ (by first | (simp only [putAll, Act.put, List.setIfInBounds_toArray, List.set_cons_zero, List.set_cons_succ]; done) | (simp only [putAll, Act.put, List.setIfInBounds_toArray, List.set_cons_zero, List.set_cons_succ]; rfl)) (hJ9_11 (v135, gb137) _ ⟨(by (with_reducible repeat (first | apply rrA | apply rrN | apply rrD)); exact HO136.out), (by (with_reducible repeat (first | refine kkN ?_ _ | refine kkD ?_ | refine kkA ?_ _)); exact BK126.out), (by (with_reducible repeat (first | refine kkN ?_ _ | refine kkD ?_ | refine kkA ?_ _)); exact BK137.out), GW137.out, GE137.out, NB126_137.out, NB137_126.out, (by repeat (first | (with_reducible first | exact HB.out | apply zzA | apply zzN | apply zzD | refine below_set ?_ GE126.out | refine below_set ?_ GE137.out) | exact HB.out))⟩)
             ·
              skip
              rintro v135 w20 ⟨h0_, h1_, h2_⟩
              have n0_ : Aside0 (Kd.R Kd.bool 4 w20 w.heap.size (fun _ => True) v135 y134) := ⟨h0_⟩
              have n1_ : Aside0 (w20.heap[gb126]? = some (.cells #[.int .i64 0, .int .i64 0, .slice none 0 0, .slice none 0 0, .int .i64 0, .int .i64 0, .slice none 0 0, .slice none 0 0] 30 (0, 0))) := ⟨h1_⟩
              have n2_ : Aside0 (Below w.heap.size w w20) := ⟨h2_⟩
              clear BK126
              clear HB
              clear h0_ h1_ h2_
              have HO136 := n0_
              have BK126 := n1_
              have HB := n2_
              clear n0_ n1_ n2_
              have hHeld := trivial
              refine norm_ (a' := ?_) ?_ ?_
              rotate_left
              ·
               simp only [putAll, Act.put, List.setIfInBounds_toArray, List.set_cons_zero, List.set_cons_succ]
               rfl
              refine two_ (i := 6) (j := 11) (Ni := some 50) (Nj := some 14) #[true, true, true, true, true, true, true, true, true, true, false, false, false] #[true, true, true, true, true, true, false, true, true, true, false, true, false] rfl rfl rfl rfl (two_of HT_.out (by kernel_rfl)) (by decide) (by decide) (fun K hK => ?_) (fun K hK => ?_)
              ·
               skip
               refine Kd.R_make_step (Kd.int .u64) _ 64 (by rfl) (N := 50) rfl 28 _ _ rfl (l0.length : Int) rfl rfl Try.underlying28 (.int .u64 0) 8 info64 rfl (by decide) (by omega) 0 (ok := fun _ => True) (okp := fun _ => True) rfl (fun _ hk => hk) trivial (of_decide_eq_true (by first | (with_reducible assumption) | assumption)) (Nat.le_trans (Nat.mul_le_mul_right _ (of_decide_eq_true (by first | (with_reducible assumption) | assumption) : (l0.length : Int).toNat ≤ 35184372088832)) (by omega)) (Below.refl _ _) (Nat.le_refl _) ?_
               intro v132 w21 ho22 hb hg_ hnew_
               clear hg_ hnew_
               (first | rw [← Ny131.out] at ho22 | (simp only [Int.reduceToNat] at ho22; rw [← Ny131.out] at ho22))
               have n0_ := Aside0.mk (Kd.R_below (by (with_reducible repeat (first | apply rrA | apply rrN | apply rrD)); exact HO136.out) hb)
               have n1_ := Aside0.mk (Kd.R_lower ho22 (zzS (by repeat (first | (with_reducible first | exact HB.out | apply zzA | apply zzN | apply zzD | refine below_set ?_ GE126.out) | exact HB.out))))
               have n2_ := Aside0.mk (blk_below (g := gb126) (o := .cells #[.int .i64 0, .int .i64 0, .slice none 0 0, .slice none 0 0, .int .i64 0, .int .i64 0, .slice none 0 0, .slice none 0 0] 30 (0, 0)) (by (with_reducible repeat (first | refine kkN ?_ _ | refine kkD ?_ | refine kkA ?_ _)); exact BK126.out) hb)
               have n3_ := Aside0.mk (zzT (by repeat (first | (with_reducible first | exact HB.out | apply zzA | apply zzN | apply zzD | refine below_set ?_ GE126.out) | exact HB.out)) hb)
               clear HO136
               clear BK126
               clear HB
               have HO136 := n0_
               have HO133 := n1_
               have BK126 := n2_
               have HB := n3_
               clear n0_ n1_ n2_ n3_
               clear hb ho22
               obtain ⟨Ao23, co23, eo23⟩ := Kd.R_slice HO136.out
               (first | subst eo23 | (injection eo23 with f1_ f2_ f3_; have f4_ := f1_.symm; have f5_ := f3_.symm; clear f1_ f2_ f3_; subst f4_; subst f5_))
               obtain ⟨Ao24, co24, eo24⟩ := Kd.R_slice HO133.out
               (first | subst eo24 | (injection eo24 with f1_ f2_ f3_; have f4_ := f1_.symm; have f5_ := f3_.symm; clear f1_ f2_ f3_; subst f4_; subst f5_))
               refine hK.out _ _ trivial (fun hHeld => ?_)
               clear hK K
               refine norm_ (a' := ?_) ?_ ?_
               rotate_left
               ·
                show Act.put _ (some 50) _ = _
                simp only [Act.put, List.setIfInBounds_toArray, List.set_cons_zero, List.set_cons_succ, i64_w, i32_w]
                rfl
               refine pure_ (i := 10) (N := some 54) (v := ?_) (a' := ?_) #[true, true, true, true, true, true, true, true, true, true, true, false, false] rfl rfl (any_of HT_.out (by kernel_rfl)) (fun _ _ _ h => h) (Or.inl ⟨by rfl, ?_⟩) ?_ ?_
               rotate_left
               ·
                intro w'
                go_simp
                with_reducible rfl
               rotate_left
               ·
                simp only [Act.put, List.setIfInBounds_toArray, List.set_cons_zero, List.set_cons_succ, i64_w, i32_w]
                rfl
               exact norm_ (by first | (simp only [putAll, Act.put, List.setIfInBounds_toArray, List.set_cons_zero, List.set_cons_succ]; done) | (simp only [putAll, Act.put, List.setIfInBounds_toArray, List.set_cons_zero, List.set_cons_succ]; rfl)) (hJ6_9 (.slice Ao24 y131.length co24, .slice Ao23 y134.length co23) _ ⟨(by (with_reducible repeat (first | apply rrA | apply rrN | apply rrD)); exact HO133.out), (by (with_reducible repeat (first | apply rrA | apply rrN | apply rrD)); exact HO136.out), (by (with_reducible repeat (first | refine kkN ?_ _ | refine kkD ?_ | refine kkA ?_ _)); exact BK126.out), (by repeat (first | (with_reducible first | exact HB.out | apply zzA | apply zzN | apply zzD | refine below_set ?_ GE126.out) | exact HB.out))⟩)
              ·
               skip
               refine box_step ?hg (N := 14) ?hd (cs := #[.int .i64 0, .int .i64 0, .slice none 0 0, .slice none 0 0, .int .i64 0, .int .i64 0, .slice none 0 0, .slice none 0 0]) (t := 30) ?hr ?_; (case hd => rfl); (case hg => rfl); (case hr => first | (go_simp; done) | (go_simp; rfl))
               intro gb137 hg w21 hbox hb
               have n0_ := Aside0.mk (Kd.R_below (by (with_reducible repeat (first | apply rrA | apply rrN | apply rrD)); exact HO136.out) hb)
               have n1_ := Aside0.mk (blk_below (g := gb126) (o := .cells #[.int .i64 0, .int .i64 0, .slice none 0 0, .slice none 0 0, .int .i64 0, .int .i64 0, .slice none 0 0, .slice none 0 0] 30 (0, 0)) (by (with_reducible repeat (first | refine kkN ?_ _ | refine kkD ?_ | refine kkA ?_ _)); exact BK126.out) hb)
               have n2_ := Aside0.mk (zzT (by repeat (first | (with_reducible first | exact HB.out | apply zzA | apply zzN | apply zzD | refine below_set ?_ GE126.out) | exact HB.out)) hb)
               have n3_ := Aside0.mk (hbox)
               have n4_ := Aside0.mk ((by rw [hg]; exact (zzS (by repeat (first | (with_reducible first | exact HB.out | apply zzA | apply zzN | apply zzD | refine below_set ?_ GE126.out) | exact HB.out))) : w.heap.size ≤ gb137))
               have n5_ := Aside0.mk ((by rw [hg]; exact (zzS (by repeat (first | (with_reducible first | exact HB.out | apply zzA | apply zzN | apply zzD | refine below_set ?_ GE126.out) | exact HB.out))) : w.heap.size ≤ gb137))
               have n6_ := Aside0.mk ((by rw [hg]; exact Nat.ne_of_lt (blk_lt (g := gb126) (o := .cells #[.int .i64 0, .int .i64 0, .slice none 0 0, .slice none 0 0, .int .i64 0, .int .i64 0, .slice none 0 0, .slice none 0 0] 30 (0, 0)) (by (with_reducible repeat (first | refine kkN ?_ _ | refine kkD ?_ | refine kkA ?_ _)); exact BK126.out)) : gb126 ≠ gb137))
               have n7_ := Aside0.mk ((by rw [hg]; exact Nat.ne_of_gt (blk_lt (g := gb126) (o := .cells #[.int .i64 0, .int .i64 0, .slice none 0 0, .slice none 0 0, .int .i64 0, .int .i64 0, .slice none 0 0, .slice none 0 0] 30 (0, 0)) (by (with_reducible repeat (first | refine kkN ?_ _ | refine kkD ?_ | refine kkA ?_ _)); exact BK126.out)) : gb137 ≠ gb126))
               clear HO136
               clear BK126
               clear HB
               have HO136 := n0_
               have BK126 := n1_
               have HB := n2_
               have BK137 := n3_
               have GW137 := n4_
               have GE137 := n5_
               have NB126_137 := n6_
               have NB137_126 := n7_
               clear n0_ n1_ n2_ n3_ n4_ n5_ n6_ n7_
               clear hb hbox hg
               refine hK.out _ _ trivial (fun hHeld => ?_)
               clear hK K
               refine norm_ (a' := ?_) ?_ ?_
               rotate_left
               ·
                show Act.put _ (some 14) _ = _
                simp only [Act.put, List.setIfInBounds_toArray, List.set_cons_zero, List.set_cons_succ, i64_w, i32_w]
                rfl
               exact norm_ (by first | (simp only [putAll, Act.put, List.setIfInBounds_toArray, List.set_cons_zero, List.set_cons_succ]; done) | (simp only [putAll, Act.put, List.setIfInBounds_toArray, List.set_cons_zero, List.set_cons_succ]; rfl)) (hJ9_11 (v135, gb137) _ ⟨(by (with_reducible repeat (first | apply rrA | apply rrN | apply rrD)); exact HO136.out), (by (with_reducible repeat (first | refine kkN ?_ _ | refine kkD ?_ | refine kkA ?_ _)); exact BK126.out), (by (with_reducible repeat (first | refine kkN ?_ _ | refine kkD ?_ | refine kkA ?_ _)); exact BK137.out), GW137.out, GE137.out, NB126_137.out, NB137_126.out, (by repeat (first | (with_reducible first | exact HB.out | apply zzA | apply zzN | apply zzD | refine below_set ?_ GE126.out | refine below_set ?_ GE137.out) | exact HB.out))⟩)
            ·
             skip
             rintro v132 w20 ⟨h0_, h1_, h2_⟩
             have n0_ : Aside0 (Kd.R (Kd.int .u64) 64 w20 w.heap.size (fun _ => True) v132 y131) := ⟨h0_⟩
             have n1_ : Aside0 (w20.heap[gb126]? = some (.cells #[.int .i64 0, .int .i64 0, .slice none 0 0, .slice none 0 0, .int .i64 0, .int .i64 0, .slice none 0 0, .slice none 0 0] 30 (0, 0))) := ⟨h1_⟩
             have n2_ : Aside0 (Below w.heap.size w w20) := ⟨h2_⟩
             clear BK126
             clear HB
             clear h0_ h1_ h2_
             have HO133 := n0_
             have BK126 := n1_
             have HB := n2_
             clear n0_ n1_ n2_
             have hHeld := trivial
             refine norm_ (a' := ?_) ?_ ?_
             rotate_left
             ·
              simp only [putAll, Act.put, List.setIfInBounds_toArray, List.set_cons_zero, List.set_cons_succ]
              rfl
             refine two_ (i := 9) (j := 11) (Ni := some 53) (Nj := some 14) #[true, true, true, true, true, true, true, true, true, true, false, false, false] #[true, true, true, true, true, true, true, true, true, false, false, true, false] rfl rfl rfl rfl (two_of HT_.out (by kernel_rfl)) (by decide) (by decide) (fun K hK => ?_) (fun K hK => ?_)
             ·
              skip
              refine Kd.R_make_step Kd.bool _ 4 (by rfl) (N := 53) rfl 22 _ _ rfl (l0.length : Int) rfl rfl Try.underlying22 (.bool false) 1 info4 rfl (by decide) (by omega) false (ok := fun _ => True) (okp := fun _ => True) rfl (fun _ hk => hk) trivial (of_decide_eq_true (by first | (with_reducible assumption) | assumption)) (Nat.le_trans (Nat.mul_le_mul_right _ (of_decide_eq_true (by first | (with_reducible assumption) | assumption) : (l0.length : Int).toNat ≤ 281474976710656)) (by omega)) (Below.refl _ _) (Nat.le_refl _) ?_
              intro v135 w21 ho22 hb hg_ hnew_
              clear hg_ hnew_
              (first | rw [← Ny134.out] at ho22 | (simp only [Int.reduceToNat] at ho22; rw [← Ny134.out] at ho22))
              have n0_ := Aside0.mk (Kd.R_below (by (with_reducible repeat (first | apply rrA | apply rrN | apply rrD)); exact HO133.out) hb)
              have n1_ := Aside0.mk (Kd.R_lower ho22 (zzS (by repeat (first | (with_reducible first | exact HB.out | apply zzA | apply zzN | apply zzD | refine below_set ?_ GE126.out) | exact HB.out))))
              have n2_ := Aside0.mk (blk_below (g := gb126) (o := .cells #[.int .i64 0, .int .i64 0, .slice none 0 0, .slice none 0 0, .int .i64 0, .int .i64 0, .slice none 0 0, .slice none 0 0] 30 (0, 0)) (by (with_reducible repeat (first | refine kkN ?_ _ | refine kkD ?_ | refine kkA ?_ _)); exact BK126.out) hb)
              have n3_ := Aside0.mk (zzT (by repeat (first | (with_reducible first | exact HB.out | apply zzA | apply zzN | apply zzD | refine below_set ?_ GE126.out) | exact HB.out)) hb)
              clear HO133
              clear BK126
              clear HB
              have HO133 := n0_
              have HO136 := n1_
              have BK126 := n2_
              have HB := n3_
              clear n0_ n1_ n2_ n3_
              clear hb ho22
              obtain ⟨Ao23, co23, eo23⟩ := Kd.R_slice HO136.out
              (first | subst eo23 | (injection eo23 with f1_ f2_ f3_; have f4_ := f1_.symm; have f5_ := f3_.symm; clear f1_ f2_ f3_; subst f4_; subst f5_))
              obtain ⟨Ao24, co24, eo24⟩ := Kd.R_slice HO133.out
              (first | subst eo24 | (injection eo24 with f1_ f2_ f3_; have f4_ := f1_.symm; have f5_ := f3_.symm; clear f1_ f2_ f3_; subst f4_; subst f5_))
              refine hK.out _ _ trivial (fun hHeld => ?_)
              clear hK K
              refine norm_ (a' := ?_) ?_ ?_
              rotate_left
              ·
               show Act.put _ (some 53) _ = _
               simp only [Act.put, List.setIfInBounds_toArray, List.set_cons_zero, List.set_cons_succ, i64_w, i32_w]
               rfl
              refine pure_ (i := 10) (N := some 54) (v := ?_) (a' := ?_) #[true, true, true, true, true, true, true, true, true, true, true, false, false] rfl rfl (any_of HT_.out (by kernel_rfl)) (fun _ _ _ h => h) (Or.inl ⟨by rfl, ?_⟩) ?_ ?_
              rotate_left
              ·
               intro w'
               go_simp
               with_reducible rfl
              rotate_left
              ·
               simp only [Act.put, List.setIfInBounds_toArray, List.set_cons_zero, List.set_cons_succ, i64_w, i32_w]
               rfl
              exact norm_ (by first | (simp only [putAll, Act.put, List.setIfInBounds_toArray, List.set_cons_zero, List.set_cons_succ]; done) | (simp only [putAll, Act.put, List.setIfInBounds_toArray, List.set_cons_zero, List.set_cons_succ]; rfl)) (hJ6_9 (.slice Ao24 y131.length co24, .slice Ao23 y134.length co23) _ ⟨(by (with_reducible repeat (first | apply rrA | apply rrN | apply rrD)); exact HO133.out), (by (with_reducible repeat (first | apply rrA | apply rrN | apply rrD)); exact HO136.out), (by (with_reducible repeat (first | refine kkN ?_ _ | refine kkD ?_ | refine kkA ?_ _)); exact BK126.out), (by repeat (first | (with_reducible first | exact HB.out | apply zzA | apply zzN | apply zzD | refine below_set ?_ GE126.out) | exact HB.out))⟩)
             ·
              skip
              refine box_step ?hg (N := 14) ?hd (cs := #[.int .i64 0, .int .i64 0, .slice none 0 0, .slice none 0 0, .int .i64 0, .int .i64 0, .slice none 0 0, .slice none 0 0]) (t := 30) ?hr ?_; (case hd => rfl); (case hg => rfl); (case hr => first | (go_simp; done) | (go_simp; rfl))
              intro gb137 hg w21 hbox hb
              have n0_ := Aside0.mk (Kd.R_below (by (with_reducible repeat (first | apply rrA | apply rrN | apply rrD)); exact HO133.out) hb)
              have n1_ := Aside0.mk (blk_below (g := gb126) (o := .cells #[.int .i64 0, .int .i64 0, .slice none 0 0, .slice none 0 0, .int .i64 0, .int .i64 0, .slice none 0 0, .slice none 0 0] 30 (0, 0)) (by (with_reducible repeat (first | refine kkN ?_ _ | refine kkD ?_ | refine kkA ?_ _)); exact BK126.out) hb)
              have n2_ := Aside0.mk (zzT (by repeat (first | (with_reducible first | exact HB.out | apply zzA | apply zzN | apply zzD | refine below_set ?_ GE126.out) | exact HB.out)) hb)
              have n3_ := Aside0.mk (hbox)
              have n4_ := Aside0.mk ((by rw [hg]; exact (zzS (by repeat (first | (with_reducible first | exact HB.out | apply zzA | apply zzN | apply zzD | refine below_set ?_ GE126.out) | exact HB.out))) : w.heap.size ≤ gb137))
              have n5_ := Aside0.mk ((by rw [hg]; exact (zzS (by repeat (first | (with_reducible first | exact HB.out | apply zzA | apply zzN | apply zzD | refine below_set ?_ GE126.out) | exact HB.out))) : w.heap.size ≤ gb137))
              have n6_ := Aside0.mk ((by rw [hg]; exact Nat.ne_of_lt (blk_lt (g := gb126) (o := .cells #[.int .i64 0, .int .i64 0, .slice none 0 0, .slice none 0 0, .int .i64 0, .int .i64 0, .slice none 0 0, .slice none 0 0] 30 (0, 0)) (by (with_reducible repeat (first | refine kkN ?_ _ | refine kkD ?_ | refine kkA ?_ _)); exact BK126.out)) : gb126 ≠ gb137))
              have n7_ := Aside0.mk ((by rw [hg]; exact Nat.ne_of_gt (blk_lt (g := gb126) (o := .cells #[.int .i64 0, .int .i64 0, .slice none 0 0, .slice none 0 0, .int .i64 0, .int .i64 0, .slice none 0 0, .slice none 0 0] 30 (0, 0)) (by (with_reducible repeat (first | refine kkN ?_ _ | refine kkD ?_ | refine kkA ?_ _)); exact BK126.out)) : gb137 ≠ gb126))
              clear HO133
              clear BK126
              clear HB
              have HO133 := n0_
              have BK126 := n1_
              have HB := n2_
              have BK137 := n3_
              have GW137 := n4_
              have GE137 := n5_
              have NB126_137 := n6_
              have NB137_126 := n7_
              clear n0_ n1_ n2_ n3_ n4_ n5_ n6_ n7_
              clear hb hbox hg
              refine hK.out _ _ trivial (fun hHeld => ?_)
              clear hK K
              refine norm_ (a' := ?_) ?_ ?_
              rotate_left
              ·
               show Act.put _ (some 14) _ = _
               simp only [Act.put, List.setIfInBounds_toArray, List.set_cons_zero, List.set_cons_succ, i64_w, i32_w]
               rfl
              exact norm_ (by first | (simp only [putAll, Act.put, List.setIfInBounds_toArray, List.set_cons_zero, List.set_cons_succ]; done) | (simp only [putAll, Act.put, List.setIfInBounds_toArray, List.set_cons_zero, List.set_cons_succ]; rfl)) (hJ6_11 (v132, gb137) _ ⟨(by (with_reducible repeat (first | apply rrA | apply rrN | apply rrD)); exact HO133.out), (by (with_reducible repeat (first | refine kkN ?_ _ | refine kkD ?_ | refine kkA ?_ _)); exact BK126.out), (by (with_reducible repeat (first | refine kkN ?_ _ | refine kkD ?_ | refine kkA ?_ _)); exact BK137.out), GW137.out, GE137.out, NB126_137.out, NB137_126.out, (by repeat (first | (with_reducible first | exact HB.out | apply zzA | apply zzN | apply zzD | refine below_set ?_ GE126.out | refine below_set ?_ GE137.out) | exact HB.out))⟩)
           ·
            skip
            rintro ⟨v135, gb137⟩ w21 ⟨h0_, h1_, h2_, h3_, h4_, h5_, h6_, h7_⟩
            have n0_ : Aside0 (Kd.R Kd.bool 4 w21 w.heap.size (fun _ => True) v135 y134) := ⟨h0_⟩
            have n1_ : Aside0 (w21.heap[gb126]? = some (.cells #[.int .i64 0, .int .i64 0, .slice none 0 0, .slice none 0 0, .int .i64 0, .int .i64 0, .slice none 0 0, .slice none 0 0] 30 (0, 0))) := ⟨h1_⟩
            have n2_ : Aside0 (w21.heap[gb137]? = some (.cells #[.int .i64 0, .int .i64 0, .slice none 0 0, .slice none 0 0, .int .i64 0, .int .i64 0, .slice none 0 0, .slice none 0 0] 30 (0, 0))) := ⟨h2_⟩
            have n3_ : Aside0 (w.heap.size ≤ gb137) := ⟨h3_⟩
            have n4_ : Aside0 (w.heap.size ≤ gb137) := ⟨h4_⟩
            have n5_ : Aside0 (gb126 ≠ gb137) := ⟨h5_⟩
            have n6_ : Aside0 (gb137 ≠ gb126) := ⟨h6_⟩
            have n7_ : Aside0 (Below w.heap.size w w21) := ⟨h7_⟩
            clear BK126
            clear HB
            clear h0_ h1_ h2_ h3_ h4_ h5_ h6_ h7_
            have HO136 := n0_
            have BK126 := n1_
            have BK137 := n2_
            have GW137 := n3_
            have GE137 := n4_
            have NB126_137 := n5_
            have NB137_126 := n6_
            have HB := n7_
            clear n0_ n1_ n2_ n3_ n4_ n5_ n6_ n7_
            have hHeld := trivial
            refine norm_ (a' := ?_) ?_ ?_
            rotate_left
            ·
             simp only [putAll, Act.put, List.setIfInBounds_toArray, List.set_cons_zero, List.set_cons_succ]
             rfl
            refine one_ (i := 6) (N := some 50) #[true, true, true, true, true, true, true, true, true, true, false, true, false] rfl rfl (one_of HT_.out (by kernel_rfl)) (by decide) (fun K hK => ?_)
            refine Kd.R_make_step (Kd.int .u64) _ 64 (by rfl) (N := 50) rfl 28 _ _ rfl (l0.length : Int) rfl rfl Try.underlying28 (.int .u64 0) 8 info64 rfl (by decide) (by omega) 0 (ok := fun _ => True) (okp := fun _ => True) rfl (fun _ hk => hk) trivial (of_decide_eq_true (by first | (with_reducible assumption) | assumption)) (Nat.le_trans (Nat.mul_le_mul_right _ (of_decide_eq_true (by first | (with_reducible assumption) | assumption) : (l0.length : Int).toNat ≤ 35184372088832)) (by omega)) (Below.refl _ _) (Nat.le_refl _) ?_
            intro v132 w22 ho23 hb hg_ hnew_
            clear hg_ hnew_
            (first | rw [← Ny131.out] at ho23 | (simp only [Int.reduceToNat] at ho23; rw [← Ny131.out] at ho23))
            have n0_ := Aside0.mk (Kd.R_below (by (with_reducible repeat (first | apply rrA | apply rrN | apply rrD)); exact HO136.out) hb)
            have n1_ := Aside0.mk (Kd.R_lower ho23 (zzS (by repeat (first | (with_reducible first | exact HB.out | apply zzA | apply zzN | apply zzD | refine below_set ?_ GE126.out | refine below_set ?_ GE137.out) | exact HB.out))))
            have n2_ := Aside0.mk (blk_below (g := gb126) (o := .cells #[.int .i64 0, .int .i64 0, .slice none 0 0, .slice none 0 0, .int .i64 0, .int .i64 0, .slice none 0 0, .slice none 0 0] 30 (0, 0)) (by (with_reducible repeat (first | refine kkN ?_ _ | refine kkD ?_ | refine kkA ?_ _)); exact BK126.out) hb)
            have n3_ := Aside0.mk (blk_below (g := gb137) (o := .cells #[.int .i64 0, .int .i64 0, .slice none 0 0, .slice none 0 0, .int .i64 0, .int .i64 0, .slice none 0 0, .slice none 0 0] 30 (0, 0)) (by (with_reducible repeat (first | refine kkN ?_ _ | refine kkD ?_ | refine kkA ?_ _)); exact BK137.out) hb)
            have n4_ := Aside0.mk (zzT (by repeat (first | (with_reducible first | exact HB.out | apply zzA | apply zzN | apply zzD | refine below_set ?_ GE126.out | refine below_set ?_ GE137.out) | exact HB.out)) hb)
            clear HO136
            clear BK126
            clear BK137
            clear HB
            have HO136 := n0_
            have HO133 := n1_
            have BK126 := n2_
            have BK137 := n3_
            have HB := n4_
            clear n0_ n1_ n2_ n3_ n4_
            clear hb ho23
            obtain ⟨Ao24, co24, eo24⟩ := Kd.R_slice HO136.out
            (first | subst eo24 | (injection eo24 with f1_ f2_ f3_; have f4_ := f1_.symm; have f5_ := f3_.symm; clear f1_ f2_ f3_; subst f4_; subst f5_))
            obtain ⟨Ao25, co25, eo25⟩ := Kd.R_slice HO133.out
            (first | subst eo25 | (injection eo25 with f1_ f2_ f3_; have f4_ := f1_.symm; have f5_ := f3_.symm; clear f1_ f2_ f3_; subst f4_; subst f5_))
            refine hK.out _ _ trivial (fun hHeld => ?_)
            clear hK K
            refine norm_ (a' := ?_) ?_ ?_
            rotate_left
            ·
             show Act.put _ (some 50) _ = _
             simp only [Act.put, List.setIfInBounds_toArray, List.set_cons_zero, List.set_cons_succ, i64_w, i32_w]
             rfl
            refine pure_ (i := 10) (N := some 54) (v := ?_) (a' := ?_) #[true, true, true, true, true, true, true, true, true, true, true, true, false] rfl rfl (any_of HT_.out (by kernel_rfl)) (fun _ _ _ h => h) (Or.inl ⟨by rfl, ?_⟩) ?_ ?_
            rotate_left
            ·
             intro w'
             go_simp
             with_reducible rfl
            rotate_left
            ·
             simp only [Act.put, List.setIfInBounds_toArray, List.set_cons_zero, List.set_cons_succ, i64_w, i32_w]
             rfl
            exact norm_ (by first | (simp only [putAll, Act.put, List.setIfInBounds_toArray, List.set_cons_zero, List.set_cons_succ]; done) | (simp only [putAll, Act.put, List.setIfInBounds_toArray, List.set_cons_zero, List.set_cons_succ]; rfl)) (hJ6_9_11 (.slice Ao25 y131.length co25, .slice Ao24 y134.length co24, gb137) _ ⟨(by (with_reducible repeat (first | apply rrA | apply rrN | apply rrD)); exact HO133.out), (by (with_reducible repeat (first | apply rrA | apply rrN | apply rrD)); exact HO136.out), (by (with_reducible repeat (first | refine kkN ?_ _ | refine kkD ?_ | refine kkA ?_ _)); exact BK126.out), (by (with_reducible repeat (first | refine kkN ?_ _ | refine kkD ?_ | refine kkA ?_ _)); exact BK137.out), GW137.out, GE137.out, NB126_137.out, NB137_126.out, (by repeat (first | (with_reducible first | exact HB.out | apply zzA | apply zzN | apply zzD | refine below_set ?_ GE126.out | refine below_set ?_ GE137.out) | exact HB.out))⟩)
          ·
           skip
           rintro ⟨v132, gb137⟩ w21 ⟨h0_, h1_, h2_, h3_, h4_, h5_, h6_, h7_⟩
           have n0_ : Aside0 (Kd.R (Kd.int .u64) 64 w21 w.heap.size (fun _ => True) v132 y131) := ⟨h0_⟩
           have n1_ : Aside0 (w21.heap[gb126]? = some (.cells #[.int .i64 0, .int .i64 0, .slice none 0 0, .slice none 0 0, .int .i64 0, .int .i64 0, .slice none 0 0, .slice none 0 0] 30 (0, 0))) := ⟨h1_⟩
           have n2_ : Aside0 (w21.heap[gb137]? = some (.cells #[.int .i64 0, .int .i64 0, .slice none 0 0, .slice none 0 0, .int .i64 0, .int .i64 0, .slice none 0 0, .slice none 0 0] 30 (0, 0))) := ⟨h2_⟩
           have n3_ : Aside0 (w.heap.size ≤ gb137) := ⟨h3_⟩
           have n4_ : Aside0 (w.heap.size ≤ gb137) := ⟨h4_⟩
           have n5_ : Aside0 (gb126 ≠ gb137) := ⟨h5_⟩
           have n6_ : Aside0 (gb137 ≠ gb126) := ⟨h6_⟩
           have n7_ : Aside0 (Below w.heap.size w w21) := ⟨h7_⟩
           clear BK126
           clear HB
           clear h0_ h1_ h2_ h3_ h4_ h5_ h6_ h7_
           have HO133 := n0_
           have BK126 := n1_
           have BK137 := n2_
           have GW137 := n3_
           have GE137 := n4_
           have NB126_137 := n5_
           have NB137_126 := n6_
           have HB := n7_
           clear n0_ n1_ n2_ n3_ n4_ n5_ n6_ n7_
           have hHeld := trivial
           refine norm_ (a' := ?_) ?_ ?_
           rotate_left
           ·
            simp only [putAll, Act.put, List.setIfInBounds_toArray, List.set_cons_zero, List.set_cons_succ]
            rfl
           refine one_ (i := 9) (N := some 53) #[true, true, true, true, true, true, true, true, true, true, false, true, false] rfl rfl (one_of HT_.out (by kernel_rfl)) (by decide) (fun K hK => ?_)
           refine Kd.R_make_step Kd.bool _ 4 (by rfl) (N := 53) rfl 22 _ _ rfl (l0.length : Int) rfl rfl Try.underlying22 (.bool false) 1 info4 rfl (by decide) (by omega) false (ok := fun _ => True) (okp := fun _ => True) rfl (fun _ hk => hk) trivial (of_decide_eq_true (by first | (with_reducible assumption) | assumption)) (Nat.le_trans (Nat.mul_le_mul_right _ (of_decide_eq_true (by first | (with_reducible assumption) | assumption) : (l0.length : Int).toNat ≤ 281474976710656)) (by omega)) (Below.refl _ _) (Nat.le_refl _) ?_
           intro v135 w22 ho23 hb hg_ hnew_
           clear hg_ hnew_
           (first | rw [← Ny134.out] at ho23 | (simp only [Int.reduceToNat] at ho23; rw [← Ny134.out] at ho23))
           have n0_ := Aside0.mk (Kd.R_below (by (with_reducible repeat (first | apply rrA | apply rrN | apply rrD)); exact HO133.out) hb)
           have n1_ := Aside0.mk (Kd.R_lower ho23 (zzS (by repeat (first | (with_reducible first | exact HB.out | apply zzA | apply zzN | apply zzD | refine below_set ?_ GE126.out | refine below_set ?_ GE137.out) | exact HB.out))))
           have n2_ := Aside0.mk (blk_below (g := gb126) (o := .cells #[.int .i64 0, .int .i64 0, .slice none 0 0, .slice none 0 0, .int .i64 0, .int .i64 0, .slice none 0 0, .slice none 0 0] 30 (0, 0)) (by (with_reducible repeat (first | refine kkN ?_ _ | refine kkD ?_ | refine kkA ?_ _)); exact BK126.out) hb)
           have n3_ := Aside0.mk (blk_below (g := gb137) (o := .cells #[.int .i64 0, .int .i64 0, .slice none 0 0, .slice none 0 0, .int .i64 0, .int .i64 0, .slice none 0 0, .slice none 0 0] 30 (0, 0)) (by (with_reducible repeat (first | refine kkN ?_ _ | refine kkD ?_ | refine kkA ?_ _)); exact BK137.out) hb)
           have n4_ := Aside0.mk (zzT (by repeat (first | (with_reducible first | exact HB.out | apply zzA | apply zzN | apply zzD | refine below_set ?_ GE126.out | refine below_set ?_ GE137.out) | exact HB.out)) hb)
           clear HO133
           clear BK126
           clear BK137
           clear HB
           have HO133 := n0_
           have HO136 := n1_
           have BK126 := n2_
           have BK137 := n3_
           have HB := n4_
           clear n0_ n1_ n2_ n3_ n4_
           clear hb ho23
           obtain ⟨Ao24, co24, eo24⟩ := Kd.R_slice HO136.out
           (first | subst eo24 | (injection eo24 with f1_ f2_ f3_; have f4_ := f1_.symm; have f5_ := f3_.symm; clear f1_ f2_ f3_; subst f4_; subst f5_))
           obtain ⟨Ao25, co25, eo25⟩ := Kd.R_slice HO133.out
           (first | subst eo25 | (injection eo25 with f1_ f2_ f3_; have f4_ := f1_.symm; have f5_ := f3_.symm; clear f1_ f2_ f3_; subst f4_; subst f5_))
           refine hK.out _ _ trivial (fun hHeld => ?_)
           clear hK K
           refine norm_ (a' := ?_) ?_ ?_
           rotate_left
           ·
            show Act.put _ (some 53) _ = _
            simp only [Act.put, List.setIfInBounds_toArray, List.set_cons_zero, List.set_cons_succ, i64_w, i32_w]
            rfl
           refine pure_ (i := 10) (N := some 54) (v := ?_) (a' := ?_) #[true, true, true, true, true, true, true, true, true, true, true, true, false] rfl rfl (any_of HT_.out (by kernel_rfl)) (fun _ _ _ h => h) (Or.inl ⟨by rfl, ?_⟩) ?_ ?_
           rotate_left
           ·
            intro w'
            go_simp
            with_reducible rfl
           rotate_left
           ·
            simp only [Act.put, List.setIfInBounds_toArray, List.set_cons_zero, List.set_cons_succ, i64_w, i32_w]
            rfl
           exact norm_ (by first | (simp only [putAll, Act.put, List.setIfInBounds_toArray, List.set_cons_zero, List.set_cons_succ]; done) | (simp only [putAll, Act.put, List.setIfInBounds_toArray, List.set_cons_zero, List.set_cons_succ]; rfl)) (hJ6_9_11 (.slice Ao25 y131.length co25, .slice Ao24 y134.length co24, gb137) _ ⟨(by (with_reducible repeat (first | apply rrA | apply rrN | apply rrD)); exact HO133.out), (by (with_reducible repeat (first | apply rrA | apply rrN | apply rrD)); exact HO136.out), (by (with_reducible repeat (first | refine kkN ?_ _ | refine kkD ?_ | refine kkA ?_ _)); exact BK126.out), (by (with_reducible repeat (first | refine kkN ?_ _ | refine kkD ?_ | refine kkA ?_ _)); exact BK137.out), GW137.out, GE137.out, NB126_137.out, NB137_126.out, (by repeat (first | (with_reducible first | exact HB.out | apply zzA | apply zzN | apply zzD | refine below_set ?_ GE126.out | refine below_set ?_ GE137.out) | exact HB.out))⟩)
         ·
          skip
          rintro ⟨v132, v135⟩ w24 ⟨h0_, h1_, h2_, h3_⟩
          have n0_ : Aside0 (Kd.R (Kd.int .u64) 64 w24 w.heap.size (fun _ => True) v132 y131) := ⟨h0_⟩
          have n1_ : Aside0 (Kd.R Kd.bool 4 w24 w.heap.size (fun _ => True) v135 y134) := ⟨h1_⟩
          have n2_ : Aside0 (w24.heap[gb126]? = some (.cells #[.int .i64 0, .int .i64 0, .slice none 0 0, .slice none 0 0, .int .i64 0, .int .i64 0, .slice none 0 0, .slice none 0 0] 30 (0, 0))) := ⟨h2_⟩
          have n3_ : Aside0 (Below w.heap.size w w24) := ⟨h3_⟩
          clear BK126
          clear HB
          clear h0_ h1_ h2_ h3_
          have HO133 := n0_
          have HO136 := n1_
          have BK126 := n2_
          have HB := n3_
          clear n0_ n1_ n2_ n3_
          have hHeld := trivial
          obtain ⟨Ao25, co25, eo25⟩ := Kd.R_slice HO136.out
          (first | subst eo25 | (injection eo25 with f1_ f2_ f3_; have f4_ := f1_.symm; have f5_ := f3_.symm; clear f1_ f2_ f3_; subst f4_; subst f5_))
          obtain ⟨Ao26, co26, eo26⟩ := Kd.R_slice HO133.out
          (first | subst eo26 | (injection eo26 with f1_ f2_ f3_; have f4_ := f1_.symm; have f5_ := f3_.symm; clear f1_ f2_ f3_; subst f4_; subst f5_))
          refine norm_ (a' := ?_) ?_ ?_
          rotate_left
          ·
           simp only [putAll, Act.put, List.setIfInBounds_toArray, List.set_cons_zero, List.set_cons_succ]
           rfl
          refine one_ (i := 11) (N := some 14) #[true, true, true, true, true, true, true, true, true, true, true, true, false] rfl rfl (one_of HT_.out (by kernel_rfl)) (by decide) (fun K hK => ?_)
          refine box_step ?hg (N := 14) ?hd (cs := #[.int .i64 0, .int .i64 0, .slice none 0 0, .slice none 0 0, .int .i64 0, .int .i64 0, .slice none 0 0, .slice none 0 0]) (t := 30) ?hr ?_; (case hd => rfl); (case hg => rfl); (case hr => first | (go_simp; done) | (go_simp; rfl))
          intro gb137 hg w27 hbox hb
          have n0_ := Aside0.mk (Kd.R_below (by (with_reducible repeat (first | apply rrA | apply rrN | apply rrD)); exact HO133.out) hb)
          have n1_ := Aside0.mk (Kd.R_below (by (with_reducible repeat (first | apply rrA | apply rrN | apply rrD)); exact HO136.out) hb)
          have n2_ := Aside0.mk (blk_below (g := gb126) (o := .cells #[.int .i64 0, .int .i64 0, .slice none 0 0, .slice none 0 0, .int .i64 0, .int .i64 0, .slice none 0 0, .slice none 0 0] 30 (0, 0)) (by (with_reducible repeat (first | refine kkN ?_ _ | refine kkD ?_ | refine kkA ?_ _)); exact BK126.out) hb)
          have n3_ := Aside0.mk (zzT (by repeat (first | (with_reducible first | exact HB.out | apply zzA | apply zzN | apply zzD | refine below_set ?_ GE126.out) | exact HB.out)) hb)
          have n4_ := Aside0.mk (hbox)
          have n5_ := Aside0.mk ((by rw [hg]; exact (zzS (by repeat (first | (with_reducible first | exact HB.out | apply zzA | apply zzN | apply zzD | refine below_set ?_ GE126.out) | exact HB.out))) : w.heap.size ≤ gb137))
          have n6_ := Aside0.mk ((by rw [hg]; exact (zzS (by repeat (first | (with_reducible first | exact HB.out | apply zzA | apply zzN | apply zzD | refine below_set ?_ GE126.out) | exact HB.out))) : w.heap.size ≤ gb137))
          have n7_ := Aside0.mk ((by rw [hg]; exact Nat.ne_of_lt (blk_lt (g := gb126) (o := .cells #[.int .i64 0, .int .i64 0, .slice none 0 0, .slice none 0 0, .int .i64 0, .int .i64 0, .slice none 0 0, .slice none 0 0] 30 (0, 0)) (by (with_reducible repeat (first | refine kkN ?_ _ | refine kkD ?_ | refine kkA ?_ _)); exact BK126.out)) : gb126 ≠ gb137))
          have n8_ := Aside0.mk ((by rw [hg]; exact Nat.ne_of_gt (blk_lt (g := gb126) (o := .cells #[.int .i64 0, .int .i64 0, .slice none 0 0, .slice none 0 0, .int .i64 0, .int .i64 0, .slice none 0 0, .slice none 0 0] 30 (0, 0)) (by (with_reducible repeat (first | refine kkN ?_ _ | refine kkD ?_ | refine kkA ?_ _)); exact BK126.out)) : gb137 ≠ gb126))
          clear HO133
          clear HO136
          clear BK126
          clear HB
          have HO133 := n0_
          have HO136 := n1_
          have BK126 := n2_
          have HB := n3_
          have BK137 := n4_
          have GW137 := n5_
          have GE137 := n6_
          have NB126_137 := n7_
          have NB137_126 := n8_
          clear n0_ n1_ n2_ n3_ n4_ n5_ n6_ n7_ n8_
          clear hb hbox hg
          refine hK.out _ _ trivial (fun hHeld => ?_)
          clear hK K
          refine norm_ (a' := ?_) ?_ ?_
          rotate_left
          ·
           show Act.put _ (some 14) _ = _
           simp only [Act.put, List.setIfInBounds_toArray, List.set_cons_zero, List.set_cons_succ, i64_w, i32_w]
           rfl
          exact norm_ (by first | (simp only [putAll, Act.put, List.setIfInBounds_toArray, List.set_cons_zero, List.set_cons_succ]; done) | (simp only [putAll, Act.put, List.setIfInBounds_toArray, List.set_cons_zero, List.set_cons_succ]; rfl)) (hJ6_9_11 (.slice Ao26 y131.length co26, .slice Ao25 y134.length co25, gb137) _ ⟨(by (with_reducible repeat (first | apply rrA | apply rrN | apply rrD)); exact HO133.out), (by (with_reducible repeat (first | apply rrA | apply rrN | apply rrD)); exact HO136.out), (by (with_reducible repeat (first | refine kkN ?_ _ | refine kkD ?_ | refine kkA ?_ _)); exact BK126.out), (by (with_reducible repeat (first | refine kkN ?_ _ | refine kkD ?_ | refine kkA ?_ _)); exact BK137.out), GW137.out, GE137.out, NB126_137.out, NB137_126.out, (by repeat (first | (with_reducible first | exact HB.out | apply zzA | apply zzN | apply zzD | refine below_set ?_ GE126.out | refine below_set ?_ GE137.out) | exact HB.out))⟩)
        rintro ⟨v132, v135, gb137⟩ w25 ⟨h0_, h1_, h2_, h3_, h4_, h5_, h6_, h7_, h8_⟩
        have n0_ : Aside0 (Kd.R (Kd.int .u64) 64 w25 w.heap.size (fun _ => True) v132 y131) := ⟨h0_⟩
        have n1_ : Aside0 (Kd.R Kd.bool 4 w25 w.heap.size (fun _ => True) v135 y134) := ⟨h1_⟩
        have n2_ : Aside0 (w25.heap[gb126]? = some (.cells #[.int .i64 0, .int .i64 0, .slice none 0 0, .slice none 0 0, .int .i64 0, .int .i64 0, .slice none 0 0, .slice none 0 0] 30 (0, 0))) := ⟨h2_⟩
        have n3_ : Aside0 (w25.heap[gb137]? = some (.cells #[.int .i64 0, .int .i64 0, .slice none 0 0, .slice none 0 0, .int .i64 0, .int .i64 0, .slice none 0 0, .slice none 0 0] 30 (0, 0))) := ⟨h3_⟩
        have n4_ : Aside0 (w.heap.size ≤ gb137) := ⟨h4_⟩
        have n5_ : Aside0 (w.heap.size ≤ gb137) := ⟨h5_⟩
        have n6_ : Aside0 (gb126 ≠ gb137) := ⟨h6_⟩
        have n7_ : Aside0 (gb137 ≠ gb126) := ⟨h7_⟩
        have n8_ : Aside0 (Below w.heap.size w w25) := ⟨h8_⟩
        clear BK126
        clear HB
        clear h0_ h1_ h2_ h3_ h4_ h5_ h6_ h7_ h8_
        have HO133 := n0_
        have HO136 := n1_
        have BK126 := n2_
        have BK137 := n3_
        have GW137 := n4_
        have GE137 := n5_
        have NB126_137 := n6_
        have NB137_126 := n7_
        have HB := n8_
        clear n0_ n1_ n2_ n3_ n4_ n5_ n6_ n7_ n8_
        have hHeld := trivial
        obtain ⟨Ao26, co26, eo26⟩ := Kd.R_slice HO136.out
        (first | subst eo26 | (injection eo26 with f1_ f2_ f3_; have f4_ := f1_.symm; have f5_ := f3_.symm; clear f1_ f2_ f3_; subst f4_; subst f5_))
        obtain ⟨Ao27, co27, eo27⟩ := Kd.R_slice HO133.out
        (first | subst eo27 | (injection eo27 with f1_ f2_ f3_; have f4_ := f1_.symm; have f5_ := f3_.symm; clear f1_ f2_ f3_; subst f4_; subst f5_))
        refine norm_ (a' := ?_) ?_ ?_
        rotate_left
        ·
         simp only [putAll, Act.put, List.setIfInBounds_toArray, List.set_cons_zero, List.set_cons_succ]
         rfl
        refine one_ (i := 12) (N := none) #[true, true, true, true, true, true, true, true, true, true, true, true, true] rfl rfl (one_of HT_.out (by kernel_rfl)) (by decide) (fun K hK => ?_)
        have hs28 : w25.cell? ⟨gb137, 0, none⟩ = some (.int .i64 0) := (blk_cell BK137.out 0).trans rfl
        have hfs28 := blk_frozen BK137.out 0
        have hns28_0 := NB126_137.out
        have hms28_0 := NB137_126.out
        have hs29 : w25.cell? ⟨gb137, 1, none⟩ = some (.int .i64 0) := (blk_cell BK137.out 1).trans rfl
        have hfs29 := blk_frozen BK137.out 1
        have hns29_0 := NB126_137.out
        have hms29_0 := NB137_126.out
        have hs30 : w25.cell? ⟨gb137, 2, none⟩ = some (.slice none 0 0) := (blk_cell BK137.out 2).trans rfl
        have hfs30 := blk_frozen BK137.out 2
        have hns30_0 := NB126_137.out
        have hms30_0 := NB137_126.out
        have hs31 : w25.cell? ⟨gb137, 3, none⟩ = some (.slice none 0 0) := (blk_cell BK137.out 3).trans rfl
        have hfs31 := blk_frozen BK137.out 3
        have hns31_0 := NB126_137.out
        have hms31_0 := NB137_126.out
        have hs32 : w25.cell? ⟨gb137, 4, none⟩ = some (.int .i64 0) := (blk_cell BK137.out 4).trans rfl
        have hfs32 := blk_frozen BK137.out 4
        have hns32_0 := NB126_137.out
        have hms32_0 := NB137_126.out
        have hs33 : w25.cell? ⟨gb137, 5, none⟩ = some (.int .i64 0) := (blk_cell BK137.out 5).trans rfl
        have hfs33 := blk_frozen BK137.out 5
        have hns33_0 := NB126_137.out
        have hms33_0 := NB137_126.out
        have hs34 : w25.cell? ⟨gb137, 6, none⟩ = some (.slice none 0 0) := (blk_cell BK137.out 6).trans rfl
        have hfs34 := blk_frozen BK137.out 6
        have hns34_0 := NB126_137.out
        have hms34_0 := NB137_126.out
        have hs35 : w25.cell? ⟨gb137, 7, none⟩ = some (.slice none 0 0) := (blk_cell BK137.out 7).trans rfl
        have hfs35 := blk_frozen BK137.out 7
        have hns35_0 := NB126_137.out
        have hms35_0 := NB137_126.out
        refine skip_ (w1 := ?_) (by rfl) rfl ?_ ?_
        rotate_left
        ·
         go_simp
         rfl
        refine hK.out _ _ trivial (fun hHeld => ?_)
        clear hK K
        refine done_ (done_of HT_.out (by kernel_rfl)) ?_
        try go_wp2
        go_loopg [57] kj5 (fun kq v57 w' => ∃ (x57_2 : Int) (x127000_2 : Int) (x127001_2 : Int) (x127004_2 : Int) (x127005_2 : Int) (x138006_2 : List Int) (x138007_2 : List Bool) (u138006 : Value) (u138007 : Value), v57 = .int .i64 x57_2 ∧ Aside0 (quant_Press.l0 kq a1 a2 l3 t129 l0 (l0.length : Int) x57_2 2 (l0.length : Int) t129 a1 x138006_2 x138007_2 = some (r1, r2, r3, r4, r5, r6, r7, r8, r9)) ∧ Aside0 (kq ≤ kj5) ∧ Aside0 (Kd.R (Kd.int .u64) 64 w' w.heap.size (fun _ => True) u138006 x138006_2) ∧ Aside0 (Kd.R Kd.bool 4 w' w.heap.size (fun _ => True) u138007 x138007_2) ∧ Aside0 (w'.heap[gb126]? = some (.cells #[.int .i64 x127000_2, .int .i64 x127001_2, (.slice none 0 0), (.slice none 0 0), .int .i64 x127004_2, .int .i64 x127005_2, (.slice none 0 0), (.slice none 0 0)] 30 (0, 0))) ∧ Aside0 (w'.heap[gb137]? = some (.cells #[.int .i64 2, .int .i64 (l0.length : Int), (.slice none 0 0), (.slice none 0 0), .int .i64 t129, .int .i64 a1, u138006, u138007] 30 (0, 0))) ∧ Aside0 (Below w.heap.size w w'))
        case atStart => exact ⟨(0), (0), (0), (0), (0), (y131), (y134), (.slice Ao27 y131.length co27), (.slice Ao26 y134.length co26), (by first | rfl | (simp; done) | (simp [*]; done)), H', ⟨Nat.le_refl _⟩, ⟨by (with_reducible repeat (first | apply rrA | apply rrN | apply rrD)); exact Kd.R_mono (Kd.R_far (p := ⟨gb137, 7, none⟩) (Kd.R_far (p := ⟨gb137, 6, none⟩) (Kd.R_far (p := ⟨gb137, 5, none⟩) (Kd.R_far (p := ⟨gb137, 4, none⟩) (Kd.R_far (p := ⟨gb137, 3, none⟩) (Kd.R_far (p := ⟨gb137, 2, none⟩) (Kd.R_far (p := ⟨gb137, 1, none⟩) (Kd.R_far (p := ⟨gb137, 0, none⟩) (Kd.R_types HO133.out BK137.out (by decide)) (fun _ hk => hk.2) (.int .i64 2)) (fun _ hk => hk.2) (.int .i64 (l0.length : Int))) (fun _ hk => hk.2) (.slice none 0 0)) (fun _ hk => hk.2) (.slice none 0 0)) (fun _ hk => hk.2) (.int .i64 t129)) (fun _ hk => hk.2) (.int .i64 a1)) (fun _ hk => hk.2) (.slice Ao27 y131.length co27)) (fun _ hk => hk.2) (.slice Ao26 y134.length co26)) (fun _ hk => trivial)⟩, ⟨by (with_reducible repeat (first | apply rrA | apply rrN | apply rrD)); exact Kd.R_mono (Kd.R_far (p := ⟨gb137, 7, none⟩) (Kd.R_far (p := ⟨gb137, 6, none⟩) (Kd.R_far (p := ⟨gb137, 5, none⟩) (Kd.R_far (p := ⟨gb137, 4, none⟩) (Kd.R_far (p := ⟨gb137, 3, none⟩) (Kd.R_far (p := ⟨gb137, 2, none⟩) (Kd.R_far (p := ⟨gb137, 1, none⟩) (Kd.R_far (p := ⟨gb137, 0, none⟩) (Kd.R_types HO136.out BK137.out (by decide)) (fun _ hk => hk.2) (.int .i64 2)) (fun _ hk => hk.2) (.int .i64 (l0.length : Int))) (fun _ hk => hk.2) (.slice none 0 0)) (fun _ hk => hk.2) (.slice none 0 0)) (fun _ hk => hk.2) (.int .i64 t129)) (fun _ hk => hk.2) (.int .i64 a1)) (fun _ hk => hk.2) (.slice Ao27 y131.length co27)) (fun _ hk => hk.2) (.slice Ao26 y134.length co26)) (fun _ hk => trivial)⟩, ⟨by (with_reducible repeat (first | refine kkN ?_ _ | refine kkD ?_ | refine kkA ?_ _)); refine blk_far ?_ NB126_137.out _; (with_reducible repeat (first | refine kkN ?_ _ | refine kkD ?_ | refine kkA ?_ _)); refine blk_far ?_ NB126_137.out _; (with_reducible repeat (first | refine kkN ?_ _ | refine kkD ?_ | refine kkA ?_ _)); refine blk_far ?_ NB126_137.out _; (with_reducible repeat (first | refine kkN ?_ _ | refine kkD ?_ | refine kkA ?_ _)); refine blk_far ?_ NB126_137.out _; (with_reducible repeat (first | refine kkN ?_ _ | refine kkD ?_ | refine kkA ?_ _)); refine blk_far ?_ NB126_137.out _; (with_reducible repeat (first | refine kkN ?_ _ | refine kkD ?_ | refine kkA ?_ _)); refine blk_far ?_ NB126_137.out _; (with_reducible repeat (first | refine kkN ?_ _ | refine kkD ?_ | refine kkA ?_ _)); refine blk_far ?_ NB126_137.out _; (with_reducible repeat (first | refine kkN ?_ _ | refine kkD ?_ | refine kkA ?_ _)); refine blk_far ?_ NB126_137.out _; (with_reducible repeat (first | refine kkN ?_ _ | refine kkD ?_ | refine kkA ?_ _)); exact BK126.out⟩, ⟨by (with_reducible repeat (first | refine kkN ?_ _ | refine kkD ?_ | refine kkA ?_ _)); refine blk_put (cs := #[.int .i64 2, .int .i64 (l0.length : Int), .slice none 0 0, .slice none 0 0, .int .i64 t129, .int .i64 a1, .slice Ao27 y131.length co27, .slice none 0 0]) ?_ 7 _ rfl; (with_reducible repeat (first | refine kkN ?_ _ | refine kkD ?_ | refine kkA ?_ _)); refine blk_put (cs := #[.int .i64 2, .int .i64 (l0.length : Int), .slice none 0 0, .slice none 0 0, .int .i64 t129, .int .i64 a1, .slice none 0 0, .slice none 0 0]) ?_ 6 _ rfl; (with_reducible repeat (first | refine kkN ?_ _ | refine kkD ?_ | refine kkA ?_ _)); refine blk_put (cs := #[.int .i64 2, .int .i64 (l0.length : Int), .slice none 0 0, .slice none 0 0, .int .i64 t129, .int .i64 0, .slice none 0 0, .slice none 0 0]) ?_ 5 _ rfl; (with_reducible repeat (first | refine kkN ?_ _ | refine kkD ?_ | refine kkA ?_ _)); refine blk_put (cs := #[.int .i64 2, .int .i64 (l0.length : Int), .slice none 0 0, .slice none 0 0, .int .i64 0, .int .i64 0, .slice none 0 0, .slice none 0 0]) ?_ 4 _ rfl; (with_reducible repeat (first | refine kkN ?_ _ | refine kkD ?_ | refine kkA ?_ _)); refine blk_put (cs := #[.int .i64 2, .int .i64 (l0.length : Int), .slice none 0 0, .slice none 0 0, .int .i64 0, .int .i64 0, .slice none 0 0, .slice none 0 0]) ?_ 3 _ rfl; (with_reducible repeat (first | refine kkN ?_ _ | refine kkD ?_ | refine kkA ?_ _)); refine blk_put (cs := #[.int .i64 2, .int .i64 (l0.length : Int), .slice none 0 0, .slice none 0 0, .int .i64 0, .int .i64 0, .slice none 0 0, .slice none 0 0]) ?_ 2 _ rfl; (with_reducible repeat (first | refine kkN ?_ _ | refine kkD ?_ | refine kkA ?_ _)); refine blk_put (cs := #[.int .i64 2, .int .i64 0, .slice none 0 0, .slice none 0 0, .int .i64 0, .int .i64 0, .slice none 0 0, .slice none 0 0]) ?_ 1 _ rfl; (with_reducible repeat (first | refine kkN ?_ _ | refine kkD ?_ | refine kkA ?_ _)); refine blk_put (cs := #[.int .i64 0, .int .i64 0, .slice none 0 0, .slice none 0 0, .int .i64 0, .int .i64 0, .slice none 0 0, .slice none 0 0]) ?_ 0 _ rfl; (with_reducible repeat (first | refine kkN ?_ _ | refine kkD ?_ | refine kkA ?_ _)); exact BK137.out⟩, ⟨by repeat (first | (with_reducible first | exact HB.out | apply zzA | apply zzN | apply zzD | refine below_set ?_ GE126.out | refine below_set ?_ GE137.out) | exact HB.out)⟩⟩
        case round =>
         clear H'
         try clear p2
         obtain ⟨x57_2, x127000_2, x127001_2, x127004_2, x127005_2, x138006_2, x138007_2, u138006, u138007, rfl, HA, HK2, HO_138006, HO_138007, BK126, BK137, HB⟩ := hrel
         cases gk with
         | zero => exact absurd HA.out (by simp [quant_Press.l0])
         | succ k2 =>
          have H := HA.out
          clear HA
          simp only [quant_Press.l0] at H
          by_cases c36 : x57_2 < (l0.length : Int)
          ·
           rw [if_pos c36] at H
           have c36b0 : decide (x57_2 < (l0.length : Int)) = true := decide_eq_true c36
           clear c36
           by_cases c37 : 0 ≤ x57_2
           ·
            rw [if_pos c37] at H
            have c37b0 : decide (0 ≤ x57_2) = true := decide_eq_true c37
            clear c37
            by_cases c38 : x57_2 < (l0.length : Int)
            ·
             rw [if_pos c38] at H
             have c38b0 : decide (x57_2 < (l0.length : Int)) = true := decide_eq_true c38
             clear c38
             replace H := Option.bind_eq_some_iff.mp H
             obtain ⟨⟨t139, t140, t141⟩, A390, H⟩ := H
             replace H : (if t141 = 0 then (if t140 > 0 then ((slices_Clone_int_int.f l3).bind fun t142 => (if t142.length < 17592186044416 then ((draw_Chance.f k2 t140 (IntKind.u64.wrap (t129)) a2 (t142 ++ [x57_2])).bind fun bt148 => (if bt148.2 = 0 then (if bt148.1 = true then (if x57_2 < (x138006_2.length : Int) then (if x57_2 < (x138007_2.length : Int) then (quant_Press.l0 k2 a1 a2 l3 t129 l0 (l0.length : Int) (wrap64 (x57_2 + 1)) 2 (l0.length : Int) t129 a1 (x138006_2.set (x57_2 : Int).toNat (IntKind.u64.wrap (t139 + 1))) (x138007_2.set (x57_2 : Int).toNat (decide ((rd l0 x57_2) < 0)))) else (none)) else (none)) else (if x57_2 < (x138006_2.length : Int) then (if x57_2 < (x138007_2.length : Int) then (quant_Press.l0 k2 a1 a2 l3 t129 l0 (l0.length : Int) (wrap64 (x57_2 + 1)) 2 (l0.length : Int) t129 a1 (x138006_2.set (x57_2 : Int).toNat t139) (x138007_2.set (x57_2 : Int).toNat (decide ((rd l0 x57_2) < 0)))) else (none)) else (none))) else (some (0, 0, ([] : List Int), ([] : List Int), 0, 0, ([] : List Int), ([] : List Bool), bt148.2)))) else (none))) else (if x57_2 < (x138006_2.length : Int) then (if x57_2 < (x138007_2.length : Int) then (quant_Press.l0 k2 a1 a2 l3 t129 l0 (l0.length : Int) (wrap64 (x57_2 + 1)) 2 (l0.length : Int) t129 a1 (x138006_2.set (x57_2 : Int).toNat t139) (x138007_2.set (x57_2 : Int).toNat (decide ((rd l0 x57_2) < 0)))) else (none)) else (none))) else (some (0, 0, ([] : List Int), ([] : List Int), 0, 0, ([] : List Int), ([] : List Bool), t141))) = some (r1, r2, r3, r4, r5, r6, r7, r8, r9) := H
             have A39 := Aside0.mk A390
             clear A390
             by_cases c40 : t141 = 0
             ·
              rw [if_pos c40] at H
              have c40b0 : (t141 == 0) = true := beq_iff_eq.mpr c40
              have c40b1 : (t141 != 0) = false := bne_eq_false_iff_eq.mpr c40
              clear c40
              by_cases c41 : t140 > 0
              ·
               rw [if_pos c41] at H
               have c41b0 : decide (0 < t140) = true := decide_eq_true c41
               clear c41
               replace H := Option.bind_eq_some_iff.mp H
               obtain ⟨t142, A420, H⟩ := H
               replace H : (if t142.length < 17592186044416 then ((draw_Chance.f k2 t140 (IntKind.u64.wrap (t129)) a2 (t142 ++ [x57_2])).bind fun bt148 => (if bt148.2 = 0 then (if bt148.1 = true then (if x57_2 < (x138006_2.length : Int) then (if x57_2 < (x138007_2.length : Int) then (quant_Press.l0 k2 a1 a2 l3 t129 l0 (l0.length : Int) (wrap64 (x57_2 + 1)) 2 (l0.length : Int) t129 a1 (x138006_2.set (x57_2 : Int).toNat (IntKind.u64.wrap (t139 + 1))) (x138007_2.set (x57_2 : Int).toNat (decide ((rd l0 x57_2) < 0)))) else (none)) else (none)) else (if x57_2 < (x138006_2.length : Int) then (if x57_2 < (x138007_2.length : Int) then (quant_Press.l0 k2 a1 a2 l3 t129 l0 (l0.length : Int) (wrap64 (x57_2 + 1)) 2 (l0.length : Int) t129 a1 (x138006_2.set (x57_2 : Int).toNat t139) (x138007_2.set (x57_2 : Int).toNat (decide ((rd l0 x57_2) < 0)))) else (none)) else (none))) else (some (0, 0, ([] : List Int), ([] : List Int), 0, 0, ([] : List Int), ([] : List Bool), bt148.2)))) else (none)) = some (r1, r2, r3, r4, r5, r6, r7, r8, r9) := H
               have A42 := Aside0.mk A420
               clear A420
               by_cases c43 : t142.length < 17592186044416
               ·
                rw [if_pos c43] at H
                have LMc43 := Aside0.mk c43
                clear c43
                obtain ⟨y145, hy145⟩ : ∃ y_ : List Int, y_ = (t142 ++ [x57_2]) := ⟨_, rfl⟩
                replace H : ((draw_Chance.f k2 t140 (IntKind.u64.wrap (t129)) a2 y145).bind fun bt148 => (if bt148.2 = 0 then (if bt148.1 = true then (if x57_2 < (x138006_2.length : Int) then (if x57_2 < (x138007_2.length : Int) then (quant_Press.l0 k2 a1 a2 l3 t129 l0 (l0.length : Int) (wrap64 (x57_2 + 1)) 2 (l0.length : Int) t129 a1 (x138006_2.set (x57_2 : Int).toNat (IntKind.u64.wrap (t139 + 1))) (x138007_2.set (x57_2 : Int).toNat (decide ((rd l0 x57_2) < 0)))) else (none)) else (none)) else (if x57_2 < (x138006_2.length : Int) then (if x57_2 < (x138007_2.length : Int) then (quant_Press.l0 k2 a1 a2 l3 t129 l0 (l0.length : Int) (wrap64 (x57_2 + 1)) 2 (l0.length : Int) t129 a1 (x138006_2.set (x57_2 : Int).toNat t139) (x138007_2.set (x57_2 : Int).toNat (decide ((rd l0 x57_2) < 0)))) else (none)) else (none))) else (some (0, 0, ([] : List Int), ([] : List Int), 0, 0, ([] : List Int), ([] : List Bool), bt148.2)))) = some (r1, r2, r3, r4, r5, r6, r7, r8, r9) := by first | (rw [hy145]; with_reducible exact H) | (have H2_ := (Option.bind_some _ _).symm.trans H; rw [hy145]; with_reducible exact H2_) | (have H2_ := (Option.bind_some _ _).symm.trans H; with_reducible exact H2_) | with_reducible exact H | (rw [hy145]; exact H) | exact H
                have Ny145 := Aside0.mk hy145
                clear hy145
                replace H := Option.bind_eq_some_iff.mp H
                obtain ⟨⟨t148, t149⟩, A440, H⟩ := H
                replace H : (if t149 = 0 then (if t148 = true then (if x57_2 < (x138006_2.length : Int) then (if x57_2 < (x138007_2.length : Int) then (quant_Press.l0 k2 a1 a2 l3 t129 l0 (l0.length : Int) (wrap64 (x57_2 + 1)) 2 (l0.length : Int) t129 a1 (x138006_2.set (x57_2 : Int).toNat (IntKind.u64.wrap (t139 + 1))) (x138007_2.set (x57_2 : Int).toNat (decide ((rd l0 x57_2) < 0)))) else (none)) else (none)) else (if x57_2 < (x138006_2.length : Int) then (if x57_2 < (x138007_2.length : Int) then (quant_Press.l0 k2 a1 a2 l3 t129 l0 (l0.length : Int) (wrap64 (x57_2 + 1)) 2 (l0.length : Int) t129 a1 (x138006_2.set (x57_2 : Int).toNat t139) (x138007_2.set (x57_2 : Int).toNat (decide ((rd l0 x57_2) < 0)))) else (none)) else (none))) else (some (0, 0, ([] : List Int), ([] : List Int), 0, 0, ([] : List Int), ([] : List Bool), t149))) = some (r1, r2, r3, r4, r5, r6, r7, r8, r9) := H
                have A44 := Aside0.mk A440
                clear A440
                by_cases c45 : t149 = 0
                ·
                 rw [if_pos c45] at H
                 have c45b0 : (t149 == 0) = true := beq_iff_eq.mpr c45
                 have c45b1 : (t149 != 0) = false := bne_eq_false_iff_eq.mpr c45
                 clear c45
                 by_cases c46 : t148 = true
                 ·
                  subst c46
                  have H1 : (if x57_2 < (x138006_2.length : Int) then (if x57_2 < (x138007_2.length : Int) then (quant_Press.l0 k2 a1 a2 l3 t129 l0 (l0.length : Int) (wrap64 (x57_2 + 1)) 2 (l0.length : Int) t129 a1 (x138006_2.set (x57_2 : Int).toNat (IntKind.u64.wrap (t139 + 1))) (x138007_2.set (x57_2 : Int).toNat (decide ((rd l0 x57_2) < 0)))) else (none)) else (none)) = some (r1, r2, r3, r4, r5, r6, r7, r8, r9) := by rw [if_pos rfl] at H; exact H
                  clear H
                  have H := H1
                  clear H1
                  by_cases c47 : x57_2 < (x138006_2.length : Int)
                  ·
                   rw [if_pos c47] at H
                   have c47b0 : decide (x57_2 < (x138006_2.length : Int)) = true := decide_eq_true c47
                   clear c47
                   obtain ⟨y150, hy150⟩ : ∃ y_ : List Int, y_ = (x138006_2.set (x57_2 : Int).toNat (IntKind.u64.wrap (t139 + 1))) := ⟨_, rfl⟩
                   replace H : (if x57_2 < (x138007_2.length : Int) then (quant_Press.l0 k2 a1 a2 l3 t129 l0 (l0.length : Int) (wrap64 (x57_2 + 1)) 2 (l0.length : Int) t129 a1 y150 (x138007_2.set (x57_2 : Int).toNat (decide ((rd l0 x57_2) < 0)))) else (none)) = some (r1, r2, r3, r4, r5, r6, r7, r8, r9) := by first | (rw [hy150]; with_reducible exact H) | (have H2_ := (Option.bind_some _ _).symm.trans H; rw [hy150]; with_reducible exact H2_) | (have H2_ := (Option.bind_some _ _).symm.trans H; with_reducible exact H2_) | with_reducible exact H | (rw [hy150]; exact H) | exact H
                   have Ny150 := Aside0.mk hy150
                   clear hy150
                   by_cases c49 : x57_2 < (x138007_2.length : Int)
                   ·
                    rw [if_pos c49] at H
                    have c49b0 : decide (x57_2 < (x138007_2.length : Int)) = true := decide_eq_true c49
                    clear c49
                    obtain ⟨y151, hy151⟩ : ∃ y_ : List Bool, y_ = (x138007_2.set (x57_2 : Int).toNat (decide ((rd l0 x57_2) < 0))) := ⟨_, rfl⟩
                    replace H : (quant_Press.l0 k2 a1 a2 l3 t129 l0 (l0.length : Int) (wrap64 (x57_2 + 1)) 2 (l0.length : Int) t129 a1 y150 y151) = some (r1, r2, r3, r4, r5, r6, r7, r8, r9) := by first | (rw [hy151]; with_reducible exact H) | (have H2_ := (Option.bind_some _ _).symm.trans H; rw [hy151]; with_reducible exact H2_) | (have H2_ := (Option.bind_some _ _).symm.trans H; with_reducible exact H2_) | with_reducible exact H | (rw [hy151]; exact H) | exact H
                    have Ny151 := Aside0.mk hy151
                    clear hy151
                    have H' := Aside0.mk H
                    clear H
                    have p138 : 0 ≤ (x57_2 : Int) := of_decide_eq_true (by first | (with_reducible assumption) | assumption)
                    have q138 : x57_2 < (l0.length : Int) := of_decide_eq_true (by first | (with_reducible assumption) | assumption)
                    obtain ⟨ad138, e138, hx138_0⟩ := Kd.at_int HR0.out x57_2 p138 q138
                    cases e138
                    replace hx138_0 := (HB.out.cell (World.block_lt_of_cell? w _ hx138_0)).trans hx138_0
                    replace p138 := eq_true p138
                    replace q138 := eq_true q138
                    go_wp2_with (first | ((with_reducible refine gate_callee (f := 47) rfl ?_); refine goesL_ (some 66) rfl rfl Try.func47 (by kernel_rfl) rfl #[.int .i64 (rd l0 x57_2), .int .i64 t129, .int .i64 a1] rfl (by (try simp only [List.map_toArray, List.map_cons, List.map_nil]); first | done | rfl | (simp only [List.length_drop, List.length_take]; rfl)) ?_; (with_reducible refine (quant_Level.calls (rd l0 x57_2) t129 a1 t139 t140 t141 _ A39.out).mono ?_); rintro e w' ⟨rfl, ⟨nd, rfl⟩⟩; refine ⟨_, rfl, ?_⟩; (try (rw [drewN_self wr]; generalize hq_ : World.drewN wr _ = wr; have n0_ : Aside0 (Kd.R (Kd.int .u64) 64 wr w.heap.size (fun _ => True) u138006 x138006_2) := ⟨by rw [← hq_]; exact (by (with_reducible repeat (first | apply rrA | apply rrN | apply rrD)); exact HO_138006.out)⟩; have n1_ : Aside0 (Kd.R Kd.bool 4 wr w.heap.size (fun _ => True) u138007 x138007_2) := ⟨by rw [← hq_]; exact (by (with_reducible repeat (first | apply rrA | apply rrN | apply rrD)); exact HO_138007.out)⟩; have n2_ : Aside0 (wr.heap[gb126]? = some (.cells #[.int .i64 x127000_2, .int .i64 x127001_2, .slice none 0 0, .slice none 0 0, .int .i64 x127004_2, .int .i64 x127005_2, .slice none 0 0, .slice none 0 0] 30 (0, 0))) := ⟨by rw [← hq_]; exact (by (with_reducible repeat (first | refine kkN ?_ _ | refine kkD ?_ | refine kkA ?_ _)); exact BK126.out)⟩; have n3_ : Aside0 (wr.heap[gb137]? = some (.cells #[.int .i64 2, .int .i64 (l0.length : Int), .slice none 0 0, .slice none 0 0, .int .i64 t129, .int .i64 a1, u138006, u138007] 30 (0, 0))) := ⟨by rw [← hq_]; exact (by (with_reducible repeat (first | refine kkN ?_ _ | refine kkD ?_ | refine kkA ?_ _)); exact BK137.out)⟩; have n4_ : Aside0 (Below w.heap.size w wr) := ⟨by rw [← hq_]; exact (by repeat (first | (with_reducible first | exact HB.out | apply zzA | apply zzN | apply zzD | refine below_set ?_ GE126.out | refine below_set ?_ GE137.out) | exact HB.out))⟩; clear HO_138006 HO_138007 BK126 BK137 HB hq_; have HO_138006 := n0_; have HO_138007 := n1_; have BK126 := n2_; have BK137 := n3_; have HB := n4_; clear n0_ n1_ n2_ n3_ n4_))) | ((with_reducible refine gate_callee (f := 87) rfl ?_); refine goesL_ (some 82) rfl rfl Try.func87 (by kernel_rfl) rfl #[.slice A3 l3.length c3] rfl (by (try simp only [List.map_toArray, List.map_cons, List.map_nil]); first | done | rfl | (simp only [List.length_drop, List.length_take]; rfl)) ?_; (with_reducible refine (slices_Clone_int_int.calls _ _ l3 t142 _ ?side1 ?side2 A42.out).mono ?_); (case side1 => repeat (first | exact (Kd.C_below HR3.out HB.out) | (with_reducible refine ccA ?_ _) | (with_reducible refine ccN ?_ _) | (with_reducible refine ccD ?_))); (case side2 => exact HC3.out); rintro e w51 ⟨v143, rfl, ho0, hb⟩; refine ⟨_, rfl, ?_⟩; have n0_ := Aside0.mk (Kd.R_below (by (with_reducible repeat (first | apply rrA | apply rrN | apply rrD)); exact HO_138006.out) hb); have n1_ := Aside0.mk (Kd.R_below (by (with_reducible repeat (first | apply rrA | apply rrN | apply rrD)); exact HO_138007.out) hb); have n2_ := Aside0.mk (Kd.R_lower ho0 (zzS (by repeat (first | (with_reducible first | exact HB.out | apply zzA | apply zzN | apply zzD | refine below_set ?_ GE126.out | refine below_set ?_ GE137.out) | exact HB.out)))); have n3_ := Aside0.mk (blk_below (g := gb126) (o := .cells #[.int .i64 x127000_2, .int .i64 x127001_2, .slice none 0 0, .slice none 0 0, .int .i64 x127004_2, .int .i64 x127005_2, .slice none 0 0, .slice none 0 0] 30 (0, 0)) (by (with_reducible repeat (first | refine kkN ?_ _ | refine kkD ?_ | refine kkA ?_ _)); exact BK126.out) hb); have n4_ := Aside0.mk (blk_below (g := gb137) (o := .cells #[.int .i64 2, .int .i64 (l0.length : Int), .slice none 0 0, .slice none 0 0, .int .i64 t129, .int .i64 a1, u138006, u138007] 30 (0, 0)) (by (with_reducible repeat (first | refine kkN ?_ _ | refine kkD ?_ | refine kkA ?_ _)); exact BK137.out) hb); have n5_ := Aside0.mk (zzT (by repeat (first | (with_reducible first | exact HB.out | apply zzA | apply zzN | apply zzD | refine below_set ?_ GE126.out | refine below_set ?_ GE137.out) | exact HB.out)) hb); clear HO_138006; clear HO_138007; clear BK126; clear BK137; clear HB; have HO_138006 := n0_; have HO_138007 := n1_; have HO144 := n2_; have BK126 := n3_; have BK137 := n4_; have HB := n5_; clear n0_ n1_ n2_ n3_ n4_ n5_; (try clear hb); (try clear hb2); (try clear hk); (try clear hi); (try clear ho0)) | ((with_reducible refine gate_builtin (b := .append) (xs := #[.tmp 82, .tmp 84]) rfl ?_); (try (refine gate_guard (by rfl) ?_; dsimp only)); at_builtin; refine Kd.R_append (Kd.int .i64) (w0 := w) w.heap.size rfl (.tmp 82) (.tmp 84) 26 3 (.int .i64 0) 8 rfl Try.underlying26 info3 rfl (by decide) (by omega) v143 t142 x57_2 [.int .i64 x57_2] (fun _ => True) (fun _ => False) rfl rfl ?aP (fun _ hk => hk.elim) ?aF ?aO ?aB ?aS ?aL ?_; (case aP => exact rfl); (case aB => exact (by repeat (first | (with_reducible first | exact HB.out | apply zzA | apply zzN | apply zzD | refine below_set ?_ GE126.out | refine below_set ?_ GE137.out) | exact HB.out))); (case aF => exact (fun _ _ => trivial)); (case aO => exact (by (with_reducible repeat (first | apply rrA | apply rrN | apply rrD)); exact HO144.out)); (case aS => exact (zzS (by repeat (first | (with_reducible first | exact HB.out | apply zzA | apply zzN | apply zzD | refine below_set ?_ GE126.out | refine below_set ?_ GE137.out) | exact HB.out)))); (case aL => have := LMc43.out; omega); intro v146 w52 ho hb hg hat; rw [← Ny145.out] at ho; have n0_ := Aside0.mk (Kd.R_over' (by (with_reducible repeat (first | apply rrA | apply rrN | apply rrD)); exact HO_138006.out) (Kd.R_typed (by (with_reducible repeat (first | apply rrA | apply rrN | apply rrD)); exact HO144.out)) (by decide) hg); have n1_ := Aside0.mk (Kd.R_over' (by (with_reducible repeat (first | apply rrA | apply rrN | apply rrD)); exact HO_138007.out) (Kd.R_typed (by (with_reducible repeat (first | apply rrA | apply rrN | apply rrD)); exact HO144.out)) (by decide) hg); have n2_ := Aside0.mk (blk_grown (g := gb126) (o := .cells #[.int .i64 x127000_2, .int .i64 x127001_2, .slice none 0 0, .slice none 0 0, .int .i64 x127004_2, .int .i64 x127005_2, .slice none 0 0, .slice none 0 0] 30 (0, 0)) (by (with_reducible repeat (first | refine kkN ?_ _ | refine kkD ?_ | refine kkA ?_ _)); exact BK126.out) hg (Kd.R_ne HO144.out BK126.out (by decide))); have n3_ := Aside0.mk (blk_grown (g := gb137) (o := .cells #[.int .i64 2, .int .i64 (l0.length : Int), .slice none 0 0, .slice none 0 0, .int .i64 t129, .int .i64 a1, u138006, u138007] 30 (0, 0)) (by (with_reducible repeat (first | refine kkN ?_ _ | refine kkD ?_ | refine kkA ?_ _)); exact BK137.out) hg (Kd.R_ne HO144.out BK137.out (by decide))); have n4_ := Aside0.mk (hb); have n5_ := Aside0.mk (ho); clear HO_138006; clear HO_138007; clear BK126; clear BK137; clear HB; clear HO144; have HO_138006 := n0_; have HO_138007 := n1_; have BK126 := n2_; have BK137 := n3_; have HB := n4_; have HO147 := n5_; clear n0_ n1_ n2_ n3_ n4_ n5_; clear ho hb hg hat; obtain ⟨Ao53, co53, eo53⟩ := Kd.R_slice HO147.out; subst eo53) | ((with_reducible refine gate_callee (f := 86) rfl ?_); refine goesL_ (some 86) rfl rfl Try.func86 (by kernel_rfl) rfl #[.int .u64 t140, .int .u64 (IntKind.u64.wrap (t129)), .int .u64 a2, .slice Ao53 y145.length co53] rfl (by (try simp only [List.map_toArray, List.map_cons, List.map_nil]); first | done | rfl | (simp only [List.length_drop, List.length_take]; rfl)) ?_; (with_reducible refine (draw_Chance.calls k2 t140 (IntKind.u64.wrap (t129)) a2 _ _ y145 true t149 _ ?side1 ?side2 A44.out).mono ?_); (case side1 => repeat (first | exact (Kd.R_reads' HO147.out).2.2 | (with_reducible refine ccA ?_ _) | (with_reducible refine ccN ?_ _) | (with_reducible refine ccD ?_))); (case side2 => exact (Kd.R_reads' HO147.out).2.1); rintro e w' ⟨rfl, ⟨nd, rfl⟩⟩; refine ⟨_, rfl, ?_⟩; (try (rw [drewN_self w52]; generalize hq_ : World.drewN w52 _ = w52; have n0_ : Aside0 (Kd.R (Kd.int .i64) 3 w52 w.heap.size (fun _ => True) (.slice Ao53 y145.length co53) y145) := ⟨by rw [← hq_]; exact (by (with_reducible repeat (first | apply rrA | apply rrN | apply rrD)); exact HO147.out)⟩; have n1_ : Aside0 (Kd.R (Kd.int .u64) 64 w52 w.heap.size (fun _ => True) u138006 x138006_2) := ⟨by rw [← hq_]; exact (by (with_reducible repeat (first | apply rrA | apply rrN | apply rrD)); exact HO_138006.out)⟩; have n2_ : Aside0 (Kd.R Kd.bool 4 w52 w.heap.size (fun _ => True) u138007 x138007_2) := ⟨by rw [← hq_]; exact (by (with_reducible repeat (first | apply rrA | apply rrN | apply rrD)); exact HO_138007.out)⟩; have n3_ : Aside0 (w52.heap[gb126]? = some (.cells #[.int .i64 x127000_2, .int .i64 x127001_2, .slice none 0 0, .slice none 0 0, .int .i64 x127004_2, .int .i64 x127005_2, .slice none 0 0, .slice none 0 0] 30 (0, 0))) := ⟨by rw [← hq_]; exact (by (with_reducible repeat (first | refine kkN ?_ _ | refine kkD ?_ | refine kkA ?_ _)); exact BK126.out)⟩; have n4_ : Aside0 (w52.heap[gb137]? = some (.cells #[.int .i64 2, .int .i64 (l0.length : Int), .slice none 0 0, .slice none 0 0, .int .i64 t129, .int .i64 a1, u138006, u138007] 30 (0, 0))) := ⟨by rw [← hq_]; exact (by (with_reducible repeat (first | refine kkN ?_ _ | refine kkD ?_ | refine kkA ?_ _)); exact BK137.out)⟩; have n5_ : Aside0 (Below w.heap.size w w52) := ⟨by rw [← hq_]; exact (by repeat (first | (with_reducible first | exact HB.out | apply zzA | apply zzN | apply zzD | refine below_set ?_ GE126.out | refine below_set ?_ GE137.out) | exact HB.out))⟩; clear HO147 HO_138006 HO_138007 BK126 BK137 HB hq_; have HO147 := n0_; have HO_138006 := n1_; have HO_138007 := n2_; have BK126 := n3_; have BK137 := n4_; have HB := n5_; clear n0_ n1_ n2_ n3_ n4_ n5_))))
                    have n_ := Aside0.mk (rrD HO147.out)
                    clear HO147
                    have HO147 := n_
                    clear n_
                    have n_ := Aside0.mk (rrD HO_138006.out)
                    clear HO_138006
                    have HO_138006 := n_
                    clear n_
                    have n_ := Aside0.mk (rrD HO_138007.out)
                    clear HO_138007
                    have HO_138007 := n_
                    clear n_
                    have n_ := Aside0.mk (kkD BK126.out)
                    clear BK126
                    have BK126 := n_
                    clear n_
                    have n_ := Aside0.mk (kkD BK137.out)
                    clear BK137
                    have BK137 := n_
                    clear n_
                    have n_ := Aside0.mk (zzD HB.out)
                    clear HB
                    have HB := n_
                    clear n_
                    refine start_ (n := 13) (S := fun w' => w'.cell? ⟨gb137, 6, none⟩ = some (u138006) ∧ w'.cell? ⟨gb137, 7, none⟩ = some (u138007)) (ds := [12]) #[false, false, false, false, false, false, false, false, false, false, false, false, false] (by kernel_rfl) rfl rfl ⟨(blk_cell BK137.out 6).trans rfl, (blk_cell BK137.out 7).trans rfl⟩ (fun hHeld => ?_)
                    refine with_tabW quant_Press.tab20 quant_Press.bits20 (fun HT_ HW_ => ?_)
                    generalize World.drew w52 = w52 at HO147 HO_138006 HO_138007 BK126 BK137 HB hHeld ⊢
                    have hnb54 := NB137_126.out; have hnc54 := NB126_137.out; have hcz55_0 : w52.cell? ⟨gb137, 0, none⟩ = some (.int .i64 2) := (blk_cell BK137.out 0).trans rfl; have hcz55_1 : w52.cell? ⟨gb137, 1, none⟩ = some (.int .i64 (l0.length : Int)) := (blk_cell BK137.out 1).trans rfl; have hcz55_2 : w52.cell? ⟨gb137, 2, none⟩ = some (.slice none 0 0) := (blk_cell BK137.out 2).trans rfl; have hcz55_3 : w52.cell? ⟨gb137, 3, none⟩ = some (.slice none 0 0) := (blk_cell BK137.out 3).trans rfl; have hcz55_4 : w52.cell? ⟨gb137, 4, none⟩ = some (.int .i64 t129) := (blk_cell BK137.out 4).trans rfl; have hcz55_5 : w52.cell? ⟨gb137, 5, none⟩ = some (.int .i64 a1) := (blk_cell BK137.out 5).trans rfl; have hcz55_6 : w52.cell? ⟨gb137, 6, none⟩ = some (u138006) := (blk_cell BK137.out 6).trans rfl; have hcz55_7 : w52.cell? ⟨gb137, 7, none⟩ = some (u138007) := (blk_cell BK137.out 7).trans rfl; have hfz55_0 := blk_frozen BK137.out 0; have hfz55_1 := blk_frozen BK137.out 1; have hfz55_2 := blk_frozen BK137.out 2; have hfz55_3 := blk_frozen BK137.out 3; have hfz55_4 := blk_frozen BK137.out 4; have hfz55_5 := blk_frozen BK137.out 5; have hfz55_6 := blk_frozen BK137.out 6; have hfz55_7 := blk_frozen BK137.out 7; have p48 : 0 ≤ (x57_2 : Int) := of_decide_eq_true (by first | (with_reducible assumption) | assumption); have q48 : (x57_2 : Int) < ((x138006_2.length : Int) : Int) := of_decide_eq_true (by first | (with_reducible assumption) | assumption); obtain ⟨go48, co48, eo48, gb48, gl48, cl48, HG48⟩ := Kd.R_form HO_138006.out (by omega); (first | cases eo48 | (injection eo48 with ea_ en_ ec_; (first | subst ea_ | (injection ea_ with ea_; subst ea_)); subst ec_; clear en_)); have GB48 := Aside0.mk gb48; have GG48 := Aside0.mk HG48; clear gb48 gl48 HG48; obtain ⟨hx48_0, hf48_0⟩ := Kd.R_celln 0 HO_138006.out (x57_2 : Int) p48 q48; replace p48 := eq_true p48; replace q48 := eq_true q48; obtain ⟨hy56_, hz56_⟩ := Kd.R_celln 0 HO_138006.out (x57_2 : Int) (of_decide_eq_true (by first | (with_reducible assumption) | assumption)) (of_decide_eq_true (by first | (with_reducible assumption) | assumption)); have HP56 := Kd.R_putg HO_138006.out (x57_2 : Int) (IntKind.u64.wrap (t139 + 1))
                    refine pure_ (i := 0) (N := some 96) (v := ?_) (a' := ?_) #[true, false, false, false, false, false, false, false, false, false, false, false, false] rfl rfl (any_of HT_.out (by kernel_rfl)) (fun _ _ _ h => h) (Or.inl ⟨by rfl, ?_⟩) ?_ ?_
                    rotate_left
                    ·
                     intro w'
                     go_simp
                     with_reducible rfl
                    rotate_left
                    ·
                     simp only [Act.put, List.setIfInBounds_toArray, List.set_cons_zero, List.set_cons_succ, i64_w, i32_w]
                     rfl
                    refine pure_ (i := 2) (N := some 98) (v := ?_) (a' := ?_) #[true, false, true, false, false, false, false, false, false, false, false, false, false] rfl rfl (any_of HT_.out (by kernel_rfl)) (fun _ _ _ h => h) (Or.inl ⟨by rfl, ?_⟩) ?_ ?_
                    rotate_left
                    ·
                     intro w'
                     go_simp
                     with_reducible rfl
                    rotate_left
                    ·
                     simp only [Act.put, List.setIfInBounds_toArray, List.set_cons_zero, List.set_cons_succ, i64_w, i32_w]
                     rfl
                    refine pure_ (i := 3) (N := some 99) (v := ?_) (a' := ?_) #[true, false, true, true, false, false, false, false, false, false, false, false, false] rfl rfl (any_of HT_.out (by kernel_rfl)) (fun _ _ _ h => h) (Or.inl ⟨by rfl, ?_⟩) ?_ ?_
                    rotate_left
                    ·
                     intro w'
                     go_simp
                     with_reducible rfl
                    rotate_left
                    ·
                     simp only [Act.put, List.setIfInBounds_toArray, List.set_cons_zero, List.set_cons_succ, i64_w, i32_w]
                     rfl
                    refine pure_ (i := 5) (N := some 101) (v := ?_) (a' := ?_) #[true, false, true, true, false, true, false, false, false, false, false, false, false] rfl rfl (any_of HT_.out (by kernel_rfl)) (fun _ _ _ h => h) (Or.inl ⟨by rfl, ?_⟩) ?_ ?_
                    rotate_left
                    ·
                     intro w'
                     go_simp
                     with_reducible rfl
                    rotate_left
                    ·
                     simp only [Act.put, List.setIfInBounds_toArray, List.set_cons_zero, List.set_cons_succ, i64_w, i32_w]
                     rfl
                    refine pure_ (i := 6) (N := some 102) (v := ?_) (a' := ?_) #[true, false, true, true, false, true, true, false, false, false, false, false, false] rfl rfl (any_of HT_.out (by kernel_rfl)) (fun _ _ _ h => h) (Or.inl ⟨by rfl, ?_⟩) ?_ ?_
                    rotate_left
                    ·
                     intro w'
                     go_simp
                     with_reducible rfl
                    rotate_left
                    ·
                     simp only [Act.put, List.setIfInBounds_toArray, List.set_cons_zero, List.set_cons_succ, i64_w, i32_w]
                     rfl
                    refine pure_ (i := 7) (N := some 103) (v := ?_) (a' := ?_) #[true, false, true, true, false, true, true, true, false, false, false, false, false] rfl rfl (any_of HT_.out (by kernel_rfl)) (fun _ _ _ h => h) (Or.inl ⟨by rfl, ?_⟩) ?_ ?_
                    rotate_left
                    ·
                     intro w'
                     go_simp
                     with_reducible rfl
                    rotate_left
                    ·
                     simp only [Act.put, List.setIfInBounds_toArray, List.set_cons_zero, List.set_cons_succ, i64_w, i32_w]
                     rfl
                    refine pure_ (i := 8) (N := some 104) (v := ?_) (a' := ?_) #[true, false, true, true, false, true, true, true, true, false, false, false, false] rfl rfl (any_of HT_.out (by kernel_rfl)) (fun _ _ _ h => h) (Or.inl ⟨by rfl, ?_⟩) ?_ ?_
                    rotate_left
                    ·
                     intro w'
                     go_simp
                     with_reducible rfl
                    rotate_left
                    ·
                     simp only [Act.put, List.setIfInBounds_toArray, List.set_cons_zero, List.set_cons_succ, i64_w, i32_w]
                     rfl
                    refine take_ (i := 1) (N := some 97) (v := ?_) (a' := ?_) #[true, true, true, true, false, true, true, true, true, false, false, false, false] rfl rfl (take_ofW HT_.out HW_.out (by kernel_rfl)) (fun _ _ _ h => h) (Or.inl ⟨by rfl, ?_⟩) hHeld ?_ ?_
                    rotate_left
                    ·
                     rintro w' ⟨s0, s1⟩
                     go_simp
                     with_reducible rfl
                    rotate_left
                    ·
                     simp only [Act.put, List.setIfInBounds_toArray, List.set_cons_zero, List.set_cons_succ, i64_w, i32_w]
                     rfl
                    refine pure_ (i := 9) (N := some 105) (v := ?_) (a' := ?_) #[true, true, true, true, false, true, true, true, true, true, false, false, false] rfl rfl (any_of HT_.out (by kernel_rfl)) (fun _ _ _ h => h) (Or.inl ⟨by rfl, ?_⟩) ?_ ?_
                    rotate_left
                    ·
                     intro w'
                     go_simp
                     with_reducible rfl
                    rotate_left
                    ·
                     simp only [Act.put, List.setIfInBounds_toArray, List.set_cons_zero, List.set_cons_succ, i64_w, i32_w]
                     rfl
                    refine take_ (i := 4) (N := some 100) (v := ?_) (a' := ?_) #[true, true, true, true, true, true, true, true, true, true, false, false, false] rfl rfl (take_ofW HT_.out HW_.out (by kernel_rfl)) (fun _ _ _ h => h) (Or.inl ⟨by rfl, ?_⟩) hHeld ?_ ?_
                    rotate_left
                    ·
                     rintro w' ⟨s0, s1⟩
                     go_simp
                     with_reducible rfl
                    rotate_left
                    ·
                     simp only [Act.put, List.setIfInBounds_toArray, List.set_cons_zero, List.set_cons_succ, i64_w, i32_w]
                     rfl
                    refine one_ (i := 10) (N := none) #[true, true, true, true, true, true, true, true, true, true, true, false, false] rfl rfl (one_of HT_.out (by kernel_rfl)) (by decide) (fun K hK => ?_)
                    refine skip_ (w1 := (w52.setCell ⟨go48, (x57_2 : Int).toNat, none⟩ (.int .u64 (IntKind.u64.wrap (t139 + 1))))) (by rfl) rfl (by first | (go_simp; done) | (go_simp; rfl)) ?_
                    suffices hs_ : ∀ w_, w_ = (w52.setCell ⟨go48, (x57_2 : Int).toNat, none⟩ (.int .u64 (IntKind.u64.wrap (t139 + 1)))) → K _ w_ from hs_ _ rfl
                    intro w57 hw; have hg : w52.grownBy w57 (some go48) := (by rw [hw]; exact HP56.2); have hp_ : Kd.R (Kd.int .u64) 64 w57 w.heap.size (fun _ => True) (.slice (some ⟨go48, 0, none⟩) x138006_2.length co48) y150 := (by rw [hw, Ny150.out]; exact HP56.1); clear HP56; have n0_ := Aside0.mk (hp_); have n1_ := Aside0.mk (Kd.R_over' (v := (.slice (some ⟨go48, 0, none⟩) x138006_2.length co48)) (by (with_reducible repeat (first | apply rrA | apply rrN | apply rrD)); exact HO_138007.out) (Kd.R_typed HO_138006.out) (by decide) hg); have n2_ := Aside0.mk (blk_grown (g := gb126) (o := .cells #[.int .i64 x127000_2, .int .i64 x127001_2, .slice none 0 0, .slice none 0 0, .int .i64 x127004_2, .int .i64 x127005_2, .slice none 0 0, .slice none 0 0] 30 (0, 0)) (by (with_reducible repeat (first | refine kkN ?_ _ | refine kkD ?_ | refine kkA ?_ _)); exact BK126.out) hg (Kd.R_ne HO_138006.out BK126.out (by decide))); have n3_ := Aside0.mk (blk_grown (g := gb137) (o := .cells #[.int .i64 2, .int .i64 (l0.length : Int), .slice none 0 0, .slice none 0 0, .int .i64 t129, .int .i64 a1, .slice (some ⟨go48, 0, none⟩) x138006_2.length co48, u138007] 30 (0, 0)) (by (with_reducible repeat (first | refine kkN ?_ _ | refine kkD ?_ | refine kkA ?_ _)); exact BK137.out) hg (Kd.R_ne HO_138006.out BK137.out (by decide))); have n4_ := Aside0.mk (Kd.R_over' (v := (.slice (some ⟨go48, 0, none⟩) x138006_2.length co48)) (by (with_reducible repeat (first | apply rrA | apply rrN | apply rrD)); exact HO147.out) (Kd.R_typed HO_138006.out) (by decide) hg); have n5_ := Aside0.mk ((by rw [hw]; exact below_set (HB.out) GB48.out : Below w.heap.size w w57)); clear HO_138006; clear HO_138007; clear BK126; clear BK137; clear HO147; clear HB; have HO_138006 := n0_; have HO_138007 := n1_; have BK126 := n2_; have BK137 := n3_; have HO147 := n4_; have HB := n5_; clear n0_ n1_ n2_ n3_ n4_ n5_; clear hg hw hp_; have hcz58_0 : w57.cell? ⟨gb137, 0, none⟩ = some (.int .i64 2) := (blk_cell BK137.out 0).trans rfl; have hcz58_1 : w57.cell? ⟨gb137, 1, none⟩ = some (.int .i64 (l0.length : Int)) := (blk_cell BK137.out 1).trans rfl; have hcz58_2 : w57.cell? ⟨gb137, 2, none⟩ = some (.slice none 0 0) := (blk_cell BK137.out 2).trans rfl; have hcz58_3 : w57.cell? ⟨gb137, 3, none⟩ = some (.slice none 0 0) := (blk_cell BK137.out 3).trans rfl; have hcz58_4 : w57.cell? ⟨gb137, 4, none⟩ = some (.int .i64 t129) := (blk_cell BK137.out 4).trans rfl; have hcz58_5 : w57.cell? ⟨gb137, 5, none⟩ = some (.int .i64 a1) := (blk_cell BK137.out 5).trans rfl; have hcz58_6 : w57.cell? ⟨gb137, 6, none⟩ = some (.slice (some ⟨go48, 0, none⟩) x138006_2.length co48) := (blk_cell BK137.out 6).trans rfl; have hcz58_7 : w57.cell? ⟨gb137, 7, none⟩ = some (u138007) := (blk_cell BK137.out 7).trans rfl; have hfz58_0 := blk_frozen BK137.out 0; have hfz58_1 := blk_frozen BK137.out 1; have hfz58_2 := blk_frozen BK137.out 2; have hfz58_3 := blk_frozen BK137.out 3; have hfz58_4 := blk_frozen BK137.out 4; have hfz58_5 := blk_frozen BK137.out 5; have hfz58_6 := blk_frozen BK137.out 6; have hfz58_7 := blk_frozen BK137.out 7; have p50 : 0 ≤ (x57_2 : Int) := of_decide_eq_true (by first | (with_reducible assumption) | assumption); have q50 : (x57_2 : Int) < ((x138007_2.length : Int) : Int) := of_decide_eq_true (by first | (with_reducible assumption) | assumption); obtain ⟨go50, co50, eo50, gb50, gl50, cl50, HG50⟩ := Kd.R_form HO_138007.out (by omega); (first | cases eo50 | (injection eo50 with ea_ en_ ec_; (first | subst ea_ | (injection ea_ with ea_; subst ea_)); subst ec_; clear en_)); have GB50 := Aside0.mk gb50; have GG50 := Aside0.mk HG50; clear gb50 gl50 HG50; obtain ⟨hx50_0, hf50_0⟩ := Kd.R_celln false HO_138007.out (x57_2 : Int) p50 q50; replace p50 := eq_true p50; replace q50 := eq_true q50; obtain ⟨hy59_, hz59_⟩ := Kd.R_celln false HO_138007.out (x57_2 : Int) (of_decide_eq_true (by first | (with_reducible assumption) | assumption)) (of_decide_eq_true (by first | (with_reducible assumption) | assumption)); have HP59 := Kd.R_putg HO_138007.out (x57_2 : Int) (decide ((rd l0 x57_2) < 0))
                    refine hK.out _ _ ⟨hcz58_6, hcz58_7⟩ (fun hHeld => ?_)
                    clear hK K
                    refine pure_ (i := 11) (N := some 106) (v := ?_) (a' := ?_) #[true, true, true, true, true, true, true, true, true, true, true, true, false] rfl rfl (any_of HT_.out (by kernel_rfl)) (fun _ _ _ h => h) (Or.inl ⟨by rfl, ?_⟩) ?_ ?_
                    rotate_left
                    ·
                     intro w'
                     go_simp
                     with_reducible rfl
                    rotate_left
                    ·
                     simp only [Act.put, List.setIfInBounds_toArray, List.set_cons_zero, List.set_cons_succ, i64_w, i32_w]
                     rfl
                    refine last_ (i := 12) (N := none) #[true, true, true, true, true, true, true, true, true, true, true, true, true] rfl rfl (one_of HT_.out (by kernel_rfl)) (by decide) (fun K hK => ?_)
                    refine skip_ (w1 := (w57.setCell ⟨go50, (x57_2 : Int).toNat, none⟩ (.bool (decide ((rd l0 x57_2) < 0))))) (by rfl) rfl (by first | (go_simp; done) | (go_simp; rfl)) ?_
                    suffices hs_ : ∀ w_, w_ = (w57.setCell ⟨go50, (x57_2 : Int).toNat, none⟩ (.bool (decide ((rd l0 x57_2) < 0)))) → K _ w_ from hs_ _ rfl
                    intro w60 hw; have hg : w57.grownBy w60 (some go50) := (by rw [hw]; exact HP59.2); have hp_ : Kd.R Kd.bool 4 w60 w.heap.size (fun _ => True) (.slice (some ⟨go50, 0, none⟩) x138007_2.length co50) y151 := (by rw [hw, Ny151.out]; exact HP59.1); clear HP59; have n0_ := Aside0.mk (Kd.R_over' (v := (.slice (some ⟨go50, 0, none⟩) x138007_2.length co50)) (by (with_reducible repeat (first | apply rrA | apply rrN | apply rrD)); exact HO_138006.out) (Kd.R_typed HO_138007.out) (by decide) hg); have n1_ := Aside0.mk (hp_); have n2_ := Aside0.mk (blk_grown (g := gb126) (o := .cells #[.int .i64 x127000_2, .int .i64 x127001_2, .slice none 0 0, .slice none 0 0, .int .i64 x127004_2, .int .i64 x127005_2, .slice none 0 0, .slice none 0 0] 30 (0, 0)) (by (with_reducible repeat (first | refine kkN ?_ _ | refine kkD ?_ | refine kkA ?_ _)); exact BK126.out) hg (Kd.R_ne HO_138007.out BK126.out (by decide))); have n3_ := Aside0.mk (blk_grown (g := gb137) (o := .cells #[.int .i64 2, .int .i64 (l0.length : Int), .slice none 0 0, .slice none 0 0, .int .i64 t129, .int .i64 a1, .slice (some ⟨go48, 0, none⟩) x138006_2.length co48, .slice (some ⟨go50, 0, none⟩) x138007_2.length co50] 30 (0, 0)) (by (with_reducible repeat (first | refine kkN ?_ _ | refine kkD ?_ | refine kkA ?_ _)); exact BK137.out) hg (Kd.R_ne HO_138007.out BK137.out (by decide))); have n4_ := Aside0.mk (Kd.R_over' (v := (.slice (some ⟨go50, 0, none⟩) x138007_2.length co50)) (by (with_reducible repeat (first | apply rrA | apply rrN | apply rrD)); exact HO147.out) (Kd.R_typed HO_138007.out) (by decide) hg); have n5_ := Aside0.mk ((by rw [hw]; exact below_set (HB.out) GB50.out : Below w.heap.size w w60)); clear HO_138006; clear HO_138007; clear BK126; clear BK137; clear HO147; clear HB; have HO_138006 := n0_; have HO_138007 := n1_; have BK126 := n2_; have BK137 := n3_; have HO147 := n4_; have HB := n5_; clear n0_ n1_ n2_ n3_ n4_ n5_; clear hg hw hp_
                    refine hK.out _ _ ?_
                    clear hK K
                    refine done_ (done_of HT_.out (by kernel_rfl)) ?_
                    try go_wp2
                    go_roundg k2
                    case measure => have := HJ5.out; have := HK2.out; omega
                    case rel => exact ⟨(wrap64 (x57_2 + 1)), (x127000_2), (x127001_2), (x127004_2), (x127005_2), (y150), (y151), (.slice (some ⟨go48, 0, none⟩) x138006_2.length co48), (.slice (some ⟨go50, 0, none⟩) x138007_2.length co50), (by first | rfl | (simp; done) | (simp [*]; done)), H', ⟨by have := HJ5.out; have := HK2.out; omega⟩, ⟨by (with_reducible repeat (first | apply rrA | apply rrN | apply rrD)); exact HO_138006.out⟩, ⟨by (with_reducible repeat (first | apply rrA | apply rrN | apply rrD)); exact HO_138007.out⟩, ⟨by (with_reducible repeat (first | refine kkN ?_ _ | refine kkD ?_ | refine kkA ?_ _)); exact BK126.out⟩, ⟨by (with_reducible repeat (first | refine kkN ?_ _ | refine kkD ?_ | refine kkA ?_ _)); exact BK137.out⟩, ⟨by repeat (first | (with_reducible first | exact HB.out | apply zzA | apply zzN | apply zzD | refine below_set ?_ GE126.out | refine below_set ?_ GE137.out) | exact HB.out)⟩⟩
                   ·
                    rw [if_neg c49] at H
                    exact absurd H (by simp)
                  ·
                   rw [if_neg c47] at H
                   exact absurd H (by simp)
                 ·
                  replace c46 := Bool.eq_false_iff.mpr c46
                  subst c46
                  have H1 : (if x57_2 < (x138006_2.length : Int) then (if x57_2 < (x138007_2.length : Int) then (quant_Press.l0 k2 a1 a2 l3 t129 l0 (l0.length : Int) (wrap64 (x57_2 + 1)) 2 (l0.length : Int) t129 a1 (x138006_2.set (x57_2 : Int).toNat t139) (x138007_2.set (x57_2 : Int).toNat (decide ((rd l0 x57_2) < 0)))) else (none)) else (none)) = some (r1, r2, r3, r4, r5, r6, r7, r8, r9) := by rw [if_neg (show ¬ (false = true) by decide)] at H; exact H
                  clear H
                  have H := H1
                  clear H1
                  by_cases c61 : x57_2 < (x138006_2.length : Int)
                  ·
                   rw [if_pos c61] at H
                   have c61b0 : decide (x57_2 < (x138006_2.length : Int)) = true := decide_eq_true c61
                   clear c61
                   obtain ⟨y152, hy152⟩ : ∃ y_ : List Int, y_ = (x138006_2.set (x57_2 : Int).toNat t139) := ⟨_, rfl⟩
                   replace H : (if x57_2 < (x138007_2.length : Int) then (quant_Press.l0 k2 a1 a2 l3 t129 l0 (l0.length : Int) (wrap64 (x57_2 + 1)) 2 (l0.length : Int) t129 a1 y152 (x138007_2.set (x57_2 : Int).toNat (decide ((rd l0 x57_2) < 0)))) else (none)) = some (r1, r2, r3, r4, r5, r6, r7, r8, r9) := by first | (rw [hy152]; with_reducible exact H) | (have H2_ := (Option.bind_some _ _).symm.trans H; rw [hy152]; with_reducible exact H2_) | (have H2_ := (Option.bind_some _ _).symm.trans H; with_reducible exact H2_) | with_reducible exact H | (rw [hy152]; exact H) | exact H
                   have Ny152 := Aside0.mk hy152
                   clear hy152
                   by_cases c63 : x57_2 < (x138007_2.length : Int)
                   ·
                    rw [if_pos c63] at H
                    have c63b0 : decide (x57_2 < (x138007_2.length : Int)) = true := decide_eq_true c63
                    clear c63
                    obtain ⟨y153, hy153⟩ : ∃ y_ : List Bool, y_ = (x138007_2.set (x57_2 : Int).toNat (decide ((rd l0 x57_2) < 0))) := ⟨_, rfl⟩
                    replace H : (quant_Press.l0 k2 a1 a2 l3 t129 l0 (l0.length : Int) (wrap64 (x57_2 + 1)) 2 (l0.length : Int) t129 a1 y152 y153) = some (r1, r2, r3, r4, r5, r6, r7, r8, r9) := by first | (rw [hy153]; with_reducible exact H) | (have H2_ := (Option.bind_some _ _).symm.trans H; rw [hy153]; with_reducible exact H2_) | (have H2_ := (Option.bind_some _ _).symm.trans H; with_reducible exact H2_) | with_reducible exact H | (rw [hy153]; exact H) | exact H
                    have Ny153 := Aside0.mk hy153
                    clear hy153
                    have H' := Aside0.mk H
                    clear H
                    have p138 : 0 ≤ (x57_2 : Int) := of_decide_eq_true (by first | (with_reducible assumption) | assumption)
                    have q138 : x57_2 < (l0.length : Int) := of_decide_eq_true (by first | (with_reducible assumption) | assumption)
                    obtain ⟨ad138, e138, hx138_0⟩ := Kd.at_int HR0.out x57_2 p138 q138
                    cases e138
                    replace hx138_0 := (HB.out.cell (World.block_lt_of_cell? w _ hx138_0)).trans hx138_0
                    replace p138 := eq_true p138
                    replace q138 := eq_true q138
                    go_wp2_with (first | ((with_reducible refine gate_callee (f := 47) rfl ?_); refine goesL_ (some 66) rfl rfl Try.func47 (by kernel_rfl) rfl #[.int .i64 (rd l0 x57_2), .int .i64 t129, .int .i64 a1] rfl (by (try simp only [List.map_toArray, List.map_cons, List.map_nil]); first | done | rfl | (simp only [List.length_drop, List.length_take]; rfl)) ?_; (with_reducible refine (quant_Level.calls (rd l0 x57_2) t129 a1 t139 t140 t141 _ A39.out).mono ?_); rintro e w' ⟨rfl, ⟨nd, rfl⟩⟩; refine ⟨_, rfl, ?_⟩; (try (rw [drewN_self wr]; generalize hq_ : World.drewN wr _ = wr; have n0_ : Aside0 (Kd.R (Kd.int .u64) 64 wr w.heap.size (fun _ => True) u138006 x138006_2) := ⟨by rw [← hq_]; exact (by (with_reducible repeat (first | apply rrA | apply rrN | apply rrD)); exact HO_138006.out)⟩; have n1_ : Aside0 (Kd.R Kd.bool 4 wr w.heap.size (fun _ => True) u138007 x138007_2) := ⟨by rw [← hq_]; exact (by (with_reducible repeat (first | apply rrA | apply rrN | apply rrD)); exact HO_138007.out)⟩; have n2_ : Aside0 (wr.heap[gb126]? = some (.cells #[.int .i64 x127000_2, .int .i64 x127001_2, .slice none 0 0, .slice none 0 0, .int .i64 x127004_2, .int .i64 x127005_2, .slice none 0 0, .slice none 0 0] 30 (0, 0))) := ⟨by rw [← hq_]; exact (by (with_reducible repeat (first | refine kkN ?_ _ | refine kkD ?_ | refine kkA ?_ _)); exact BK126.out)⟩; have n3_ : Aside0 (wr.heap[gb137]? = some (.cells #[.int .i64 2, .int .i64 (l0.length : Int), .slice none 0 0, .slice none 0 0, .int .i64 t129, .int .i64 a1, u138006, u138007] 30 (0, 0))) := ⟨by rw [← hq_]; exact (by (with_reducible repeat (first | refine kkN ?_ _ | refine kkD ?_ | refine kkA ?_ _)); exact BK137.out)⟩; have n4_ : Aside0 (Below w.heap.size w wr) := ⟨by rw [← hq_]; exact (by repeat (first | (with_reducible first | exact HB.out | apply zzA | apply zzN | apply zzD | refine below_set ?_ GE126.out | refine below_set ?_ GE137.out) | exact HB.out))⟩; clear HO_138006 HO_138007 BK126 BK137 HB hq_; have HO_138006 := n0_; have HO_138007 := n1_; have BK126 := n2_; have BK137 := n3_; have HB := n4_; clear n0_ n1_ n2_ n3_ n4_))) | ((with_reducible refine gate_callee (f := 87) rfl ?_); refine goesL_ (some 82) rfl rfl Try.func87 (by kernel_rfl) rfl #[.slice A3 l3.length c3] rfl (by (try simp only [List.map_toArray, List.map_cons, List.map_nil]); first | done | rfl | (simp only [List.length_drop, List.length_take]; rfl)) ?_; (with_reducible refine (slices_Clone_int_int.calls _ _ l3 t142 _ ?side1 ?side2 A42.out).mono ?_); (case side1 => repeat (first | exact (Kd.C_below HR3.out HB.out) | (with_reducible refine ccA ?_ _) | (with_reducible refine ccN ?_ _) | (with_reducible refine ccD ?_))); (case side2 => exact HC3.out); rintro e w65 ⟨v143, rfl, ho0, hb⟩; refine ⟨_, rfl, ?_⟩; have n0_ := Aside0.mk (Kd.R_below (by (with_reducible repeat (first | apply rrA | apply rrN | apply rrD)); exact HO_138006.out) hb); have n1_ := Aside0.mk (Kd.R_below (by (with_reducible repeat (first | apply rrA | apply rrN | apply rrD)); exact HO_138007.out) hb); have n2_ := Aside0.mk (Kd.R_lower ho0 (zzS (by repeat (first | (with_reducible first | exact HB.out | apply zzA | apply zzN | apply zzD | refine below_set ?_ GE126.out | refine below_set ?_ GE137.out) | exact HB.out)))); have n3_ := Aside0.mk (blk_below (g := gb126) (o := .cells #[.int .i64 x127000_2, .int .i64 x127001_2, .slice none 0 0, .slice none 0 0, .int .i64 x127004_2, .int .i64 x127005_2, .slice none 0 0, .slice none 0 0] 30 (0, 0)) (by (with_reducible repeat (first | refine kkN ?_ _ | refine kkD ?_ | refine kkA ?_ _)); exact BK126.out) hb); have n4_ := Aside0.mk (blk_below (g := gb137) (o := .cells #[.int .i64 2, .int .i64 (l0.length : Int), .slice none 0 0, .slice none 0 0, .int .i64 t129, .int .i64 a1, u138006, u138007] 30 (0, 0)) (by (with_reducible repeat (first | refine kkN ?_ _ | refine kkD ?_ | refine kkA ?_ _)); exact BK137.out) hb); have n5_ := Aside0.mk (zzT (by repeat (first | (with_reducible first | exact HB.out | apply zzA | apply zzN | apply zzD | refine below_set ?_ GE126.out | refine below_set ?_ GE137.out) | exact HB.out)) hb); clear HO_138006; clear HO_138007; clear BK126; clear BK137; clear HB; have HO_138006 := n0_; have HO_138007 := n1_; have HO144 := n2_; have BK126 := n3_; have BK137 := n4_; have HB := n5_; clear n0_ n1_ n2_ n3_ n4_ n5_; (try clear hb); (try clear hb2); (try clear hk); (try clear hi); (try clear ho0)) | ((with_reducible refine gate_builtin (b := .append) (xs := #[.tmp 82, .tmp 84]) rfl ?_); (try (refine gate_guard (by rfl) ?_; dsimp only)); at_builtin; refine Kd.R_append (Kd.int .i64) (w0 := w) w.heap.size rfl (.tmp 82) (.tmp 84) 26 3 (.int .i64 0) 8 rfl Try.underlying26 info3 rfl (by decide) (by omega) v143 t142 x57_2 [.int .i64 x57_2] (fun _ => True) (fun _ => False) rfl rfl ?aP (fun _ hk => hk.elim) ?aF ?aO ?aB ?aS ?aL ?_; (case aP => exact rfl); (case aB => exact (by repeat (first | (with_reducible first | exact HB.out | apply zzA | apply zzN | apply zzD | refine below_set ?_ GE126.out | refine below_set ?_ GE137.out) | exact HB.out))); (case aF => exact (fun _ _ => trivial)); (case aO => exact (by (with_reducible repeat (first | apply rrA | apply rrN | apply rrD)); exact HO144.out)); (case aS => exact (zzS (by repeat (first | (with_reducible first | exact HB.out | apply zzA | apply zzN | apply zzD | refine below_set ?_ GE126.out | refine below_set ?_ GE137.out) | exact HB.out)))); (case aL => have := LMc43.out; omega); intro v146 w66 ho hb hg hat; rw [← Ny145.out] at ho; have n0_ := Aside0.mk (Kd.R_over' (by (with_reducible repeat (first | apply rrA | apply rrN | apply rrD)); exact HO_138006.out) (Kd.R_typed (by (with_reducible repeat (first | apply rrA | apply rrN | apply rrD)); exact HO144.out)) (by decide) hg); have n1_ := Aside0.mk (Kd.R_over' (by (with_reducible repeat (first | apply rrA | apply rrN | apply rrD)); exact HO_138007.out) (Kd.R_typed (by (with_reducible repeat (first | apply rrA | apply rrN | apply rrD)); exact HO144.out)) (by decide) hg); have n2_ := Aside0.mk (blk_grown (g := gb126) (o := .cells #[.int .i64 x127000_2, .int .i64 x127001_2, .slice none 0 0, .slice none 0 0, .int .i64 x127004_2, .int .i64 x127005_2, .slice none 0 0, .slice none 0 0] 30 (0, 0)) (by (with_reducible repeat (first | refine kkN ?_ _ | refine kkD ?_ | refine kkA ?_ _)); exact BK126.out) hg (Kd.R_ne HO144.out BK126.out (by decide))); have n3_ := Aside0.mk (blk_grown (g := gb137) (o := .cells #[.int .i64 2, .int .i64 (l0.length : Int), .slice none 0 0, .slice none 0 0, .int .i64 t129, .int .i64 a1, u138006, u138007] 30 (0, 0)) (by (with_reducible repeat (first | refine kkN ?_ _ | refine kkD ?_ | refine kkA ?_ _)); exact BK137.out) hg (Kd.R_ne HO144.out BK137.out (by decide))); have n4_ := Aside0.mk (hb); have n5_ := Aside0.mk (ho); clear HO_138006; clear HO_138007; clear BK126; clear BK137; clear HB; clear HO144; have HO_138006 := n0_; have HO_138007 := n1_; have BK126 := n2_; have BK137 := n3_; have HB := n4_; have HO147 := n5_; clear n0_ n1_ n2_ n3_ n4_ n5_; clear ho hb hg hat; obtain ⟨Ao67, co67, eo67⟩ := Kd.R_slice HO147.out; subst eo67) | ((with_reducible refine gate_callee (f := 86) rfl ?_); refine goesL_ (some 86) rfl rfl Try.func86 (by kernel_rfl) rfl #[.int .u64 t140, .int .u64 (IntKind.u64.wrap (t129)), .int .u64 a2, .slice Ao67 y145.length co67] rfl (by (try simp only [List.map_toArray, List.map_cons, List.map_nil]); first | done | rfl | (simp only [List.length_drop, List.length_take]; rfl)) ?_; (with_reducible refine (draw_Chance.calls k2 t140 (IntKind.u64.wrap (t129)) a2 _ _ y145 false t149 _ ?side1 ?side2 A44.out).mono ?_); (case side1 => repeat (first | exact (Kd.R_reads' HO147.out).2.2 | (with_reducible refine ccA ?_ _) | (with_reducible refine ccN ?_ _) | (with_reducible refine ccD ?_))); (case side2 => exact (Kd.R_reads' HO147.out).2.1); rintro e w' ⟨rfl, ⟨nd, rfl⟩⟩; refine ⟨_, rfl, ?_⟩; (try (rw [drewN_self w66]; generalize hq_ : World.drewN w66 _ = w66; have n0_ : Aside0 (Kd.R (Kd.int .i64) 3 w66 w.heap.size (fun _ => True) (.slice Ao67 y145.length co67) y145) := ⟨by rw [← hq_]; exact (by (with_reducible repeat (first | apply rrA | apply rrN | apply rrD)); exact HO147.out)⟩; have n1_ : Aside0 (Kd.R (Kd.int .u64) 64 w66 w.heap.size (fun _ => True) u138006 x138006_2) := ⟨by rw [← hq_]; exact (by (with_reducible repeat (first | apply rrA | apply rrN | apply rrD)); exact HO_138006.out)⟩; have n2_ : Aside0 (Kd.R Kd.bool 4 w66 w.heap.size (fun _ => True) u138007 x138007_2) := ⟨by rw [← hq_]; exact (by (with_reducible repeat (first | apply rrA | apply rrN | apply rrD)); exact HO_138007.out)⟩; have n3_ : Aside0 (w66.heap[gb126]? = some (.cells #[.int .i64 x127000_2, .int .i64 x127001_2, .slice none 0 0, .slice none 0 0, .int .i64 x127004_2, .int .i64 x127005_2, .slice none 0 0, .slice none 0 0] 30 (0, 0))) := ⟨by rw [← hq_]; exact (by (with_reducible repeat (first | refine kkN ?_ _ | refine kkD ?_ | refine kkA ?_ _)); exact BK126.out)⟩; have n4_ : Aside0 (w66.heap[gb137]? = some (.cells #[.int .i64 2, .int .i64 (l0.length : Int), .slice none 0 0, .slice none 0 0, .int .i64 t129, .int .i64 a1, u138006, u138007] 30 (0, 0))) := ⟨by rw [← hq_]; exact (by (with_reducible repeat (first | refine kkN ?_ _ | refine kkD ?_ | refine kkA ?_ _)); exact BK137.out)⟩; have n5_ : Aside0 (Below w.heap.size w w66) := ⟨by rw [← hq_]; exact (by repeat (first | (with_reducible first | exact HB.out | apply zzA | apply zzN | apply zzD | refine below_set ?_ GE126.out | refine below_set ?_ GE137.out) | exact HB.out))⟩; clear HO147 HO_138006 HO_138007 BK126 BK137 HB hq_; have HO147 := n0_; have HO_138006 := n1_; have HO_138007 := n2_; have BK126 := n3_; have BK137 := n4_; have HB := n5_; clear n0_ n1_ n2_ n3_ n4_ n5_))))
                    have n_ := Aside0.mk (rrD HO147.out)
                    clear HO147
                    have HO147 := n_
                    clear n_
                    have n_ := Aside0.mk (rrD HO_138006.out)
                    clear HO_138006
                    have HO_138006 := n_
                    clear n_
                    have n_ := Aside0.mk (rrD HO_138007.out)
                    clear HO_138007
                    have HO_138007 := n_
                    clear n_
                    have n_ := Aside0.mk (kkD BK126.out)
                    clear BK126
                    have BK126 := n_
                    clear n_
                    have n_ := Aside0.mk (kkD BK137.out)
                    clear BK137
                    have BK137 := n_
                    clear n_
                    have n_ := Aside0.mk (zzD HB.out)
                    clear HB
                    have HB := n_
                    clear n_
                    refine start_ (n := 13) (S := fun w' => w'.cell? ⟨gb137, 6, none⟩ = some (u138006) ∧ w'.cell? ⟨gb137, 7, none⟩ = some (u138007)) (ds := [12]) #[false, false, false, false, false, false, false, false, false, false, false, false, false] (by kernel_rfl) rfl rfl ⟨(blk_cell BK137.out 6).trans rfl, (blk_cell BK137.out 7).trans rfl⟩ (fun hHeld => ?_)
                    refine with_tabW quant_Press.tab20 quant_Press.bits20 (fun HT_ HW_ => ?_)
                    generalize World.drew w66 = w66 at HO147 HO_138006 HO_138007 BK126 BK137 HB hHeld ⊢
                    have hnb68 := NB137_126.out; have hnc68 := NB126_137.out; have hcz69_0 : w66.cell? ⟨gb137, 0, none⟩ = some (.int .i64 2) := (blk_cell BK137.out 0).trans rfl; have hcz69_1 : w66.cell? ⟨gb137, 1, none⟩ = some (.int .i64 (l0.length : Int)) := (blk_cell BK137.out 1).trans rfl; have hcz69_2 : w66.cell? ⟨gb137, 2, none⟩ = some (.slice none 0 0) := (blk_cell BK137.out 2).trans rfl; have hcz69_3 : w66.cell? ⟨gb137, 3, none⟩ = some (.slice none 0 0) := (blk_cell BK137.out 3).trans rfl; have hcz69_4 : w66.cell? ⟨gb137, 4, none⟩ = some (.int .i64 t129) := (blk_cell BK137.out 4).trans rfl; have hcz69_5 : w66.cell? ⟨gb137, 5, none⟩ = some (.int .i64 a1) := (blk_cell BK137.out 5).trans rfl; have hcz69_6 : w66.cell? ⟨gb137, 6, none⟩ = some (u138006) := (blk_cell BK137.out 6).trans rfl; have hcz69_7 : w66.cell? ⟨gb137, 7, none⟩ = some (u138007) := (blk_cell BK137.out 7).trans rfl; have hfz69_0 := blk_frozen BK137.out 0; have hfz69_1 := blk_frozen BK137.out 1; have hfz69_2 := blk_frozen BK137.out 2; have hfz69_3 := blk_frozen BK137.out 3; have hfz69_4 := blk_frozen BK137.out 4; have hfz69_5 := blk_frozen BK137.out 5; have hfz69_6 := blk_frozen BK137.out 6; have hfz69_7 := blk_frozen BK137.out 7; have p62 : 0 ≤ (x57_2 : Int) := of_decide_eq_true (by first | (with_reducible assumption) | assumption); have q62 : (x57_2 : Int) < ((x138006_2.length : Int) : Int) := of_decide_eq_true (by first | (with_reducible assumption) | assumption); obtain ⟨go62, co62, eo62, gb62, gl62, cl62, HG62⟩ := Kd.R_form HO_138006.out (by omega); (first | cases eo62 | (injection eo62 with ea_ en_ ec_; (first | subst ea_ | (injection ea_ with ea_; subst ea_)); subst ec_; clear en_)); have GB62 := Aside0.mk gb62; have GG62 := Aside0.mk HG62; clear gb62 gl62 HG62; obtain ⟨hx62_0, hf62_0⟩ := Kd.R_celln 0 HO_138006.out (x57_2 : Int) p62 q62; replace p62 := eq_true p62; replace q62 := eq_true q62; obtain ⟨hy70_, hz70_⟩ := Kd.R_celln 0 HO_138006.out (x57_2 : Int) (of_decide_eq_true (by first | (with_reducible assumption) | assumption)) (of_decide_eq_true (by first | (with_reducible assumption) | assumption)); have HP70 := Kd.R_putg HO_138006.out (x57_2 : Int) t139
                    refine pure_ (i := 0) (N := some 96) (v := ?_) (a' := ?_) #[true, false, false, false, false, false, false, false, false, false, false, false, false] rfl rfl (any_of HT_.out (by kernel_rfl)) (fun _ _ _ h => h) (Or.inl ⟨by rfl, ?_⟩) ?_ ?_
                    rotate_left
                    ·
                     intro w'
                     go_simp
                     with_reducible rfl
                    rotate_left
                    ·
                     simp only [Act.put, List.setIfInBounds_toArray, List.set_cons_zero, List.set_cons_succ, i64_w, i32_w]
                     rfl
                    refine pure_ (i := 2) (N := some 98) (v := ?_) (a' := ?_) #[true, false, true, false, false, false, false, false, false, false, false, false, false] rfl rfl (any_of HT_.out (by kernel_rfl)) (fun _ _ _ h => h) (Or.inl ⟨by rfl, ?_⟩) ?_ ?_
                    rotate_left
                    ·
                     intro w'
                     go_simp
                     with_reducible rfl
                    rotate_left
                    ·
                     simp only [Act.put, List.setIfInBounds_toArray, List.set_cons_zero, List.set_cons_succ, i64_w, i32_w]
                     rfl
                    refine pure_ (i := 3) (N := some 99) (v := ?_) (a' := ?_) #[true, false, true, true, false, false, false, false, false, false, false, false, false] rfl rfl (any_of HT_.out (by kernel_rfl)) (fun _ _ _ h => h) (Or.inl ⟨by rfl, ?_⟩) ?_ ?_
                    rotate_left
                    ·
                     intro w'
                     go_simp
                     with_reducible rfl
                    rotate_left
                    ·
                     simp only [Act.put, List.setIfInBounds_toArray, List.set_cons_zero, List.set_cons_succ, i64_w, i32_w]
                     rfl
                    refine pure_ (i := 5) (N := some 101) (v := ?_) (a' := ?_) #[true, false, true, true, false, true, false, false, false, false, false, false, false] rfl rfl (any_of HT_.out (by kernel_rfl)) (fun _ _ _ h => h) (Or.inl ⟨by rfl, ?_⟩) ?_ ?_
                    rotate_left
                    ·
                     intro w'
                     go_simp
                     with_reducible rfl
                    rotate_left
                    ·
                     simp only [Act.put, List.setIfInBounds_toArray, List.set_cons_zero, List.set_cons_succ, i64_w, i32_w]
                     rfl
                    refine pure_ (i := 6) (N := some 102) (v := ?_) (a' := ?_) #[true, false, true, true, false, true, true, false, false, false, false, false, false] rfl rfl (any_of HT_.out (by kernel_rfl)) (fun _ _ _ h => h) (Or.inl ⟨by rfl, ?_⟩) ?_ ?_
                    rotate_left
                    ·
                     intro w'
                     go_simp
                     with_reducible rfl
                    rotate_left
                    ·
                     simp only [Act.put, List.setIfInBounds_toArray, List.set_cons_zero, List.set_cons_succ, i64_w, i32_w]
                     rfl
                    refine pure_ (i := 7) (N := some 103) (v := ?_) (a' := ?_) #[true, false, true, true, false, true, true, true, false, false, false, false, false] rfl rfl (any_of HT_.out (by kernel_rfl)) (fun _ _ _ h => h) (Or.inl ⟨by rfl, ?_⟩) ?_ ?_
                    rotate_left
                    ·
                     intro w'
                     go_simp
                     with_reducible rfl
                    rotate_left
                    ·
                     simp only [Act.put, List.setIfInBounds_toArray, List.set_cons_zero, List.set_cons_succ, i64_w, i32_w]
                     rfl
                    refine pure_ (i := 8) (N := some 104) (v := ?_) (a' := ?_) #[true, false, true, true, false, true, true, true, true, false, false, false, false] rfl rfl (any_of HT_.out (by kernel_rfl)) (fun _ _ _ h => h) (Or.inl ⟨by rfl, ?_⟩) ?_ ?_
                    rotate_left
                    ·
                     intro w'
                     go_simp
                     with_reducible rfl
                    rotate_left
                    ·
                     simp only [Act.put, List.setIfInBounds_toArray, List.set_cons_zero, List.set_cons_succ, i64_w, i32_w]
                     rfl
                    refine take_ (i := 1) (N := some 97) (v := ?_) (a' := ?_) #[true, true, true, true, false, true, true, true, true, false, false, false, false] rfl rfl (take_ofW HT_.out HW_.out (by kernel_rfl)) (fun _ _ _ h => h) (Or.inl ⟨by rfl, ?_⟩) hHeld ?_ ?_
                    rotate_left
                    ·
                     rintro w' ⟨s0, s1⟩
                     go_simp
                     with_reducible rfl
                    rotate_left
                    ·
                     simp only [Act.put, List.setIfInBounds_toArray, List.set_cons_zero, List.set_cons_succ, i64_w, i32_w]
                     rfl
                    refine pure_ (i := 9) (N := some 105) (v := ?_) (a' := ?_) #[true, true, true, true, false, true, true, true, true, true, false, false, false] rfl rfl (any_of HT_.out (by kernel_rfl)) (fun _ _ _ h => h) (Or.inl ⟨by rfl, ?_⟩) ?_ ?_
                    rotate_left
                    ·
                     intro w'
                     go_simp
                     with_reducible rfl
                    rotate_left
                    ·
                     simp only [Act.put, List.setIfInBounds_toArray, List.set_cons_zero, List.set_cons_succ, i64_w, i32_w]
                     rfl
                    refine take_ (i := 4) (N := some 100) (v := ?_) (a' := ?_) #[true, true, true, true, true, true, true, true, true, true, false, false, false] rfl rfl (take_ofW HT_.out HW_.out (by kernel_rfl)) (fun _ _ _ h => h) (Or.inl ⟨by rfl, ?_⟩) hHeld ?_ ?_
                    rotate_left
                    ·
                     rintro w' ⟨s0, s1⟩
                     go_simp
                     with_reducible rfl
                    rotate_left
                    ·
                     simp only [Act.put, List.setIfInBounds_toArray, List.set_cons_zero, List.set_cons_succ, i64_w, i32_w]
                     rfl
                    refine one_ (i := 10) (N := none) #[true, true, true, true, true, true, true, true, true, true, true, false, false] rfl rfl (one_of HT_.out (by kernel_rfl)) (by decide) (fun K hK => ?_)
                    refine skip_ (w1 := (w66.setCell ⟨go62, (x57_2 : Int).toNat, none⟩ (.int .u64 t139))) (by rfl) rfl (by first | (go_simp; done) | (go_simp; rfl)) ?_
                    suffices hs_ : ∀ w_, w_ = (w66.setCell ⟨go62, (x57_2 : Int).toNat, none⟩ (.int .u64 t139)) → K _ w_ from hs_ _ rfl
                    intro w71 hw; have hg : w66.grownBy w71 (some go62) := (by rw [hw]; exact HP70.2); have hp_ : Kd.R (Kd.int .u64) 64 w71 w.heap.size (fun _ => True) (.slice (some ⟨go62, 0, none⟩) x138006_2.length co62) y152 := (by rw [hw, Ny152.out]; exact HP70.1); clear HP70; have n0_ := Aside0.mk (hp_); have n1_ := Aside0.mk (Kd.R_over' (v := (.slice (some ⟨go62, 0, none⟩) x138006_2.length co62)) (by (with_reducible repeat (first | apply rrA | apply rrN | apply rrD)); exact HO_138007.out) (Kd.R_typed HO_138006.out) (by decide) hg); have n2_ := Aside0.mk (blk_grown (g := gb126) (o := .cells #[.int .i64 x127000_2, .int .i64 x127001_2, .slice none 0 0, .slice none 0 0, .int .i64 x127004_2, .int .i64 x127005_2, .slice none 0 0, .slice none 0 0] 30 (0, 0)) (by (with_reducible repeat (first | refine kkN ?_ _ | refine kkD ?_ | refine kkA ?_ _)); exact BK126.out) hg (Kd.R_ne HO_138006.out BK126.out (by decide))); have n3_ := Aside0.mk (blk_grown (g := gb137) (o := .cells #[.int .i64 2, .int .i64 (l0.length : Int), .slice none 0 0, .slice none 0 0, .int .i64 t129, .int .i64 a1, .slice (some ⟨go62, 0, none⟩) x138006_2.length co62, u138007] 30 (0, 0)) (by (with_reducible repeat (first | refine kkN ?_ _ | refine kkD ?_ | refine kkA ?_ _)); exact BK137.out) hg (Kd.R_ne HO_138006.out BK137.out (by decide))); have n4_ := Aside0.mk (Kd.R_over' (v := (.slice (some ⟨go62, 0, none⟩) x138006_2.length co62)) (by (with_reducible repeat (first | apply rrA | apply rrN | apply rrD)); exact HO147.out) (Kd.R_typed HO_138006.out) (by decide) hg); have n5_ := Aside0.mk ((by rw [hw]; exact below_set (HB.out) GB62.out : Below w.heap.size w w71)); clear HO_138006; clear HO_138007; clear BK126; clear BK137; clear HO147; clear HB; have HO_138006 := n0_; have HO_138007 := n1_; have BK126 := n2_; have BK137 := n3_; have HO147 := n4_; have HB := n5_; clear n0_ n1_ n2_ n3_ n4_ n5_; clear hg hw hp_; have hcz72_0 : w71.cell? ⟨gb137, 0, none⟩ = some (.int .i64 2) := (blk_cell BK137.out 0).trans rfl; have hcz72_1 : w71.cell? ⟨gb137, 1, none⟩ = some (.int .i64 (l0.length : Int)) := (blk_cell BK137.out 1).trans rfl; have hcz72_2 : w71.cell? ⟨gb137, 2, none⟩ = some (.slice none 0 0) := (blk_cell BK137.out 2).trans rfl; have hcz72_3 : w71.cell? ⟨gb137, 3, none⟩ = some (.slice none 0 0) := (blk_cell BK137.out 3).trans rfl; have hcz72_4 : w71.cell? ⟨gb137, 4, none⟩ = some (.int .i64 t129) := (blk_cell BK137.out 4).trans rfl; have hcz72_5 : w71.cell? ⟨gb137, 5, none⟩ = some (.int .i64 a1) := (blk_cell BK137.out 5).trans rfl; have hcz72_6 : w71.cell? ⟨gb137, 6, none⟩ = some (.slice (some ⟨go62, 0, none⟩) x138006_2.length co62) := (blk_cell BK137.out 6).trans rfl; have hcz72_7 : w71.cell? ⟨gb137, 7, none⟩ = some (u138007) := (blk_cell BK137.out 7).trans rfl; have hfz72_0 := blk_frozen BK137.out 0; have hfz72_1 := blk_frozen BK137.out 1; have hfz72_2 := blk_frozen BK137.out 2; have hfz72_3 := blk_frozen BK137.out 3; have hfz72_4 := blk_frozen BK137.out 4; have hfz72_5 := blk_frozen BK137.out 5; have hfz72_6 := blk_frozen BK137.out 6; have hfz72_7 := blk_frozen BK137.out 7; have p64 : 0 ≤ (x57_2 : Int) := of_decide_eq_true (by first | (with_reducible assumption) | assumption); have q64 : (x57_2 : Int) < ((x138007_2.length : Int) : Int) := of_decide_eq_true (by first | (with_reducible assumption) | assumption); obtain ⟨go64, co64, eo64, gb64, gl64, cl64, HG64⟩ := Kd.R_form HO_138007.out (by omega); (first | cases eo64 | (injection eo64 with ea_ en_ ec_; (first | subst ea_ | (injection ea_ with ea_; subst ea_)); subst ec_; clear en_)); have GB64 := Aside0.mk gb64; have GG64 := Aside0.mk HG64; clear gb64 gl64 HG64; obtain ⟨hx64_0, hf64_0⟩ := Kd.R_celln false HO_138007.out (x57_2 : Int) p64 q64; replace p64 := eq_true p64; replace q64 := eq_true q64; obtain ⟨hy73_, hz73_⟩ := Kd.R_celln false HO_138007.out (x57_2 : Int) (of_decide_eq_true (by first | (with_reducible assumption) | assumption)) (of_decide_eq_true (by first | (with_reducible assumption) | assumption)); have HP73 := Kd.R_putg HO_138007.out (x57_2 : Int) (decide ((rd l0 x57_2) < 0))
                    refine hK.out _ _ ⟨hcz72_6, hcz72_7⟩ (fun hHeld => ?_)
                    clear hK K
                    refine pure_ (i := 11) (N := some 106) (v := ?_) (a' := ?_) #[true, true, true, true, true, true, true, true, true, true, true, true, false] rfl rfl (any_of HT_.out (by kernel_rfl)) (fun _ _ _ h => h) (Or.inl ⟨by rfl, ?_⟩) ?_ ?_
                    rotate_left
                    ·
                     intro w'
                     go_simp
                     with_reducible rfl
                    rotate_left
                    ·
                     simp only [Act.put, List.setIfInBounds_toArray, List.set_cons_zero, List.set_cons_succ, i64_w, i32_w]
                     rfl
                    refine last_ (i := 12) (N := none) #[true, true, true, true, true, true, true, true, true, true, true, true, true] rfl rfl (one_of HT_.out (by kernel_rfl)) (by decide) (fun K hK => ?_)
                    refine skip_ (w1 := (w71.setCell ⟨go64, (x57_2 : Int).toNat, none⟩ (.bool (decide ((rd l0 x57_2) < 0))))) (by rfl) rfl (by first | (go_simp; done) | (go_simp; rfl)) ?_
                    suffices hs_ : ∀ w_, w_ = (w71.setCell ⟨go64, (x57_2 : Int).toNat, none⟩ (.bool (decide ((rd l0 x57_2) < 0)))) → K _ w_ from hs_ _ rfl
                    intro w74 hw; have hg : w71.grownBy w74 (some go64) := (by rw [hw]; exact HP73.2); have hp_ : Kd.R Kd.bool 4 w74 w.heap.size (fun _ => True) (.slice (some ⟨go64, 0, none⟩) x138007_2.length co64) y153 := (by rw [hw, Ny153.out]; exact HP73.1); clear HP73; have n0_ := Aside0.mk (Kd.R_over' (v := (.slice (some ⟨go64, 0, none⟩) x138007_2.length co64)) (by (with_reducible repeat (first | apply rrA | apply rrN | apply rrD)); exact HO_138006.out) (Kd.R_typed HO_138007.out) (by decide) hg); have n1_ := Aside0.mk (hp_); have n2_ := Aside0.mk (blk_grown (g := gb126) (o := .cells #[.int .i64 x127000_2, .int .i64 x127001_2, .slice none 0 0, .slice none 0 0, .int .i64 x127004_2, .int .i64 x127005_2, .slice none 0 0, .slice none 0 0] 30 (0, 0)) (by (with_reducible repeat (first | refine kkN ?_ _ | refine kkD ?_ | refine kkA ?_ _)); exact BK126.out) hg (Kd.R_ne HO_138007.out BK126.out (by decide))); have n3_ := Aside0.mk (blk_grown (g := gb137) (o := .cells #[.int .i64 2, .int .i64 (l0.length : Int), .slice none 0 0, .slice none 0 0, .int .i64 t129, .int .i64 a1, .slice (some ⟨go62, 0, none⟩) x138006_2.length co62, .slice (some ⟨go64, 0, none⟩) x138007_2.length co64] 30 (0, 0)) (by (with_reducible repeat (first | refine kkN ?_ _ | refine kkD ?_ | refine kkA ?_ _)); exact BK137.out) hg (Kd.R_ne HO_138007.out BK137.out (by decide))); have n4_ := Aside0.mk (Kd.R_over' (v := (.slice (some ⟨go64, 0, none⟩) x138007_2.length co64)) (by (with_reducible repeat (first | apply rrA | apply rrN | apply rrD)); exact HO147.out) (Kd.R_typed HO_138007.out) (by decide) hg); have n5_ := Aside0.mk ((by rw [hw]; exact below_set (HB.out) GB64.out : Below w.heap.size w w74)); clear HO_138006; clear HO_138007; clear BK126; clear BK137; clear HO147; clear HB; have HO_138006 := n0_; have HO_138007 := n1_; have BK126 := n2_; have BK137 := n3_; have HO147 := n4_; have HB := n5_; clear n0_ n1_ n2_ n3_ n4_ n5_; clear hg hw hp_
                    refine hK.out _ _ ?_
                    clear hK K
                    refine done_ (done_of HT_.out (by kernel_rfl)) ?_
                    try go_wp2
                    go_roundg k2
                    case measure => have := HJ5.out; have := HK2.out; omega
                    case rel => exact ⟨(wrap64 (x57_2 + 1)), (x127000_2), (x127001_2), (x127004_2), (x127005_2), (y152), (y153), (.slice (some ⟨go62, 0, none⟩) x138006_2.length co62), (.slice (some ⟨go64, 0, none⟩) x138007_2.length co64), (by first | rfl | (simp; done) | (simp [*]; done)), H', ⟨by have := HJ5.out; have := HK2.out; omega⟩, ⟨by (with_reducible repeat (first | apply rrA | apply rrN | apply rrD)); exact HO_138006.out⟩, ⟨by (with_reducible repeat (first | apply rrA | apply rrN | apply rrD)); exact HO_138007.out⟩, ⟨by (with_reducible repeat (first | refine kkN ?_ _ | refine kkD ?_ | refine kkA ?_ _)); exact BK126.out⟩, ⟨by (with_reducible repeat (first | refine kkN ?_ _ | refine kkD ?_ | refine kkA ?_ _)); exact BK137.out⟩, ⟨by repeat (first | (with_reducible first | exact HB.out | apply zzA | apply zzN | apply zzD | refine below_set ?_ GE126.out | refine below_set ?_ GE137.out) | exact HB.out)⟩⟩
                   ·
                    rw [if_neg c63] at H
                    exact absurd H (by simp)
                  ·
                   rw [if_neg c61] at H
                   exact absurd H (by simp)
                ·
                 rw [if_neg c45] at H
                 have c45b0 : (t149 == 0) = false := beq_eq_false_iff_ne.mpr c45
                 have c45b1 : (t149 != 0) = true := bne_iff_ne.mpr c45
                 simp only [Option.some.injEq, Prod.mk.injEq] at H
                 obtain ⟨rfl, rfl, rfl, rfl, rfl, rfl, rfl, rfl, rfl⟩ := H
                 have p138 : 0 ≤ (x57_2 : Int) := of_decide_eq_true (by first | (with_reducible assumption) | assumption)
                 have q138 : x57_2 < (l0.length : Int) := of_decide_eq_true (by first | (with_reducible assumption) | assumption)
                 obtain ⟨ad138, e138, hx138_0⟩ := Kd.at_int HR0.out x57_2 p138 q138
                 cases e138
                 replace hx138_0 := (HB.out.cell (World.block_lt_of_cell? w _ hx138_0)).trans hx138_0
                 replace p138 := eq_true p138
                 replace q138 := eq_true q138
                 go_wp2_with (first | ((with_reducible refine gate_callee (f := 47) rfl ?_); refine goesL_ (some 66) rfl rfl Try.func47 (by kernel_rfl) rfl #[.int .i64 (rd l0 x57_2), .int .i64 t129, .int .i64 a1] rfl (by (try simp only [List.map_toArray, List.map_cons, List.map_nil]); first | done | rfl | (simp only [List.length_drop, List.length_take]; rfl)) ?_; (with_reducible refine (quant_Level.calls (rd l0 x57_2) t129 a1 t139 t140 t141 _ A39.out).mono ?_); rintro e w' ⟨rfl, ⟨nd, rfl⟩⟩; refine ⟨_, rfl, ?_⟩; (try (rw [drewN_self wr]; generalize hq_ : World.drewN wr _ = wr; have n0_ : Aside0 (Kd.R (Kd.int .u64) 64 wr w.heap.size (fun _ => True) u138006 x138006_2) := ⟨by rw [← hq_]; exact (by (with_reducible repeat (first | apply rrA | apply rrN | apply rrD)); exact HO_138006.out)⟩; have n1_ : Aside0 (Kd.R Kd.bool 4 wr w.heap.size (fun _ => True) u138007 x138007_2) := ⟨by rw [← hq_]; exact (by (with_reducible repeat (first | apply rrA | apply rrN | apply rrD)); exact HO_138007.out)⟩; have n2_ : Aside0 (wr.heap[gb126]? = some (.cells #[.int .i64 x127000_2, .int .i64 x127001_2, .slice none 0 0, .slice none 0 0, .int .i64 x127004_2, .int .i64 x127005_2, .slice none 0 0, .slice none 0 0] 30 (0, 0))) := ⟨by rw [← hq_]; exact (by (with_reducible repeat (first | refine kkN ?_ _ | refine kkD ?_ | refine kkA ?_ _)); exact BK126.out)⟩; have n3_ : Aside0 (wr.heap[gb137]? = some (.cells #[.int .i64 2, .int .i64 (l0.length : Int), .slice none 0 0, .slice none 0 0, .int .i64 t129, .int .i64 a1, u138006, u138007] 30 (0, 0))) := ⟨by rw [← hq_]; exact (by (with_reducible repeat (first | refine kkN ?_ _ | refine kkD ?_ | refine kkA ?_ _)); exact BK137.out)⟩; have n4_ : Aside0 (Below w.heap.size w wr) := ⟨by rw [← hq_]; exact (by repeat (first | (with_reducible first | exact HB.out | apply zzA | apply zzN | apply zzD | refine below_set ?_ GE126.out | refine below_set ?_ GE137.out) | exact HB.out))⟩; clear HO_138006 HO_138007 BK126 BK137 HB hq_; have HO_138006 := n0_; have HO_138007 := n1_; have BK126 := n2_; have BK137 := n3_; have HB := n4_; clear n0_ n1_ n2_ n3_ n4_))) | ((with_reducible refine gate_callee (f := 87) rfl ?_); refine goesL_ (some 82) rfl rfl Try.func87 (by kernel_rfl) rfl #[.slice A3 l3.length c3] rfl (by (try simp only [List.map_toArray, List.map_cons, List.map_nil]); first | done | rfl | (simp only [List.length_drop, List.length_take]; rfl)) ?_; (with_reducible refine (slices_Clone_int_int.calls _ _ l3 t142 _ ?side1 ?side2 A42.out).mono ?_); (case side1 => repeat (first | exact (Kd.C_below HR3.out HB.out) | (with_reducible refine ccA ?_ _) | (with_reducible refine ccN ?_ _) | (with_reducible refine ccD ?_))); (case side2 => exact HC3.out); rintro e w75 ⟨v143, rfl, ho0, hb⟩; refine ⟨_, rfl, ?_⟩; have n0_ := Aside0.mk (Kd.R_below (by (with_reducible repeat (first | apply rrA | apply rrN | apply rrD)); exact HO_138006.out) hb); have n1_ := Aside0.mk (Kd.R_below (by (with_reducible repeat (first | apply rrA | apply rrN | apply rrD)); exact HO_138007.out) hb); have n2_ := Aside0.mk (Kd.R_lower ho0 (zzS (by repeat (first | (with_reducible first | exact HB.out | apply zzA | apply zzN | apply zzD | refine below_set ?_ GE126.out | refine below_set ?_ GE137.out) | exact HB.out)))); have n3_ := Aside0.mk (blk_below (g := gb126) (o := .cells #[.int .i64 x127000_2, .int .i64 x127001_2, .slice none 0 0, .slice none 0 0, .int .i64 x127004_2, .int .i64 x127005_2, .slice none 0 0, .slice none 0 0] 30 (0, 0)) (by (with_reducible repeat (first | refine kkN ?_ _ | refine kkD ?_ | refine kkA ?_ _)); exact BK126.out) hb); have n4_ := Aside0.mk (blk_below (g := gb137) (o := .cells #[.int .i64 2, .int .i64 (l0.length : Int), .slice none 0 0, .slice none 0 0, .int .i64 t129, .int .i64 a1, u138006, u138007] 30 (0, 0)) (by (with_reducible repeat (first | refine kkN ?_ _ | refine kkD ?_ | refine kkA ?_ _)); exact BK137.out) hb); have n5_ := Aside0.mk (zzT (by repeat (first | (with_reducible first | exact HB.out | apply zzA | apply zzN | apply zzD | refine below_set ?_ GE126.out | refine below_set ?_ GE137.out) | exact HB.out)) hb); clear HO_138006; clear HO_138007; clear BK126; clear BK137; clear HB; have HO_138006 := n0_; have HO_138007 := n1_; have HO144 := n2_; have BK126 := n3_; have BK137 := n4_; have HB := n5_; clear n0_ n1_ n2_ n3_ n4_ n5_; (try clear hb); (try clear hb2); (try clear hk); (try clear hi); (try clear ho0)) | ((with_reducible refine gate_builtin (b := .append) (xs := #[.tmp 82, .tmp 84]) rfl ?_); (try (refine gate_guard (by rfl) ?_; dsimp only)); at_builtin; refine Kd.R_append (Kd.int .i64) (w0 := w) w.heap.size rfl (.tmp 82) (.tmp 84) 26 3 (.int .i64 0) 8 rfl Try.underlying26 info3 rfl (by decide) (by omega) v143 t142 x57_2 [.int .i64 x57_2] (fun _ => True) (fun _ => False) rfl rfl ?aP (fun _ hk => hk.elim) ?aF ?aO ?aB ?aS ?aL ?_; (case aP => exact rfl); (case aB => exact (by repeat (first | (with_reducible first | exact HB.out | apply zzA | apply zzN | apply zzD | refine below_set ?_ GE126.out | refine below_set ?_ GE137.out) | exact HB.out))); (case aF => exact (fun _ _ => trivial)); (case aO => exact (by (with_reducible repeat (first | apply rrA | apply rrN | apply rrD)); exact HO144.out)); (case aS => exact (zzS (by repeat (first | (with_reducible first | exact HB.out | apply zzA | apply zzN | apply zzD | refine below_set ?_ GE126.out | refine below_set ?_ GE137.out) | exact HB.out)))); (case aL => have := LMc43.out; omega); intro v146 w76 ho hb hg hat; rw [← Ny145.out] at ho; have n0_ := Aside0.mk (Kd.R_over' (by (with_reducible repeat (first | apply rrA | apply rrN | apply rrD)); exact HO_138006.out) (Kd.R_typed (by (with_reducible repeat (first | apply rrA | apply rrN | apply rrD)); exact HO144.out)) (by decide) hg); have n1_ := Aside0.mk (Kd.R_over' (by (with_reducible repeat (first | apply rrA | apply rrN | apply rrD)); exact HO_138007.out) (Kd.R_typed (by (with_reducible repeat (first | apply rrA | apply rrN | apply rrD)); exact HO144.out)) (by decide) hg); have n2_ := Aside0.mk (blk_grown (g := gb126) (o := .cells #[.int .i64 x127000_2, .int .i64 x127001_2, .slice none 0 0, .slice none 0 0, .int .i64 x127004_2, .int .i64 x127005_2, .slice none 0 0, .slice none 0 0] 30 (0, 0)) (by (with_reducible repeat (first | refine kkN ?_ _ | refine kkD ?_ | refine kkA ?_ _)); exact BK126.out) hg (Kd.R_ne HO144.out BK126.out (by decide))); have n3_ := Aside0.mk (blk_grown (g := gb137) (o := .cells #[.int .i64 2, .int .i64 (l0.length : Int), .slice none 0 0, .slice none 0 0, .int .i64 t129, .int .i64 a1, u138006, u138007] 30 (0, 0)) (by (with_reducible repeat (first | refine kkN ?_ _ | refine kkD ?_ | refine kkA ?_ _)); exact BK137.out) hg (Kd.R_ne HO144.out BK137.out (by decide))); have n4_ := Aside0.mk (hb); have n5_ := Aside0.mk (ho); clear HO_138006; clear HO_138007; clear BK126; clear BK137; clear HB; clear HO144; have HO_138006 := n0_; have HO_138007 := n1_; have BK126 := n2_; have BK137 := n3_; have HB := n4_; have HO147 := n5_; clear n0_ n1_ n2_ n3_ n4_ n5_; clear ho hb hg hat; obtain ⟨Ao77, co77, eo77⟩ := Kd.R_slice HO147.out; subst eo77) | ((with_reducible refine gate_callee (f := 86) rfl ?_); refine goesL_ (some 86) rfl rfl Try.func86 (by kernel_rfl) rfl #[.int .u64 t140, .int .u64 (IntKind.u64.wrap (t129)), .int .u64 a2, .slice Ao77 y145.length co77] rfl (by (try simp only [List.map_toArray, List.map_cons, List.map_nil]); first | done | rfl | (simp only [List.length_drop, List.length_take]; rfl)) ?_; (with_reducible refine (draw_Chance.calls k2 t140 (IntKind.u64.wrap (t129)) a2 _ _ y145 t148 t149 _ ?side1 ?side2 A44.out).mono ?_); (case side1 => repeat (first | exact (Kd.R_reads' HO147.out).2.2 | (with_reducible refine ccA ?_ _) | (with_reducible refine ccN ?_ _) | (with_reducible refine ccD ?_))); (case side2 => exact (Kd.R_reads' HO147.out).2.1); rintro e w' ⟨rfl, ⟨nd, rfl⟩⟩; refine ⟨_, rfl, ?_⟩; (try (rw [drewN_self w76]; generalize hq_ : World.drewN w76 _ = w76; have n0_ : Aside0 (Kd.R (Kd.int .i64) 3 w76 w.heap.size (fun _ => True) (.slice Ao77 y145.length co77) y145) := ⟨by rw [← hq_]; exact (by (with_reducible repeat (first | apply rrA | apply rrN | apply rrD)); exact HO147.out)⟩; have n1_ : Aside0 (Kd.R (Kd.int .u64) 64 w76 w.heap.size (fun _ => True) u138006 x138006_2) := ⟨by rw [← hq_]; exact (by (with_reducible repeat (first | apply rrA | apply rrN | apply rrD)); exact HO_138006.out)⟩; have n2_ : Aside0 (Kd.R Kd.bool 4 w76 w.heap.size (fun _ => True) u138007 x138007_2) := ⟨by rw [← hq_]; exact (by (with_reducible repeat (first | apply rrA | apply rrN | apply rrD)); exact HO_138007.out)⟩; have n3_ : Aside0 (w76.heap[gb126]? = some (.cells #[.int .i64 x127000_2, .int .i64 x127001_2, .slice none 0 0, .slice none 0 0, .int .i64 x127004_2, .int .i64 x127005_2, .slice none 0 0, .slice none 0 0] 30 (0, 0))) := ⟨by rw [← hq_]; exact (by (with_reducible repeat (first | refine kkN ?_ _ | refine kkD ?_ | refine kkA ?_ _)); exact BK126.out)⟩; have n4_ : Aside0 (w76.heap[gb137]? = some (.cells #[.int .i64 2, .int .i64 (l0.length : Int), .slice none 0 0, .slice none 0 0, .int .i64 t129, .int .i64 a1, u138006, u138007] 30 (0, 0))) := ⟨by rw [← hq_]; exact (by (with_reducible repeat (first | refine kkN ?_ _ | refine kkD ?_ | refine kkA ?_ _)); exact BK137.out)⟩; have n5_ : Aside0 (Below w.heap.size w w76) := ⟨by rw [← hq_]; exact (by repeat (first | (with_reducible first | exact HB.out | apply zzA | apply zzN | apply zzD | refine below_set ?_ GE126.out | refine below_set ?_ GE137.out) | exact HB.out))⟩; clear HO147 HO_138006 HO_138007 BK126 BK137 HB hq_; have HO147 := n0_; have HO_138006 := n1_; have HO_138007 := n2_; have BK126 := n3_; have BK137 := n4_; have HB := n5_; clear n0_ n1_ n2_ n3_ n4_ n5_)); have hnb78 := NB126_137.out; have hnc78 := NB137_126.out; have hcz79_0 : w76.cell? ⟨gb126, 0, none⟩ = some (.int .i64 x127000_2) := (blk_cell BK126.out 0).trans rfl; have hcz79_1 : w76.cell? ⟨gb126, 1, none⟩ = some (.int .i64 x127001_2) := (blk_cell BK126.out 1).trans rfl; have hcz79_2 : w76.cell? ⟨gb126, 2, none⟩ = some (.slice none 0 0) := (blk_cell BK126.out 2).trans rfl; have hcz79_3 : w76.cell? ⟨gb126, 3, none⟩ = some (.slice none 0 0) := (blk_cell BK126.out 3).trans rfl; have hcz79_4 : w76.cell? ⟨gb126, 4, none⟩ = some (.int .i64 x127004_2) := (blk_cell BK126.out 4).trans rfl; have hcz79_5 : w76.cell? ⟨gb126, 5, none⟩ = some (.int .i64 x127005_2) := (blk_cell BK126.out 5).trans rfl; have hcz79_6 : w76.cell? ⟨gb126, 6, none⟩ = some (.slice none 0 0) := (blk_cell BK126.out 6).trans rfl; have hcz79_7 : w76.cell? ⟨gb126, 7, none⟩ = some (.slice none 0 0) := (blk_cell BK126.out 7).trans rfl; have hfz79_0 := blk_frozen BK126.out 0; have hfz79_1 := blk_frozen BK126.out 1; have hfz79_2 := blk_frozen BK126.out 2; have hfz79_3 := blk_frozen BK126.out 3; have hfz79_4 := blk_frozen BK126.out 4; have hfz79_5 := blk_frozen BK126.out 5; have hfz79_6 := blk_frozen BK126.out 6; have hfz79_7 := blk_frozen BK126.out 7))
                 refine bodyPost_ret (results_ct rfl _ _ gb126 30 #[.int .i64 0, .int .i64 0, .slice none 0 0, .slice none 0 0, .int .i64 0, .int .i64 0, .slice none 0 0, .slice none 0 0] (0, 0) _ rfl (by (with_reducible repeat (first | refine kkN ?_ _ | refine kkD ?_ | refine kkA ?_ _)); refine blk_put (cs := #[.int .i64 0, .int .i64 0, .slice none 0 0, .slice none 0 0, .int .i64 0, .int .i64 0, .slice none 0 0, .slice none 0 0]) ?_ 7 _ rfl; (with_reducible repeat (first | refine kkN ?_ _ | refine kkD ?_ | refine kkA ?_ _)); refine blk_put (cs := #[.int .i64 0, .int .i64 0, .slice none 0 0, .slice none 0 0, .int .i64 0, .int .i64 0, .slice none 0 0, .slice none 0 0]) ?_ 6 _ rfl; (with_reducible repeat (first | refine kkN ?_ _ | refine kkD ?_ | refine kkA ?_ _)); refine blk_put (cs := #[.int .i64 0, .int .i64 0, .slice none 0 0, .slice none 0 0, .int .i64 0, .int .i64 x127005_2, .slice none 0 0, .slice none 0 0]) ?_ 5 _ rfl; (with_reducible repeat (first | refine kkN ?_ _ | refine kkD ?_ | refine kkA ?_ _)); refine blk_put (cs := #[.int .i64 0, .int .i64 0, .slice none 0 0, .slice none 0 0, .int .i64 x127004_2, .int .i64 x127005_2, .slice none 0 0, .slice none 0 0]) ?_ 4 _ rfl; (with_reducible repeat (first | refine kkN ?_ _ | refine kkD ?_ | refine kkA ?_ _)); refine blk_put (cs := #[.int .i64 0, .int .i64 0, .slice none 0 0, .slice none 0 0, .int .i64 x127004_2, .int .i64 x127005_2, .slice none 0 0, .slice none 0 0]) ?_ 3 _ rfl; (with_reducible repeat (first | refine kkN ?_ _ | refine kkD ?_ | refine kkA ?_ _)); refine blk_put (cs := #[.int .i64 0, .int .i64 0, .slice none 0 0, .slice none 0 0, .int .i64 x127004_2, .int .i64 x127005_2, .slice none 0 0, .slice none 0 0]) ?_ 2 _ rfl; (with_reducible repeat (first | refine kkN ?_ _ | refine kkD ?_ | refine kkA ?_ _)); refine blk_put (cs := #[.int .i64 0, .int .i64 x127001_2, .slice none 0 0, .slice none 0 0, .int .i64 x127004_2, .int .i64 x127005_2, .slice none 0 0, .slice none 0 0]) ?_ 1 _ rfl; (with_reducible repeat (first | refine kkN ?_ _ | refine kkD ?_ | refine kkA ?_ _)); refine blk_put (cs := #[.int .i64 x127000_2, .int .i64 x127001_2, .slice none 0 0, .slice none 0 0, .int .i64 x127004_2, .int .i64 x127005_2, .slice none 0 0, .slice none 0 0]) ?_ 0 _ rfl; (with_reducible repeat (first | refine kkN ?_ _ | refine kkD ?_ | refine kkA ?_ _)); exact BK126.out) Try.underlying30 rfl (by kernel_rfl)) rfl ?_
                 exact ⟨_, _, _, _, by first | rfl | (simp [errW_none, errW_some] <;> rfl) | (simp [*, errW_none, errW_some] <;> rfl), by first | exact Kd.R_nil _ _ _ _ _ | exact Kd.N_nil _ _ _ _ _ | exact Kd.V_nil _ _ _ _ _ | exact Kd.Q_nil _ _ _ _ _ | exact Kd.S_nil _ _ _ _ _, by first | exact Kd.R_nil _ _ _ _ _ | exact Kd.N_nil _ _ _ _ _ | exact Kd.V_nil _ _ _ _ _ | exact Kd.Q_nil _ _ _ _ _ | exact Kd.S_nil _ _ _ _ _, by first | exact Kd.R_nil _ _ _ _ _ | exact Kd.N_nil _ _ _ _ _ | exact Kd.V_nil _ _ _ _ _ | exact Kd.Q_nil _ _ _ _ _ | exact Kd.S_nil _ _ _ _ _, by first | exact Kd.R_nil _ _ _ _ _ | exact Kd.N_nil _ _ _ _ _ | exact Kd.V_nil _ _ _ _ _ | exact Kd.Q_nil _ _ _ _ _ | exact Kd.S_nil _ _ _ _ _, by repeat (first | (with_reducible first | exact HB.out | apply zzA | apply zzN | apply zzD | refine below_set ?_ GE126.out | refine below_set ?_ GE137.out) | exact HB.out)⟩
               ·
                rw [if_neg c43] at H
                exact absurd H (by simp)
              ·
               rw [if_neg c41] at H
               have c41b0 : decide (0 < t140) = false := decide_eq_false c41
               clear c41
               by_cases c80 : x57_2 < (x138006_2.length : Int)
               ·
                rw [if_pos c80] at H
                have c80b0 : decide (x57_2 < (x138006_2.length : Int)) = true := decide_eq_true c80
                clear c80
                obtain ⟨y154, hy154⟩ : ∃ y_ : List Int, y_ = (x138006_2.set (x57_2 : Int).toNat t139) := ⟨_, rfl⟩
                replace H : (if x57_2 < (x138007_2.length : Int) then (quant_Press.l0 k2 a1 a2 l3 t129 l0 (l0.length : Int) (wrap64 (x57_2 + 1)) 2 (l0.length : Int) t129 a1 y154 (x138007_2.set (x57_2 : Int).toNat (decide ((rd l0 x57_2) < 0)))) else (none)) = some (r1, r2, r3, r4, r5, r6, r7, r8, r9) := by first | (rw [hy154]; with_reducible exact H) | (have H2_ := (Option.bind_some _ _).symm.trans H; rw [hy154]; with_reducible exact H2_) | (have H2_ := (Option.bind_some _ _).symm.trans H; with_reducible exact H2_) | with_reducible exact H | (rw [hy154]; exact H) | exact H
                have Ny154 := Aside0.mk hy154
                clear hy154
                by_cases c82 : x57_2 < (x138007_2.length : Int)
                ·
                 rw [if_pos c82] at H
                 have c82b0 : decide (x57_2 < (x138007_2.length : Int)) = true := decide_eq_true c82
                 clear c82
                 obtain ⟨y155, hy155⟩ : ∃ y_ : List Bool, y_ = (x138007_2.set (x57_2 : Int).toNat (decide ((rd l0 x57_2) < 0))) := ⟨_, rfl⟩
                 replace H : (quant_Press.l0 k2 a1 a2 l3 t129 l0 (l0.length : Int) (wrap64 (x57_2 + 1)) 2 (l0.length : Int) t129 a1 y154 y155) = some (r1, r2, r3, r4, r5, r6, r7, r8, r9) := by first | (rw [hy155]; with_reducible exact H) | (have H2_ := (Option.bind_some _ _).symm.trans H; rw [hy155]; with_reducible exact H2_) | (have H2_ := (Option.bind_some _ _).symm.trans H; with_reducible exact H2_) | with_reducible exact H | (rw [hy155]; exact H) | exact H
                 have Ny155 := Aside0.mk hy155
                 clear hy155
                 have H' := Aside0.mk H
                 clear H
                 have p138 : 0 ≤ (x57_2 : Int) := of_decide_eq_true (by first | (with_reducible assumption) | assumption)
                 have q138 : x57_2 < (l0.length : Int) := of_decide_eq_true (by first | (with_reducible assumption) | assumption)
                 obtain ⟨ad138, e138, hx138_0⟩ := Kd.at_int HR0.out x57_2 p138 q138
                 cases e138
                 replace hx138_0 := (HB.out.cell (World.block_lt_of_cell? w _ hx138_0)).trans hx138_0
                 replace p138 := eq_true p138
                 replace q138 := eq_true q138
                 go_wp2_with (first | ((with_reducible refine gate_callee (f := 47) rfl ?_); refine goesL_ (some 66) rfl rfl Try.func47 (by kernel_rfl) rfl #[.int .i64 (rd l0 x57_2), .int .i64 t129, .int .i64 a1] rfl (by (try simp only [List.map_toArray, List.map_cons, List.map_nil]); first | done | rfl | (simp only [List.length_drop, List.length_take]; rfl)) ?_; (with_reducible refine (quant_Level.calls (rd l0 x57_2) t129 a1 t139 t140 t141 _ A39.out).mono ?_); rintro e w' ⟨rfl, ⟨nd, rfl⟩⟩; refine ⟨_, rfl, ?_⟩; (try (rw [drewN_self wr]; generalize hq_ : World.drewN wr _ = wr; have n0_ : Aside0 (Kd.R (Kd.int .u64) 64 wr w.heap.size (fun _ => True) u138006 x138006_2) := ⟨by rw [← hq_]; exact (by (with_reducible repeat (first | apply rrA | apply rrN | apply rrD)); exact HO_138006.out)⟩; have n1_ : Aside0 (Kd.R Kd.bool 4 wr w.heap.size (fun _ => True) u138007 x138007_2) := ⟨by rw [← hq_]; exact (by (with_reducible repeat (first | apply rrA | apply rrN | apply rrD)); exact HO_138007.out)⟩; have n2_ : Aside0 (wr.heap[gb126]? = some (.cells #[.int .i64 x127000_2, .int .i64 x127001_2, .slice none 0 0, .slice none 0 0, .int .i64 x127004_2, .int .i64 x127005_2, .slice none 0 0, .slice none 0 0] 30 (0, 0))) := ⟨by rw [← hq_]; exact (by (with_reducible repeat (first | refine kkN ?_ _ | refine kkD ?_ | refine kkA ?_ _)); exact BK126.out)⟩; have n3_ : Aside0 (wr.heap[gb137]? = some (.cells #[.int .i64 2, .int .i64 (l0.length : Int), .slice none 0 0, .slice none 0 0, .int .i64 t129, .int .i64 a1, u138006, u138007] 30 (0, 0))) := ⟨by rw [← hq_]; exact (by (with_reducible repeat (first | refine kkN ?_ _ | refine kkD ?_ | refine kkA ?_ _)); exact BK137.out)⟩; have n4_ : Aside0 (Below w.heap.size w wr) := ⟨by rw [← hq_]; exact (by repeat (first | (with_reducible first | exact HB.out | apply zzA | apply zzN | apply zzD | refine below_set ?_ GE126.out | refine below_set ?_ GE137.out) | exact HB.out))⟩; clear HO_138006 HO_138007 BK126 BK137 HB hq_; have HO_138006 := n0_; have HO_138007 := n1_; have BK126 := n2_; have BK137 := n3_; have HB := n4_; clear n0_ n1_ n2_ n3_ n4_))))
                 have n_ := Aside0.mk (rrD HO_138006.out)
                 clear HO_138006
                 have HO_138006 := n_
                 clear n_
                 have n_ := Aside0.mk (rrD HO_138007.out)
                 clear HO_138007
                 have HO_138007 := n_
                 clear n_
                 have n_ := Aside0.mk (kkD BK126.out)
                 clear BK126
                 have BK126 := n_
                 clear n_
                 have n_ := Aside0.mk (kkD BK137.out)
                 clear BK137
                 have BK137 := n_
                 clear n_
                 have n_ := Aside0.mk (zzD HB.out)
                 clear HB
                 have HB := n_
                 clear n_
                 refine start_ (n := 13) (S := fun w' => w'.cell? ⟨gb137, 6, none⟩ = some (u138006) ∧ w'.cell? ⟨gb137, 7, none⟩ = some (u138007)) (ds := [12]) #[false, false, false, false, false, false, false, false, false, false, false, false, false] (by kernel_rfl) rfl rfl ⟨(blk_cell BK137.out 6).trans rfl, (blk_cell BK137.out 7).trans rfl⟩ (fun hHeld => ?_)
                 refine with_tabW quant_Press.tab20 quant_Press.bits20 (fun HT_ HW_ => ?_)
                 generalize World.drew wr = wr at HO_138006 HO_138007 BK126 BK137 HB hHeld ⊢
                 have hnb84 := NB137_126.out; have hnc84 := NB126_137.out; have hcz85_0 : wr.cell? ⟨gb137, 0, none⟩ = some (.int .i64 2) := (blk_cell BK137.out 0).trans rfl; have hcz85_1 : wr.cell? ⟨gb137, 1, none⟩ = some (.int .i64 (l0.length : Int)) := (blk_cell BK137.out 1).trans rfl; have hcz85_2 : wr.cell? ⟨gb137, 2, none⟩ = some (.slice none 0 0) := (blk_cell BK137.out 2).trans rfl; have hcz85_3 : wr.cell? ⟨gb137, 3, none⟩ = some (.slice none 0 0) := (blk_cell BK137.out 3).trans rfl; have hcz85_4 : wr.cell? ⟨gb137, 4, none⟩ = some (.int .i64 t129) := (blk_cell BK137.out 4).trans rfl; have hcz85_5 : wr.cell? ⟨gb137, 5, none⟩ = some (.int .i64 a1) := (blk_cell BK137.out 5).trans rfl; have hcz85_6 : wr.cell? ⟨gb137, 6, none⟩ = some (u138006) := (blk_cell BK137.out 6).trans rfl; have hcz85_7 : wr.cell? ⟨gb137, 7, none⟩ = some (u138007) := (blk_cell BK137.out 7).trans rfl; have hfz85_0 := blk_frozen BK137.out 0; have hfz85_1 := blk_frozen BK137.out 1; have hfz85_2 := blk_frozen BK137.out 2; have hfz85_3 := blk_frozen BK137.out 3; have hfz85_4 := blk_frozen BK137.out 4; have hfz85_5 := blk_frozen BK137.out 5; have hfz85_6 := blk_frozen BK137.out 6; have hfz85_7 := blk_frozen BK137.out 7; have p81 : 0 ≤ (x57_2 : Int) := of_decide_eq_true (by first | (with_reducible assumption) | assumption); have q81 : (x57_2 : Int) < ((x138006_2.length : Int) : Int) := of_decide_eq_true (by first | (with_reducible assumption) | assumption); obtain ⟨go81, co81, eo81, gb81, gl81, cl81, HG81⟩ := Kd.R_form HO_138006.out (by omega); (first | cases eo81 | (injection eo81 with ea_ en_ ec_; (first | subst ea_ | (injection ea_ with ea_; subst ea_)); subst ec_; clear en_)); have GB81 := Aside0.mk gb81; have GG81 := Aside0.mk HG81; clear gb81 gl81 HG81; obtain ⟨hx81_0, hf81_0⟩ := Kd.R_celln 0 HO_138006.out (x57_2 : Int) p81 q81; replace p81 := eq_true p81; replace q81 := eq_true q81; obtain ⟨hy86_, hz86_⟩ := Kd.R_celln 0 HO_138006.out (x57_2 : Int) (of_decide_eq_true (by first | (with_reducible assumption) | assumption)) (of_decide_eq_true (by first | (with_reducible assumption) | assumption)); have HP86 := Kd.R_putg HO_138006.out (x57_2 : Int) t139
                 refine pure_ (i := 0) (N := some 96) (v := ?_) (a' := ?_) #[true, false, false, false, false, false, false, false, false, false, false, false, false] rfl rfl (any_of HT_.out (by kernel_rfl)) (fun _ _ _ h => h) (Or.inl ⟨by rfl, ?_⟩) ?_ ?_
                 rotate_left
                 ·
                  intro w'
                  go_simp
                  with_reducible rfl
                 rotate_left
                 ·
                  simp only [Act.put, List.setIfInBounds_toArray, List.set_cons_zero, List.set_cons_succ, i64_w, i32_w]
                  rfl
                 refine pure_ (i := 2) (N := some 98) (v := ?_) (a' := ?_) #[true, false, true, false, false, false, false, false, false, false, false, false, false] rfl rfl (any_of HT_.out (by kernel_rfl)) (fun _ _ _ h => h) (Or.inl ⟨by rfl, ?_⟩) ?_ ?_
                 rotate_left
                 ·
                  intro w'
                  go_simp
                  with_reducible rfl
                 rotate_left
                 ·
                  simp only [Act.put, List.setIfInBounds_toArray, List.set_cons_zero, List.set_cons_succ, i64_w, i32_w]
                  rfl
                 refine pure_ (i := 3) (N := some 99) (v := ?_) (a' := ?_) #[true, false, true, true, false, false, false, false, false, false, false, false, false] rfl rfl (any_of HT_.out (by kernel_rfl)) (fun _ _ _ h => h) (Or.inl ⟨by rfl, ?_⟩) ?_ ?_
                 rotate_left
                 ·
                  intro w'
                  go_simp
                  with_reducible rfl
                 rotate_left
                 ·
                  simp only [Act.put, List.setIfInBounds_toArray, List.set_cons_zero, List.set_cons_succ, i64_w, i32_w]
                  rfl
                 refine pure_ (i := 5) (N := some 101) (v := ?_) (a' := ?_) #[true, false, true, true, false, true, false, false, false, false, false, false, false] rfl rfl (any_of HT_.out (by kernel_rfl)) (fun _ _ _ h => h) (Or.inl ⟨by rfl, ?_⟩) ?_ ?_
                 rotate_left
                 ·
                  intro w'
                  go_simp
                  with_reducible rfl
                 rotate_left
                 ·
                  simp only [Act.put, List.setIfInBounds_toArray, List.set_cons_zero, List.set_cons_succ, i64_w, i32_w]
                  rfl
                 refine pure_ (i := 6) (N := some 102) (v := ?_) (a' := ?_) #[true, false, true, true, false, true, true, false, false, false, false, false, false] rfl rfl (any_of HT_.out (by kernel_rfl)) (fun _ _ _ h => h) (Or.inl ⟨by rfl, ?_⟩) ?_ ?_
                 rotate_left
                 ·
                  intro w'
                  go_simp
                  with_reducible rfl
                 rotate_left
                 ·
                  simp only [Act.put, List.setIfInBounds_toArray, List.set_cons_zero, List.set_cons_succ, i64_w, i32_w]
                  rfl
                 refine pure_ (i := 7) (N := some 103) (v := ?_) (a' := ?_) #[true, false, true, true, false, true, true, true, false, false, false, false, false] rfl rfl (any_of HT_.out (by kernel_rfl)) (fun _ _ _ h => h) (Or.inl ⟨by rfl, ?_⟩) ?_ ?_
                 rotate_left
                 ·
                  intro w'
                  go_simp
                  with_reducible rfl
                 rotate_left
                 ·
                  simp only [Act.put, List.setIfInBounds_toArray, List.set_cons_zero, List.set_cons_succ, i64_w, i32_w]
                  rfl
                 refine pure_ (i := 8) (N := some 104) (v := ?_) (a' := ?_) #[true, false, true, true, false, true, true, true, true, false, false, false, false] rfl rfl (any_of HT_.out (by kernel_rfl)) (fun _ _ _ h => h) (Or.inl ⟨by rfl, ?_⟩) ?_ ?_
                 rotate_left
                 ·
                  intro w'
                  go_simp
                  with_reducible rfl
                 rotate_left
                 ·
                  simp only [Act.put, List.setIfInBounds_toArray, List.set_cons_zero, List.set_cons_succ, i64_w, i32_w]
                  rfl
                 refine take_ (i := 1) (N := some 97) (v := ?_) (a' := ?_) #[true, true, true, true, false, true, true, true, true, false, false, false, false] rfl rfl (take_ofW HT_.out HW_.out (by kernel_rfl)) (fun _ _ _ h => h) (Or.inl ⟨by rfl, ?_⟩) hHeld ?_ ?_
                 rotate_left
                 ·
                  rintro w' ⟨s0, s1⟩
                  go_simp
                  with_reducible rfl
                 rotate_left
                 ·
                  simp only [Act.put, List.setIfInBounds_toArray, List.set_cons_zero, List.set_cons_succ, i64_w, i32_w]
                  rfl
                 refine pure_ (i := 9) (N := some 105) (v := ?_) (a' := ?_) #[true, true, true, true, false, true, true, true, true, true, false, false, false] rfl rfl (any_of HT_.out (by kernel_rfl)) (fun _ _ _ h => h) (Or.inl ⟨by rfl, ?_⟩) ?_ ?_
                 rotate_left
                 ·
                  intro w'
                  go_simp
                  with_reducible rfl
                 rotate_left
                 ·
                  simp only [Act.put, List.setIfInBounds_toArray, List.set_cons_zero, List.set_cons_succ, i64_w, i32_w]
                  rfl
                 refine take_ (i := 4) (N := some 100) (v := ?_) (a' := ?_) #[true, true, true, true, true, true, true, true, true, true, false, false, false] rfl rfl (take_ofW HT_.out HW_.out (by kernel_rfl)) (fun _ _ _ h => h) (Or.inl ⟨by rfl, ?_⟩) hHeld ?_ ?_
                 rotate_left
                 ·
                  rintro w' ⟨s0, s1⟩
                  go_simp
                  with_reducible rfl
                 rotate_left
                 ·
                  simp only [Act.put, List.setIfInBounds_toArray, List.set_cons_zero, List.set_cons_succ, i64_w, i32_w]
                  rfl
                 refine one_ (i := 10) (N := none) #[true, true, true, true, true, true, true, true, true, true, true, false, false] rfl rfl (one_of HT_.out (by kernel_rfl)) (by decide) (fun K hK => ?_)
                 refine skip_ (w1 := (wr.setCell ⟨go81, (x57_2 : Int).toNat, none⟩ (.int .u64 t139))) (by rfl) rfl (by first | (go_simp; done) | (go_simp; rfl)) ?_
                 suffices hs_ : ∀ w_, w_ = (wr.setCell ⟨go81, (x57_2 : Int).toNat, none⟩ (.int .u64 t139)) → K _ w_ from hs_ _ rfl
                 intro w87 hw; have hg : wr.grownBy w87 (some go81) := (by rw [hw]; exact HP86.2); have hp_ : Kd.R (Kd.int .u64) 64 w87 w.heap.size (fun _ => True) (.slice (some ⟨go81, 0, none⟩) x138006_2.length co81) y154 := (by rw [hw, Ny154.out]; exact HP86.1); clear HP86; have n0_ := Aside0.mk (hp_); have n1_ := Aside0.mk (Kd.R_over' (v := (.slice (some ⟨go81, 0, none⟩) x138006_2.length co81)) (by (with_reducible repeat (first | apply rrA | apply rrN | apply rrD)); exact HO_138007.out) (Kd.R_typed HO_138006.out) (by decide) hg); have n2_ := Aside0.mk (blk_grown (g := gb126) (o := .cells #[.int .i64 x127000_2, .int .i64 x127001_2, .slice none 0 0, .slice none 0 0, .int .i64 x127004_2, .int .i64 x127005_2, .slice none 0 0, .slice none 0 0] 30 (0, 0)) (by (with_reducible repeat (first | refine kkN ?_ _ | refine kkD ?_ | refine kkA ?_ _)); exact BK126.out) hg (Kd.R_ne HO_138006.out BK126.out (by decide))); have n3_ := Aside0.mk (blk_grown (g := gb137) (o := .cells #[.int .i64 2, .int .i64 (l0.length : Int), .slice none 0 0, .slice none 0 0, .int .i64 t129, .int .i64 a1, .slice (some ⟨go81, 0, none⟩) x138006_2.length co81, u138007] 30 (0, 0)) (by (with_reducible repeat (first | refine kkN ?_ _ | refine kkD ?_ | refine kkA ?_ _)); exact BK137.out) hg (Kd.R_ne HO_138006.out BK137.out (by decide))); have n4_ := Aside0.mk ((by rw [hw]; exact below_set (HB.out) GB81.out : Below w.heap.size w w87)); clear HO_138006; clear HO_138007; clear BK126; clear BK137; clear HB; have HO_138006 := n0_; have HO_138007 := n1_; have BK126 := n2_; have BK137 := n3_; have HB := n4_; clear n0_ n1_ n2_ n3_ n4_; clear hg hw hp_; have hcz88_0 : w87.cell? ⟨gb137, 0, none⟩ = some (.int .i64 2) := (blk_cell BK137.out 0).trans rfl; have hcz88_1 : w87.cell? ⟨gb137, 1, none⟩ = some (.int .i64 (l0.length : Int)) := (blk_cell BK137.out 1).trans rfl; have hcz88_2 : w87.cell? ⟨gb137, 2, none⟩ = some (.slice none 0 0) := (blk_cell BK137.out 2).trans rfl; have hcz88_3 : w87.cell? ⟨gb137, 3, none⟩ = some (.slice none 0 0) := (blk_cell BK137.out 3).trans rfl; have hcz88_4 : w87.cell? ⟨gb137, 4, none⟩ = some (.int .i64 t129) := (blk_cell BK137.out 4).trans rfl; have hcz88_5 : w87.cell? ⟨gb137, 5, none⟩ = some (.int .i64 a1) := (blk_cell BK137.out 5).trans rfl; have hcz88_6 : w87.cell? ⟨gb137, 6, none⟩ = some (.slice (some ⟨go81, 0, none⟩) x138006_2.length co81) := (blk_cell BK137.out 6).trans rfl; have hcz88_7 : w87.cell? ⟨gb137, 7, none⟩ = some (u138007) := (blk_cell BK137.out 7).trans rfl; have hfz88_0 := blk_frozen BK137.out 0; have hfz88_1 := blk_frozen BK137.out 1; have hfz88_2 := blk_frozen BK137.out 2; have hfz88_3 := blk_frozen BK137.out 3; have hfz88_4 := blk_frozen BK137.out 4; have hfz88_5 := blk_frozen BK137.out 5; have hfz88_6 := blk_frozen BK137.out 6; have hfz88_7 := blk_frozen BK137.out 7; have p83 : 0 ≤ (x57_2 : Int) := of_decide_eq_true (by first | (with_reducible assumption) | assumption); have q83 : (x57_2 : Int) < ((x138007_2.length : Int) : Int) := of_decide_eq_true (by first | (with_reducible assumption) | assumption); obtain ⟨go83, co83, eo83, gb83, gl83, cl83, HG83⟩ := Kd.R_form HO_138007.out (by omega); (first | cases eo83 | (injection eo83 with ea_ en_ ec_; (first | subst ea_ | (injection ea_ with ea_; subst ea_)); subst ec_; clear en_)); have GB83 := Aside0.mk gb83; have GG83 := Aside0.mk HG83; clear gb83 gl83 HG83; obtain ⟨hx83_0, hf83_0⟩ := Kd.R_celln false HO_138007.out (x57_2 : Int) p83 q83; replace p83 := eq_true p83; replace q83 := eq_true q83; obtain ⟨hy89_, hz89_⟩ := Kd.R_celln false HO_138007.out (x57_2 : Int) (of_decide_eq_true (by first | (with_reducible assumption) | assumption)) (of_decide_eq_true (by first | (with_reducible assumption) | assumption)); have HP89 := Kd.R_putg HO_138007.out (x57_2 : Int) (decide ((rd l0 x57_2) < 0))
                 refine hK.out _ _ ⟨hcz88_6, hcz88_7⟩ (fun hHeld => ?_)
                 clear hK K
                 refine pure_ (i := 11) (N := some 106) (v := ?_) (a' := ?_) #[true, true, true, true, true, true, true, true, true, true, true, true, false] rfl rfl (any_of HT_.out (by kernel_rfl)) (fun _ _ _ h => h) (Or.inl ⟨by rfl, ?_⟩) ?_ ?_
                 rotate_left
                 ·
                  intro w'
                  go_simp
                  with_reducible rfl
                 rotate_left
                 ·
                  simp only [Act.put, List.setIfInBounds_toArray, List.set_cons_zero, List.set_cons_succ, i64_w, i32_w]
                  rfl
                 refine last_ (i := 12) (N := none) #[true, true, true, true, true, true, true, true, true, true, true, true, true] rfl rfl (one_of HT_.out (by kernel_rfl)) (by decide) (fun K hK => ?_)
                 refine skip_ (w1 := (w87.setCell ⟨go83, (x57_2 : Int).toNat, none⟩ (.bool (decide ((rd l0 x57_2) < 0))))) (by rfl) rfl (by first | (go_simp; done) | (go_simp; rfl)) ?_
                 suffices hs_ : ∀ w_, w_ = (w87.setCell ⟨go83, (x57_2 : Int).toNat, none⟩ (.bool (decide ((rd l0 x57_2) < 0)))) → K _ w_ from hs_ _ rfl
                 intro w90 hw; have hg : w87.grownBy w90 (some go83) := (by rw [hw]; exact HP89.2); have hp_ : Kd.R Kd.bool 4 w90 w.heap.size (fun _ => True) (.slice (some ⟨go83, 0, none⟩) x138007_2.length co83) y155 := (by rw [hw, Ny155.out]; exact HP89.1); clear HP89; have n0_ := Aside0.mk (Kd.R_over' (v := (.slice (some ⟨go83, 0, none⟩) x138007_2.length co83)) (by (with_reducible repeat (first | apply rrA | apply rrN | apply rrD)); exact HO_138006.out) (Kd.R_typed HO_138007.out) (by decide) hg); have n1_ := Aside0.mk (hp_); have n2_ := Aside0.mk (blk_grown (g := gb126) (o := .cells #[.int .i64 x127000_2, .int .i64 x127001_2, .slice none 0 0, .slice none 0 0, .int .i64 x127004_2, .int .i64 x127005_2, .slice none 0 0, .slice none 0 0] 30 (0, 0)) (by (with_reducible repeat (first | refine kkN ?_ _ | refine kkD ?_ | refine kkA ?_ _)); exact BK126.out) hg (Kd.R_ne HO_138007.out BK126.out (by decide))); have n3_ := Aside0.mk (blk_grown (g := gb137) (o := .cells #[.int .i64 2, .int .i64 (l0.length : Int), .slice none 0 0, .slice none 0 0, .int .i64 t129, .int .i64 a1, .slice (some ⟨go81, 0, none⟩) x138006_2.length co81, .slice (some ⟨go83, 0, none⟩) x138007_2.length co83] 30 (0, 0)) (by (with_reducible repeat (first | refine kkN ?_ _ | refine kkD ?_ | refine kkA ?_ _)); exact BK137.out) hg (Kd.R_ne HO_138007.out BK137.out (by decide))); have n4_ := Aside0.mk ((by rw [hw]; exact below_set (HB.out) GB83.out : Below w.heap.size w w90)); clear HO_138006; clear HO_138007; clear BK126; clear BK137; clear HB; have HO_138006 := n0_; have HO_138007 := n1_; have BK126 := n2_; have BK137 := n3_; have HB := n4_; clear n0_ n1_ n2_ n3_ n4_; clear hg hw hp_
                 refine hK.out _ _ ?_
                 clear hK K
                 refine done_ (done_of HT_.out (by kernel_rfl)) ?_
                 try go_wp2
                 go_roundg k2
                 case measure => have := HJ5.out; have := HK2.out; omega
                 case rel => exact ⟨(wrap64 (x57_2 + 1)), (x127000_2), (x127001_2), (x127004_2), (x127005_2), (y154), (y155), (.slice (some ⟨go81, 0, none⟩) x138006_2.length co81), (.slice (some ⟨go83, 0, none⟩) x138007_2.length co83), (by first | rfl | (simp; done) | (simp [*]; done)), H', ⟨by have := HJ5.out; have := HK2.out; omega⟩, ⟨by (with_reducible repeat (first | apply rrA | apply rrN | apply rrD)); exact HO_138006.out⟩, ⟨by (with_reducible repeat (first | apply rrA | apply rrN | apply rrD)); exact HO_138007.out⟩, ⟨by (with_reducible repeat (first | refine kkN ?_ _ | refine kkD ?_ | refine kkA ?_ _)); exact BK126.out⟩, ⟨by (with_reducible repeat (first | refine kkN ?_ _ | refine kkD ?_ | refine kkA ?_ _)); exact BK137.out⟩, ⟨by repeat (first | (with_reducible first | exact HB.out | apply zzA | apply zzN | apply zzD | refine below_set ?_ GE126.out | refine below_set ?_ GE137.out) | exact HB.out)⟩⟩
                ·
                 rw [if_neg c82] at H
                 exact absurd H (by simp)
               ·
                rw [if_neg c80] at H
                exact absurd H (by simp)
             ·
              rw [if_neg c40] at H
              have c40b0 : (t141 == 0) = false := beq_eq_false_iff_ne.mpr c40
              have c40b1 : (t141 != 0) = true := bne_iff_ne.mpr c40
              simp only [Option.some.injEq, Prod.mk.injEq] at H
              obtain ⟨rfl, rfl, rfl, rfl, rfl, rfl, rfl, rfl, rfl⟩ := H
              have p138 : 0 ≤ (x57_2 : Int) := of_decide_eq_true (by first | (with_reducible assumption) | assumption)
              have q138 : x57_2 < (l0.length : Int) := of_decide_eq_true (by first | (with_reducible assumption) | assumption)
              obtain ⟨ad138, e138, hx138_0⟩ := Kd.at_int HR0.out x57_2 p138 q138
              cases e138
              replace hx138_0 := (HB.out.cell (World.block_lt_of_cell? w _ hx138_0)).trans hx138_0
              replace p138 := eq_true p138
              replace q138 := eq_true q138
              go_wp2_with (first | ((with_reducible refine gate_callee (f := 47) rfl ?_); refine goesL_ (some 66) rfl rfl Try.func47 (by kernel_rfl) rfl #[.int .i64 (rd l0 x57_2), .int .i64 t129, .int .i64 a1] rfl (by (try simp only [List.map_toArray, List.map_cons, List.map_nil]); first | done | rfl | (simp only [List.length_drop, List.length_take]; rfl)) ?_; (with_reducible refine (quant_Level.calls (rd l0 x57_2) t129 a1 t139 t140 t141 _ A39.out).mono ?_); rintro e w' ⟨rfl, ⟨nd, rfl⟩⟩; refine ⟨_, rfl, ?_⟩; (try (rw [drewN_self wr]; generalize hq_ : World.drewN wr _ = wr; have n0_ : Aside0 (Kd.R (Kd.int .u64) 64 wr w.heap.size (fun _ => True) u138006 x138006_2) := ⟨by rw [← hq_]; exact (by (with_reducible repeat (first | apply rrA | apply rrN | apply rrD)); exact HO_138006.out)⟩; have n1_ : Aside0 (Kd.R Kd.bool 4 wr w.heap.size (fun _ => True) u138007 x138007_2) := ⟨by rw [← hq_]; exact (by (with_reducible repeat (first | apply rrA | apply rrN | apply rrD)); exact HO_138007.out)⟩; have n2_ : Aside0 (wr.heap[gb126]? = some (.cells #[.int .i64 x127000_2, .int .i64 x127001_2, .slice none 0 0, .slice none 0 0, .int .i64 x127004_2, .int .i64 x127005_2, .slice none 0 0, .slice none 0 0] 30 (0, 0))) := ⟨by rw [← hq_]; exact (by (with_reducible repeat (first | refine kkN ?_ _ | refine kkD ?_ | refine kkA ?_ _)); exact BK126.out)⟩; have n3_ : Aside0 (wr.heap[gb137]? = some (.cells #[.int .i64 2, .int .i64 (l0.length : Int), .slice none 0 0, .slice none 0 0, .int .i64 t129, .int .i64 a1, u138006, u138007] 30 (0, 0))) := ⟨by rw [← hq_]; exact (by (with_reducible repeat (first | refine kkN ?_ _ | refine kkD ?_ | refine kkA ?_ _)); exact BK137.out)⟩; have n4_ : Aside0 (Below w.heap.size w wr) := ⟨by rw [← hq_]; exact (by repeat (first | (with_reducible first | exact HB.out | apply zzA | apply zzN | apply zzD | refine below_set ?_ GE126.out | refine below_set ?_ GE137.out) | exact HB.out))⟩; clear HO_138006 HO_138007 BK126 BK137 HB hq_; have HO_138006 := n0_; have HO_138007 := n1_; have BK126 := n2_; have BK137 := n3_; have HB := n4_; clear n0_ n1_ n2_ n3_ n4_)); have hnb91 := NB126_137.out; have hnc91 := NB137_126.out; have hcz92_0 : wr.cell? ⟨gb126, 0, none⟩ = some (.int .i64 x127000_2) := (blk_cell BK126.out 0).trans rfl; have hcz92_1 : wr.cell? ⟨gb126, 1, none⟩ = some (.int .i64 x127001_2) := (blk_cell BK126.out 1).trans rfl; have hcz92_2 : wr.cell? ⟨gb126, 2, none⟩ = some (.slice none 0 0) := (blk_cell BK126.out 2).trans rfl; have hcz92_3 : wr.cell? ⟨gb126, 3, none⟩ = some (.slice none 0 0) := (blk_cell BK126.out 3).trans rfl; have hcz92_4 : wr.cell? ⟨gb126, 4, none⟩ = some (.int .i64 x127004_2) := (blk_cell BK126.out 4).trans rfl; have hcz92_5 : wr.cell? ⟨gb126, 5, none⟩ = some (.int .i64 x127005_2) := (blk_cell BK126.out 5).trans rfl; have hcz92_6 : wr.cell? ⟨gb126, 6, none⟩ = some (.slice none 0 0) := (blk_cell BK126.out 6).trans rfl; have hcz92_7 : wr.cell? ⟨gb126, 7, none⟩ = some (.slice none 0 0) := (blk_cell BK126.out 7).trans rfl; have hfz92_0 := blk_frozen BK126.out 0; have hfz92_1 := blk_frozen BK126.out 1; have hfz92_2 := blk_frozen BK126.out 2; have hfz92_3 := blk_frozen BK126.out 3; have hfz92_4 := blk_frozen BK126.out 4; have hfz92_5 := blk_frozen BK126.out 5; have hfz92_6 := blk_frozen BK126.out 6; have hfz92_7 := blk_frozen BK126.out 7))
              refine bodyPost_ret (results_ct rfl _ _ gb126 30 #[.int .i64 0, .int .i64 0, .slice none 0 0, .slice none 0 0, .int .i64 0, .int .i64 0, .slice none 0 0, .slice none 0 0] (0, 0) _ rfl (by (with_reducible repeat (first | refine kkN ?_ _ | refine kkD ?_ | refine kkA ?_ _)); refine blk_put (cs := #[.int .i64 0, .int .i64 0, .slice none 0 0, .slice none 0 0, .int .i64 0, .int .i64 0, .slice none 0 0, .slice none 0 0]) ?_ 7 _ rfl; (with_reducible repeat (first | refine kkN ?_ _ | refine kkD ?_ | refine kkA ?_ _)); refine blk_put (cs := #[.int .i64 0, .int .i64 0, .slice none 0 0, .slice none 0 0, .int .i64 0, .int .i64 0, .slice none 0 0, .slice none 0 0]) ?_ 6 _ rfl; (with_reducible repeat (first | refine kkN ?_ _ | refine kkD ?_ | refine kkA ?_ _)); refine blk_put (cs := #[.int .i64 0, .int .i64 0, .slice none 0 0, .slice none 0 0, .int .i64 0, .int .i64 x127005_2, .slice none 0 0, .slice none 0 0]) ?_ 5 _ rfl; (with_reducible repeat (first | refine kkN ?_ _ | refine kkD ?_ | refine kkA ?_ _)); refine blk_put (cs := #[.int .i64 0, .int .i64 0, .slice none 0 0, .slice none 0 0, .int .i64 x127004_2, .int .i64 x127005_2, .slice none 0 0, .slice none 0 0]) ?_ 4 _ rfl; (with_reducible repeat (first | refine kkN ?_ _ | refine kkD ?_ | refine kkA ?_ _)); refine blk_put (cs := #[.int .i64 0, .int .i64 0, .slice none 0 0, .slice none 0 0, .int .i64 x127004_2, .int .i64 x127005_2, .slice none 0 0, .slice none 0 0]) ?_ 3 _ rfl; (with_reducible repeat (first | refine kkN ?_ _ | refine kkD ?_ | refine kkA ?_ _)); refine blk_put (cs := #[.int .i64 0, .int .i64 0, .slice none 0 0, .slice none 0 0, .int .i64 x127004_2, .int .i64 x127005_2, .slice none 0 0, .slice none 0 0]) ?_ 2 _ rfl; (with_reducible repeat (first | refine kkN ?_ _ | refine kkD ?_ | refine kkA ?_ _)); refine blk_put (cs := #[.int .i64 0, .int .i64 x127001_2, .slice none 0 0, .slice none 0 0, .int .i64 x127004_2, .int .i64 x127005_2, .slice none 0 0, .slice none 0 0]) ?_ 1 _ rfl; (with_reducible repeat (first | refine kkN ?_ _ | refine kkD ?_ | refine kkA ?_ _)); refine blk_put (cs := #[.int .i64 x127000_2, .int .i64 x127001_2, .slice none 0 0, .slice none 0 0, .int .i64 x127004_2, .int .i64 x127005_2, .slice none 0 0, .slice none 0 0]) ?_ 0 _ rfl; (with_reducible repeat (first | refine kkN ?_ _ | refine kkD ?_ | refine kkA ?_ _)); exact BK126.out) Try.underlying30 rfl (by kernel_rfl)) rfl ?_
              exact ⟨_, _, _, _, by first | rfl | (simp [errW_none, errW_some] <;> rfl) | (simp [*, errW_none, errW_some] <;> rfl), by first | exact Kd.R_nil _ _ _ _ _ | exact Kd.N_nil _ _ _ _ _ | exact Kd.V_nil _ _ _ _ _ | exact Kd.Q_nil _ _ _ _ _ | exact Kd.S_nil _ _ _ _ _, by first | exact Kd.R_nil _ _ _ _ _ | exact Kd.N_nil _ _ _ _ _ | exact Kd.V_nil _ _ _ _ _ | exact Kd.Q_nil _ _ _ _ _ | exact Kd.S_nil _ _ _ _ _, by first | exact Kd.R_nil _ _ _ _ _ | exact Kd.N_nil _ _ _ _ _ | exact Kd.V_nil _ _ _ _ _ | exact Kd.Q_nil _ _ _ _ _ | exact Kd.S_nil _ _ _ _ _, by first | exact Kd.R_nil _ _ _ _ _ | exact Kd.N_nil _ _ _ _ _ | exact Kd.V_nil _ _ _ _ _ | exact Kd.Q_nil _ _ _ _ _ | exact Kd.S_nil _ _ _ _ _, by repeat (first | (with_reducible first | exact HB.out | apply zzA | apply zzN | apply zzD | refine below_set ?_ GE126.out | refine below_set ?_ GE137.out) | exact HB.out)⟩
            ·
             rw [if_neg c38] at H
             exact absurd H (by simp)
           ·
            rw [if_neg c37] at H
            exact absurd H (by simp)
          ·
           rw [if_neg c36] at H
           have c36b0 : decide (x57_2 < (l0.length : Int)) = false := decide_eq_false c36
           clear c36
           simp only [Option.some.injEq, Prod.mk.injEq] at H
           obtain ⟨rfl, rfl, rfl, rfl, rfl, rfl, rfl, rfl, rfl⟩ := H
           have hnb93 := NB137_126.out
           have hnc93 := NB126_137.out
           have hcz94_0 : wr.cell? ⟨gb137, 0, none⟩ = some (.int .i64 2) := (blk_cell BK137.out 0).trans rfl
           have hcz94_1 : wr.cell? ⟨gb137, 1, none⟩ = some (.int .i64 (l0.length : Int)) := (blk_cell BK137.out 1).trans rfl
           have hcz94_2 : wr.cell? ⟨gb137, 2, none⟩ = some (.slice none 0 0) := (blk_cell BK137.out 2).trans rfl
           have hcz94_3 : wr.cell? ⟨gb137, 3, none⟩ = some (.slice none 0 0) := (blk_cell BK137.out 3).trans rfl
           have hcz94_4 : wr.cell? ⟨gb137, 4, none⟩ = some (.int .i64 t129) := (blk_cell BK137.out 4).trans rfl
           have hcz94_5 : wr.cell? ⟨gb137, 5, none⟩ = some (.int .i64 a1) := (blk_cell BK137.out 5).trans rfl
           have hcz94_6 : wr.cell? ⟨gb137, 6, none⟩ = some (u138006) := (blk_cell BK137.out 6).trans rfl
           have hcz94_7 : wr.cell? ⟨gb137, 7, none⟩ = some (u138007) := (blk_cell BK137.out 7).trans rfl
           have hfz94_0 := blk_frozen BK137.out 0
           have hfz94_1 := blk_frozen BK137.out 1
           have hfz94_2 := blk_frozen BK137.out 2
           have hfz94_3 := blk_frozen BK137.out 3
           have hfz94_4 := blk_frozen BK137.out 4
           have hfz94_5 := blk_frozen BK137.out 5
           have hfz94_6 := blk_frozen BK137.out 6
           have hfz94_7 := blk_frozen BK137.out 7
           have hcz95_0 : wr.cell? ⟨gb126, 0, none⟩ = some (.int .i64 x127000_2) := (blk_cell BK126.out 0).trans rfl
           have hcz95_1 : wr.cell? ⟨gb126, 1, none⟩ = some (.int .i64 x127001_2) := (blk_cell BK126.out 1).trans rfl
           have hcz95_2 : wr.cell? ⟨gb126, 2, none⟩ = some (.slice none 0 0) := (blk_cell BK126.out 2).trans rfl
           have hcz95_3 : wr.cell? ⟨gb126, 3, none⟩ = some (.slice none 0 0) := (blk_cell BK126.out 3).trans rfl
           have hcz95_4 : wr.cell? ⟨gb126, 4, none⟩ = some (.int .i64 x127004_2) := (blk_cell BK126.out 4).trans rfl
           have hcz95_5 : wr.cell? ⟨gb126, 5, none⟩ = some (.int .i64 x127005_2) := (blk_cell BK126.out 5).trans rfl
           have hcz95_6 : wr.cell? ⟨gb126, 6, none⟩ = some (.slice none 0 0) := (blk_cell BK126.out 6).trans rfl
           have hcz95_7 : wr.cell? ⟨gb126, 7, none⟩ = some (.slice none 0 0) := (blk_cell BK126.out 7).trans rfl
           have hfz95_0 := blk_frozen BK126.out 0
           have hfz95_1 := blk_frozen BK126.out 1
           have hfz95_2 := blk_frozen BK126.out 2
           have hfz95_3 := blk_frozen BK126.out 3
           have hfz95_4 := blk_frozen BK126.out 4
           have hfz95_5 := blk_frozen BK126.out 5
           have hfz95_6 := blk_frozen BK126.out 6
           have hfz95_7 := blk_frozen BK126.out 7
           obtain ⟨Ao96, co96, eo96⟩ := Kd.R_slice HO_138006.out
           subst eo96
           obtain ⟨Ao97, co97, eo97⟩ := Kd.R_slice HO_138007.out
           subst eo97
           go_wp2
           refine bodyPost_ret (results_ct rfl _ _ gb126 30 #[.int .i64 2, .int .i64 (l0.length : Int), .slice none 0 0, .slice none 0 0, .int .i64 t129, .int .i64 a1, .slice Ao96 x138006_2.length co96, .slice Ao97 x138007_2.length co97] (0, 0) _ rfl (by (with_reducible repeat (first | refine kkN ?_ _ | refine kkD ?_ | refine kkA ?_ _)); refine blk_put (cs := #[.int .i64 2, .int .i64 (l0.length : Int), .slice none 0 0, .slice none 0 0, .int .i64 t129, .int .i64 a1, .slice Ao96 x138006_2.length co96, .slice none 0 0]) ?_ 7 _ rfl; (with_reducible repeat (first | refine kkN ?_ _ | refine kkD ?_ | refine kkA ?_ _)); refine blk_put (cs := #[.int .i64 2, .int .i64 (l0.length : Int), .slice none 0 0, .slice none 0 0, .int .i64 t129, .int .i64 a1, .slice none 0 0, .slice none 0 0]) ?_ 6 _ rfl; (with_reducible repeat (first | refine kkN ?_ _ | refine kkD ?_ | refine kkA ?_ _)); refine blk_put (cs := #[.int .i64 2, .int .i64 (l0.length : Int), .slice none 0 0, .slice none 0 0, .int .i64 t129, .int .i64 x127005_2, .slice none 0 0, .slice none 0 0]) ?_ 5 _ rfl; (with_reducible repeat (first | refine kkN ?_ _ | refine kkD ?_ | refine kkA ?_ _)); refine blk_put (cs := #[.int .i64 2, .int .i64 (l0.length : Int), .slice none 0 0, .slice none 0 0, .int .i64 x127004_2, .int .i64 x127005_2, .slice none 0 0, .slice none 0 0]) ?_ 4 _ rfl; (with_reducible repeat (first | refine kkN ?_ _ | refine kkD ?_ | refine kkA ?_ _)); refine blk_put (cs := #[.int .i64 2, .int .i64 (l0.length : Int), .slice none 0 0, .slice none 0 0, .int .i64 x127004_2, .int .i64 x127005_2, .slice none 0 0, .slice none 0 0]) ?_ 3 _ rfl; (with_reducible repeat (first | refine kkN ?_ _ | refine kkD ?_ | refine kkA ?_ _)); refine blk_put (cs := #[.int .i64 2, .int .i64 (l0.length : Int), .slice none 0 0, .slice none 0 0, .int .i64 x127004_2, .int .i64 x127005_2, .slice none 0 0, .slice none 0 0]) ?_ 2 _ rfl; (with_reducible repeat (first | refine kkN ?_ _ | refine kkD ?_ | refine kkA ?_ _)); refine blk_put (cs := #[.int .i64 2, .int .i64 x127001_2, .slice none 0 0, .slice none 0 0, .int .i64 x127004_2, .int .i64 x127005_2, .slice none 0 0, .slice none 0 0]) ?_ 1 _ rfl; (with_reducible repeat (first | refine kkN ?_ _ | refine kkD ?_ | refine kkA ?_ _)); refine blk_put (cs := #[.int .i64 x127000_2, .int .i64 x127001_2, .slice none 0 0, .slice none 0 0, .int .i64 x127004_2, .int .i64 x127005_2, .slice none 0 0, .slice none 0 0]) ?_ 0 _ rfl; (with_reducible repeat (first | refine kkN ?_ _ | refine kkD ?_ | refine kkA ?_ _)); exact BK126.out) Try.underlying30 rfl (by kernel_rfl)) rfl ?_
           exact ⟨_, _, _, _, by first | rfl | (simp [errW_none, errW_some] <;> rfl) | (simp [*, errW_none, errW_some] <;> rfl), by first | exact Kd.R_nil _ _ _ _ _ | exact Kd.N_nil _ _ _ _ _ | exact Kd.V_nil _ _ _ _ _ | exact Kd.Q_nil _ _ _ _ _ | exact Kd.S_nil _ _ _ _ _, by first | exact Kd.R_nil _ _ _ _ _ | exact Kd.N_nil _ _ _ _ _ | exact Kd.V_nil _ _ _ _ _ | exact Kd.Q_nil _ _ _ _ _ | exact Kd.S_nil _ _ _ _ _, by (with_reducible repeat (first | apply rrA | apply rrN | apply rrD)); exact Kd.R_mono (Kd.R_far (p := ⟨gb126, 7, none⟩) (Kd.R_far (p := ⟨gb126, 6, none⟩) (Kd.R_far (p := ⟨gb126, 5, none⟩) (Kd.R_far (p := ⟨gb126, 4, none⟩) (Kd.R_far (p := ⟨gb126, 3, none⟩) (Kd.R_far (p := ⟨gb126, 2, none⟩) (Kd.R_far (p := ⟨gb126, 1, none⟩) (Kd.R_far (p := ⟨gb126, 0, none⟩) (Kd.R_types HO_138006.out BK126.out (by decide)) (fun _ hk => hk.2) (.int .i64 2)) (fun _ hk => hk.2) (.int .i64 (l0.length : Int))) (fun _ hk => hk.2) (.slice none 0 0)) (fun _ hk => hk.2) (.slice none 0 0)) (fun _ hk => hk.2) (.int .i64 t129)) (fun _ hk => hk.2) (.int .i64 a1)) (fun _ hk => hk.2) (.slice Ao96 x138006_2.length co96)) (fun _ hk => hk.2) (.slice Ao97 x138007_2.length co97)) (fun _ hk => trivial), by (with_reducible repeat (first | apply rrA | apply rrN | apply rrD)); exact Kd.R_mono (Kd.R_far (p := ⟨gb126, 7, none⟩) (Kd.R_far (p := ⟨gb126, 6, none⟩) (Kd.R_far (p := ⟨gb126, 5, none⟩) (Kd.R_far (p := ⟨gb126, 4, none⟩) (Kd.R_far (p := ⟨gb126, 3, none⟩) (Kd.R_far (p := ⟨gb126, 2, none⟩) (Kd.R_far (p := ⟨gb126, 1, none⟩) (Kd.R_far (p := ⟨gb126, 0, none⟩) (Kd.R_types HO_138007.out BK126.out (by decide)) (fun _ hk => hk.2) (.int .i64 2)) (fun _ hk => hk.2) (.int .i64 (l0.length : Int))) (fun _ hk => hk.2) (.slice none 0 0)) (fun _ hk => hk.2) (.slice none 0 0)) (fun _ hk => hk.2) (.int .i64 t129)) (fun _ hk => hk.2) (.int .i64 a1)) (fun _ hk => hk.2) (.slice Ao96 x138006_2.length co96)) (fun _ hk => hk.2) (.slice Ao97 x138007_2.length co97)) (fun _ hk => trivial), by repeat (first | (with_reducible first | exact HB.out | apply zzA | apply zzN | apply zzD | refine below_set ?_ GE126.out | refine below_set ?_ GE137.out) | exact HB.out)⟩
       ·
        rw [if_neg c15] at H
        exact absurd H (by simp)
      ·
       rw [if_neg c14] at H
       exact absurd H (by simp)
     ·
      rw [if_neg c13] at H
      exact absurd H (by simp)
    ·
     rw [if_neg c12] at H
     have c12b0 : (t130 == 0) = false := beq_eq_false_iff_ne.mpr c12
     have c12b1 : (t130 != 0) = true := bne_iff_ne.mpr c12
     simp only [Option.some.injEq, Prod.mk.injEq] at H
     obtain ⟨rfl, rfl, rfl, rfl, rfl, rfl, rfl, rfl, rfl⟩ := H
     go_wp2_with (first | ((with_reducible refine gate_callee (f := 65) rfl ?_); refine goesL_ (some 37) rfl rfl Try.func65 (by kernel_rfl) rfl #[.slice A0 l0.length c0] rfl (by (try simp only [List.map_toArray, List.map_cons, List.map_nil]); first | done | rfl | (simp only [List.length_drop, List.length_take]; rfl)) ?_; (with_reducible refine (vec_Most.calls _ _ l0 t129 t130 _ ?side1 ?side2 A11.out).mono ?_); (case side1 => repeat (first | exact (Kd.C_below HR0.out HB.out) | (with_reducible refine ccA ?_ _) | (with_reducible refine ccN ?_ _) | (with_reducible refine ccD ?_))); (case side2 => exact HC0.out); rintro e w98 ⟨rfl, hb⟩; refine ⟨_, rfl, ?_⟩; have n0_ := Aside0.mk (blk_below (g := gb126) (o := .cells #[.int .i64 0, .int .i64 0, .slice none 0 0, .slice none 0 0, .int .i64 0, .int .i64 0, .slice none 0 0, .slice none 0 0] 30 (0, 0)) (by (with_reducible repeat (first | refine kkN ?_ _ | refine kkD ?_ | refine kkA ?_ _)); exact BK126.out) hb); have n1_ := Aside0.mk (zzT (by repeat (first | (with_reducible first | exact HB.out | apply zzA | apply zzN | apply zzD | refine below_set ?_ GE126.out) | exact HB.out)) hb); clear BK126; clear HB; have BK126 := n0_; have HB := n1_; clear n0_ n1_; (try clear hb); (try clear hb2); (try clear hk); (try clear hi); have hcz99_0 : w98.cell? ⟨gb126, 0, none⟩ = some (.int .i64 0) := (blk_cell BK126.out 0).trans rfl; have hcz99_1 : w98.cell? ⟨gb126, 1, none⟩ = some (.int .i64 0) := (blk_cell BK126.out 1).trans rfl; have hcz99_2 : w98.cell? ⟨gb126, 2, none⟩ = some (.slice none 0 0) := (blk_cell BK126.out 2).trans rfl; have hcz99_3 : w98.cell? ⟨gb126, 3, none⟩ = some (.slice none 0 0) := (blk_cell BK126.out 3).trans rfl; have hcz99_4 : w98.cell? ⟨gb126, 4, none⟩ = some (.int .i64 0) := (blk_cell BK126.out 4).trans rfl; have hcz99_5 : w98.cell? ⟨gb126, 5, none⟩ = some (.int .i64 0) := (blk_cell BK126.out 5).trans rfl; have hcz99_6 : w98.cell? ⟨gb126, 6, none⟩ = some (.slice none 0 0) := (blk_cell BK126.out 6).trans rfl; have hcz99_7 : w98.cell? ⟨gb126, 7, none⟩ = some (.slice none 0 0) := (blk_cell BK126.out 7).trans rfl; have hfz99_0 := blk_frozen BK126.out 0; have hfz99_1 := blk_frozen BK126.out 1; have hfz99_2 := blk_frozen BK126.out 2; have hfz99_3 := blk_frozen BK126.out 3; have hfz99_4 := blk_frozen BK126.out 4; have hfz99_5 := blk_frozen BK126.out 5; have hfz99_6 := blk_frozen BK126.out 6; have hfz99_7 := blk_frozen BK126.out 7))
     refine bodyPost_ret (results_ct rfl _ _ gb126 30 #[.int .i64 0, .int .i64 0, .slice none 0 0, .slice none 0 0, .int .i64 0, .int .i64 0, .slice none 0 0, .slice none 0 0] (0, 0) _ rfl (by (with_reducible repeat (first | refine kkN ?_ _ | refine kkD ?_ | refine kkA ?_ _)); refine blk_put (cs := #[.int .i64 0, .int .i64 0, .slice none 0 0, .slice none 0 0, .int .i64 0, .int .i64 0, .slice none 0 0, .slice none 0 0]) ?_ 7 _ rfl; (with_reducible repeat (first | refine kkN ?_ _ | refine kkD ?_ | refine kkA ?_ _)); refine blk_put (cs := #[.int .i64 0, .int .i64 0, .slice none 0 0, .slice none 0 0, .int .i64 0, .int .i64 0, .slice none 0 0, .slice none 0 0]) ?_ 6 _ rfl; (with_reducible repeat (first | refine kkN ?_ _ | refine kkD ?_ | refine kkA ?_ _)); refine blk_put (cs := #[.int .i64 0, .int .i64 0, .slice none 0 0, .slice none 0 0, .int .i64 0, .int .i64 0, .slice none 0 0, .slice none 0 0]) ?_ 5 _ rfl; (with_reducible repeat (first | refine kkN ?_ _ | refine kkD ?_ | refine kkA ?_ _)); refine blk_put (cs := #[.int .i64 0, .int .i64 0, .slice none 0 0, .slice none 0 0, .int .i64 0, .int .i64 0, .slice none 0 0, .slice none 0 0]) ?_ 4 _ rfl; (with_reducible repeat (first | refine kkN ?_ _ | refine kkD ?_ | refine kkA ?_ _)); refine blk_put (cs := #[.int .i64 0, .int .i64 0, .slice none 0 0, .slice none 0 0, .int .i64 0, .int .i64 0, .slice none 0 0, .slice none 0 0]) ?_ 3 _ rfl; (with_reducible repeat (first | refine kkN ?_ _ | refine kkD ?_ | refine kkA ?_ _)); refine blk_put (cs := #[.int .i64 0, .int .i64 0, .slice none 0 0, .slice none 0 0, .int .i64 0, .int .i64 0, .slice none 0 0, .slice none 0 0]) ?_ 2 _ rfl; (with_reducible repeat (first | refine kkN ?_ _ | refine kkD ?_ | refine kkA ?_ _)); refine blk_put (cs := #[.int .i64 0, .int .i64 0, .slice none 0 0, .slice none 0 0, .int .i64 0, .int .i64 0, .slice none 0 0, .slice none 0 0]) ?_ 1 _ rfl; (with_reducible repeat (first | refine kkN ?_ _ | refine kkD ?_ | refine kkA ?_ _)); refine blk_put (cs := #[.int .i64 0, .int .i64 0, .slice none 0 0, .slice none 0 0, .int .i64 0, .int .i64 0, .slice none 0 0, .slice none 0 0]) ?_ 0 _ rfl; (with_reducible repeat (first | refine kkN ?_ _ | refine kkD ?_ | refine kkA ?_ _)); exact BK126.out) Try.underlying30 rfl (by kernel_rfl)) rfl ?_
     exact ⟨_, _, _, _, by first | rfl | (simp [errW_none, errW_some] <;> rfl) | (simp [*, errW_none, errW_some] <;> rfl), by first | exact Kd.R_nil _ _ _ _ _ | exact Kd.N_nil _ _ _ _ _ | exact Kd.V_nil _ _ _ _ _ | exact Kd.Q_nil _ _ _ _ _ | exact Kd.S_nil _ _ _ _ _, by first | exact Kd.R_nil _ _ _ _ _ | exact Kd.N_nil _ _ _ _ _ | exact Kd.V_nil _ _ _ _ _ | exact Kd.Q_nil _ _ _ _ _ | exact Kd.S_nil _ _ _ _ _, by first | exact Kd.R_nil _ _ _ _ _ | exact Kd.N_nil _ _ _ _ _ | exact Kd.V_nil _ _ _ _ _ | exact Kd.Q_nil _ _ _ _ _ | exact Kd.S_nil _ _ _ _ _, by first | exact Kd.R_nil _ _ _ _ _ | exact Kd.N_nil _ _ _ _ _ | exact Kd.V_nil _ _ _ _ _ | exact Kd.Q_nil _ _ _ _ _ | exact Kd.S_nil _ _ _ _ _, by repeat (first | (with_reducible first | exact HB.out | apply zzA | apply zzN | apply zzD | refine below_set ?_ GE126.out) | exact HB.out)⟩

end Go.Proofs.Ytkfhdpnfcaghbaa.HQ
