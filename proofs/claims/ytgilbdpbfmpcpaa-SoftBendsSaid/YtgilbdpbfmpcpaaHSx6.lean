/- What Go functions do, each as a plain Lean function with the same answers, and the proof of it, in every world: printed by the session's driver over the kit's print, with texts by hand. -/
import Derived.Test.YtgilbdpbfmpcpaaHSx0
import Derived.Test.YtgilbdpbfmpcpaaHSx1
import Derived.Test.YtgilbdpbfmpcpaaHSx2
import Derived.Test.YtgilbdpbfmpcpaaHSx5
import Derived.Test.YtgilbdpbfmpcpaaMini
namespace Go.Proofs.Ytgilbdpbfmpcpaa.HS
open Go.RowKit Go.Proofs.YtgilbdpbfmpcpaaW.PrintWords Go.Proofs.YtgilbdpbfmpcpaaW.PrintLast Go.Proofs.YtgilbdpbfmpcpaaW.PrintMore
attribute [local go_sem] max2_int min2_int max_two min_two max_three min_three max_four min_four   -- for this text's walks alone
open Go.Proofs.Ytgilbdpbfmpcpaa.Sp
attribute [local go_sem] Go.Proofs.Ytgilbdpbfmpcpaa.Sp.u64_not
set_option linter.unusedVariables false
set_option linter.unusedSimpArgs false

/-! ### soft_fitsP: function 22 -/
def soft_fitsP.f (a0 : Int) (l1 : List Int) (l2 : List (S26)) : Option (Int) := (soft_Rows.f a0 l1).bind fun bt158 => (if bt158.2 = 0 then (if 0 < (bt158.1.length : Int) then ((soft_Check.f (wrap64 (((rd_L1 bt158.1 0).length : Int) - 1)) a0 l1 l2).bind fun t163 => (some t163)) else (none)) else (some bt158.2))
set_option maxHeartbeats 8000000 in
set_option maxRecDepth 100000 in
theorem soft_fitsP.calls (a0 : Int) (A1 : Option Addr) (c1 : Nat) (l1 : List Int) (A2 : Option Addr) (c2 : Nat) (l2 : List (S26)) (r : Int) (w : World) (hr1 : Kd.C (Kd.int .i64) w A1 l1.length l1) (hc1 : l1.length ≤ c1) (hr2 : Kd.C k26 w A2 l2.length l2) (hc2 : l2.length ≤ c2) (h : soft_fitsP.f a0 l1 l2 = some r) :
  Calls Try.prog 22 #[.int .i64 a0, .slice A1 l1.length c1, .slice A2 l2.length c2] w fun e w' => e = .returned (.int .i64 r) ∧ Below w.heap.size w w' := by
 have HR1 := ZM hr1
 have HC1 := ZM hc1
 clear hr1 hc1
 have HR2 := ZM hr2
 have HC2 := ZM hc2
 clear hr2 hc2
 have HB := ZM (Below.refl w.heap.size w)
 have H : ((soft_Rows.f a0 l1).bind fun bt158 => (if bt158.2 = 0 then (if 0 < (bt158.1.length : Int) then ((soft_Check.f (wrap64 (((rd_L1 bt158.1 0).length : Int) - 1)) a0 l1 l2).bind fun t163 => (some t163)) else (none)) else (some bt158.2))) = some r := h
 clear h
 replace H := Option.bind_eq_some_iff.mp H
 obtain ⟨⟨t158, t159⟩, A40, H⟩ := H
 replace H : (if t159 = 0 then (if 0 < (t158.length : Int) then ((soft_Check.f (wrap64 (((rd_L1 t158 0).length : Int) - 1)) a0 l1 l2).bind fun t163 => (some t163)) else (none)) else (some t159)) = some r := H
 have A4 := ZM A40
 clear A40
 by_cases c5 : t159 = 0
 case neg =>
  rw [if_neg c5] at H
  have c5b0 : (t159 == 0) = false := beq_eq_false_iff_ne.mpr c5
  have c5b1 : (t159 != 0) = true := bne_iff_ne.mpr c5
  obtain rfl := Option.some.inj H
  go_enter Try.func22, Try.ntmps22
  go_wp2_with (first | ((with_reducible refine gate_callee (f := 7) rfl ?_); refine goesL_ (some 12) rfl rfl Try.func7 (by kernel_rfl) rfl #[.int .i64 a0, .slice A1 l1.length c1] rfl Z2 ?_; (with_reducible refine (soft_Rows.calls a0 _ _ l1 t158 t159 _ ?side1 ?side2 A4.out).mono ?_); (case side1 => exact Z5); (case side2 => exact HC1.out); rintro e w11 ⟨v160, rfl, ho0, hb⟩; refine ⟨_, rfl, ?_⟩; have HO161 := ZM (Kd.S_lower ho0 (zzS Z1)); replace HB := ZM (zzT Z1 hb); (try clear hb); (try clear hb2); (try clear hk); (try clear hi); (try clear ho0)))
  go_ret
  exact ⟨by first | rfl | (simp [errW_none, errW_some] <;> rfl) | (simp [*, errW_none, errW_some] <;> rfl), by repeat (first | (with_reducible first | exact HB.out | apply zzA | apply zzN | apply zzD) | exact HB.out)⟩
 rw [if_pos c5] at H
 have c5b0 : (t159 == 0) = true := beq_iff_eq.mpr c5
 have c5b1 : (t159 != 0) = false := bne_eq_false_iff_eq.mpr c5
 clear c5
 by_cases c6 : 0 < (t158.length : Int)
 case neg =>
  rw [if_neg c6] at H
  exact absurd H (by simp)
 rw [if_pos c6] at H
 have c6b0 : decide (0 < (t158.length : Int)) = true := decide_eq_true c6
 have c6b1 : decide (0 < t158.length) = true := decide_eq_true (by omega)
 clear c6
 replace H := Option.bind_eq_some_iff.mp H
 obtain ⟨t163, A70, H⟩ := H
 replace H : (some t163) = some r := H
 have A7 := ZM A70
 clear A70
 obtain rfl := Option.some.inj H
 go_enter Try.func22, Try.ntmps22
 go_wp2_with (first | ((with_reducible refine gate_callee (f := 7) rfl ?_); refine goesL_ (some 12) rfl rfl Try.func7 (by kernel_rfl) rfl #[.int .i64 a0, .slice A1 l1.length c1] rfl Z2 ?_; (with_reducible refine (soft_Rows.calls a0 _ _ l1 t158 t159 _ ?side1 ?side2 A4.out).mono ?_); (case side1 => exact Z5); (case side2 => exact HC1.out); rintro e w8 ⟨v160, rfl, ho0, hb⟩; refine ⟨_, rfl, ?_⟩; have HO161 := ZM (Kd.S_lower ho0 (zzS Z1)); replace HB := ZM (zzT Z1 hb); (try clear hb); (try clear hb2); (try clear hk); (try clear hi); (try clear ho0); obtain ⟨Ao9, co9, eo9⟩ := Kd.S_slice HO161.out; subst eo9; have p162 : 0 ≤ (0 : Int) := (by omega); have q162 : 0 < (t158.length : Int) := of_decide_eq_true Z3; obtain ⟨ad162, A162_0, c162_0, e162, hx162_0, hl162_0, hi162_0⟩ := at_L1 (Kd.S_reads' HO161.out).2.2 0 p162 q162; cases e162; obtain ⟨ce162, hce162, hMe162, hcc162⟩ := Kd.S_get HO161.out [] 0 p162 (by first | exact q162 | exact of_decide_eq_true Z3 | (have e_ := (Kd.S_reads' HO161.out).1; omega)); obtain ⟨ve162_0, rfl, ge162_0⟩ := hMe162; have hv162_0 := hcc162 0 _ rfl; rw [Nat.add_zero, show ((Kd.slice 2 (Kd.int .i64))).sz = 1 from rfl, Nat.mul_one] at hv162_0; replace hv162_0 := Option.some.inj (hv162_0.symm.trans hx162_0); rw [hv162_0] at ge162_0; have HL162_0 := ZM (show Kd.R (Kd.int .i64) 2 _ _ _ _ (rd_L1 t158 0) from ge162_0); clear hv162_0 ge162_0; clear hcc162 hce162; have qi162 : (0 < t158.length) = True := eq_true (by omega); (try rw [show ((0 : Int)).toNat = 0 from rfl] at hx162_0); (try rw [Addr.add_zero'] at hx162_0); have HR162_0 := ZM hi162_0; have HC162_0 := ZM hl162_0; clear hi162_0 hl162_0; replace p162 := eq_true p162; replace q162 := eq_true q162) | ((with_reducible refine gate_callee (f := 14) rfl ?_); refine goesL_ (some 26) rfl rfl Try.func14 (by kernel_rfl) rfl #[.int .i64 (wrap64 (((rd_L1 t158 0).length : Int) - 1)), .int .i64 a0, .slice A1 l1.length c1, .slice A2 l2.length c2] rfl Z2 ?_; (with_reducible refine (soft_Check.calls (wrap64 (((rd_L1 t158 0).length : Int) - 1)) a0 _ _ l1 _ _ l2 t163 _ ?side1 ?side2 ?side3 ?side4 A7.out).mono ?_); (case side1 => exact Z20); (case side2 => exact HC1.out); (case side3 => exact Z10); (case side4 => exact HC2.out); rintro e w10 ⟨rfl, hb⟩; refine ⟨_, rfl, ?_⟩; replace HO161 := ZM (Kd.S_below (by (with_reducible repeat (first | apply Kd.S_alloc | apply Kd.S_drewN | apply Kd.S_drew)); exact HO161.out) hb); replace HL162_0 := ZM (Kd.R_below (Zr HL162_0) hb); replace HR162_0 := ZM (Kd.C_below (by repeat (first | (with_reducible exact HR162_0.out) | (with_reducible refine ccA ?_ _) | (with_reducible refine ccN ?_ _) | (with_reducible refine ccD ?_) | exact HR162_0.out)) hb); replace HB := ZM (zzT Z1 hb); (try clear hb); (try clear hb2); (try clear hk); (try clear hi)))
 go_ret
 exact ⟨by first | rfl | (simp [errW_none, errW_some] <;> rfl) | (simp [*, errW_none, errW_some] <;> rfl), by repeat (first | (with_reducible first | exact HB.out | apply zzA | apply zzN | apply zzD) | exact HB.out)⟩
def soft_fits.f (a0 : Int) (l1 : List Int) (l2 : List S26) : Option Int := some (fitS a0 l1 (l2.map sm))
theorem soft_fitsP.is (a0 : Int) (l1 : List Int) (l2 : List S26) : soft_fitsP.f a0 l1 l2 = some (fitS a0 l1 (l2.map sm)) := by
  unfold soft_fitsP.f fitS soft_Rows.f soft_Check.f
  rw [Option.bind_some]
  by_cases c : (rowsS a0 l1).2 = 0
  · obtain ⟨k, m, rfl, hk2, hk8, hm2, hm17, hmk, hr⟩ := rowsS_good c
    have hlen : (rowsS (k : Int) l1).1.length = k := by rw [hr, chunksS_length]
    rw [if_pos c, if_neg (not_not_intro c), if_pos (by omega)]; rfl
  · rw [if_neg c, if_pos c]
theorem soft_fits.calls (a0 : Int) (A1 : Option Addr) (c1 : Nat) (l1 : List Int) (A2 : Option Addr) (c2 : Nat) (l2 : List (S26)) (r : Int) (w : World) (hr1 : Kd.C (Kd.int .i64) w A1 l1.length l1) (hc1 : l1.length ≤ c1) (hr2 : Kd.C k26 w A2 l2.length l2) (hc2 : l2.length ≤ c2) (h : soft_fits.f a0 l1 l2 = some r) :
    Calls Try.prog 22 #[.int .i64 a0, .slice A1 l1.length c1, .slice A2 l2.length c2] w fun e w' => e = .returned (.int .i64 r) ∧ Below w.heap.size w w' := by
  unfold soft_fits.f at h
  exact soft_fitsP.calls a0 A1 c1 l1 A2 c2 l2 r w hr1 hc1 hr2 hc2 ((soft_fitsP.is a0 l1 l2).trans h)


/-! ### soft_OffP: function 23 -/
def soft_OffP.j0 : Nat → Int → List Int → Int → Bool → List Int → Int → Option (List Int × Int)
 | 0, _, _, _, _, _, _ => none
 | k + 1, x3, x10, x11, x33, x165000, x165001 => if x33 = true then (if 1 = 0 then (if 0 ≤ x165001 then (if x165001 < (x10.length : Int) then (if 0 ≤ x3 then (some ((x10.set (x165001 : Int).toNat (wrap64 ((rd x10 x165001) - (shl .i64 1 x3)))), 0)) else (none)) else (none)) else (none)) else (some (([] : List Int), 1))) else (if x11 = 0 then (if 0 ≤ x165001 then (if x165001 < (x10.length : Int) then (if 0 ≤ x3 then (some ((x10.set (x165001 : Int).toNat (wrap64 ((rd x10 x165001) - (shl .i64 1 x3)))), 0)) else (none)) else (none)) else (none)) else (some (([] : List Int), x11)))
def soft_OffP.f (k : Nat) (a0 : Int) (l1 : List Int) (l2_0 : List Int) (a2_1 : Int) (a3 : Int) : Option (List Int × Int) := (soft_Tell.f a0 l1 l2_0 a3).bind fun bt165 => (if bt165.2 = 0 then (if a2_1 < 0 then (soft_OffP.j0 k a3 bt165.1 bt165.2 true l2_0 a2_1) else (soft_OffP.j0 k a3 bt165.1 bt165.2 (decide (a2_1 ≥ a0)) l2_0 a2_1)) else (soft_OffP.j0 k a3 bt165.1 bt165.2 false l2_0 a2_1))
theorem soft_OffP.mono_l : ∀ k, (∀ y0 y1 y2 y3 y4 y5, LeO (soft_OffP.j0 k y0 y1 y2 y3 y4 y5) (soft_OffP.j0 (k + 1) y0 y1 y2 y3 y4 y5))
 | 0 => fun _ _ _ _ _ _ r h => by simp [soft_OffP.j0] at h
 | k + 1 => by
  have ih0 := soft_OffP.mono_l k
  ·
   intro y0 y1 y2 y3 y4 y5
   unfold soft_OffP.j0
   repeat' first
   | (with_reducible exact ih0 _ _ _ _ _ _)
   | (with_reducible exact LeO.refl _)
   | (with_reducible exact LeO.none _)
   | (with_reducible refine LeO.ite ?_ ?_)
   | (with_reducible refine LeO.bind ?_ (fun _ => ?_))
theorem soft_OffP.mono : ∀ a0 a1 a2 a3 a4 k, LeO (soft_OffP.f k a0 a1 a2 a3 a4) (soft_OffP.f (k + 1) a0 a1 a2 a3 a4) := by
 intro a0 a1 a2 a3 a4 k
 have ih0 := soft_OffP.mono_l k
 unfold soft_OffP.f
 repeat' first
   | (with_reducible exact ih0 _ _ _ _ _ _)
   | (with_reducible exact LeO.refl _)
   | (with_reducible exact LeO.none _)
   | (with_reducible refine LeO.ite ?_ ?_)
   | (with_reducible refine LeO.bind ?_ (fun _ => ?_))
def soft_OffP.T6 : Bool × List (List Nat × List Nat) := (true, [([], []), ([], []), ([1], [1]), ([0, 2], [0, 2]), ([3], [3]), ([], []), ([5], [5]), ([4, 6], [4, 6]), ([0, 2, 0, 1, 2, 3, 4, 5, 6, 7], [0, 2]), ([8, 7, 0, 1, 2, 3, 4, 5, 6, 7], [7, 8])])
def soft_OffP.B6 : List Nat := [0, 0, 2, 7, 15, 0, 32, 127, 255, 511]
theorem soft_OffP.tab6 : rtab .any (opsOf Try.f23 6) = soft_OffP.T6 := by kernel_rfl
theorem soft_OffP.bits6 : waitsOk soft_OffP.T6.2 soft_OffP.B6 = true := by kernel_rfl
set_option maxHeartbeats 8000000 in
set_option maxRecDepth 100000 in
theorem soft_OffP.calls (k : Nat) (a0 : Int) (A1 : Option Addr) (c1 : Nat) (l1 : List Int) (A2_0 : Option Addr) (c2_0 : Nat) (l2_0 : List Int) (a2_1 : Int) (a3 : Int) (r1 : List Int) (r2 : Int) (w : World) (hr1 : Kd.C (Kd.int .i64) w A1 l1.length l1) (hc1 : l1.length ≤ c1) (hr2_0 : Kd.C (Kd.int .i64) w A2_0 l2_0.length l2_0) (hc2_0 : l2_0.length ≤ c2_0) (h : soft_OffP.f k a0 l1 l2_0 a2_1 a3 = some (r1, r2)) :
  Calls Try.prog 23 #[.int .i64 a0, .slice A1 l1.length c1, .agg #[.slice A2_0 l2_0.length c2_0, .int .i64 a2_1], .int .i64 a3] w fun e w' => ∃ v0_ : Value, e = .returned (.tuple #[v0_, .int .i64 r2]) ∧ Kd.R (Kd.int .i64) 2 w' w.heap.size (fun _ => True) v0_ r1 ∧ Below w.heap.size w w' := by
 have hu26 := Try.underlying26
 have HR1 := ZM hr1
 have HC1 := ZM hc1
 clear hr1 hc1
 have HR2_0 := ZM hr2_0
 have HC2_0 := ZM hc2_0
 clear hr2_0 hc2_0
 have HB := ZM (Below.refl w.heap.size w)
 have H : ((soft_Tell.f a0 l1 l2_0 a3).bind fun bt165 => (if bt165.2 = 0 then (if a2_1 < 0 then (soft_OffP.j0 k a3 bt165.1 bt165.2 true l2_0 a2_1) else (soft_OffP.j0 k a3 bt165.1 bt165.2 (decide (a2_1 ≥ a0)) l2_0 a2_1)) else (soft_OffP.j0 k a3 bt165.1 bt165.2 false l2_0 a2_1))) = some (r1, r2) := h
 clear h
 replace H := Option.bind_eq_some_iff.mp H
 obtain ⟨⟨t165, t166⟩, A50, H⟩ := H
 replace H : (if t166 = 0 then (if a2_1 < 0 then (soft_OffP.j0 k a3 t165 t166 true l2_0 a2_1) else (soft_OffP.j0 k a3 t165 t166 (decide (a2_1 ≥ a0)) l2_0 a2_1)) else (soft_OffP.j0 k a3 t165 t166 false l2_0 a2_1)) = some (r1, r2) := H
 have A5 := ZM A50
 clear A50
 have HC6 := ZM H
 clear H
 go_enter Try.func23, Try.ntmps23
 go_upto_region 2 with (first | ((with_reducible refine gate_dst (N := 6) rfl ?_); refine box_event ?hg (N := 6) ?hd (cs := #[.slice A2_0 l2_0.length c2_0, .int .i64 a2_1]) (t := 26) ?hr ?_; (case hd => rfl); (case hg => rfl); (case hr => exact Z9); intro gb164 hg w7 hbox hb; have BK164 := ZM (hbox); have GW164 := ZM ((by rw [hg]; exact (zzS Z1) : w.heap.size ≤ gb164)); have GE164 := ZM ((by rw [hg]; exact (zzS Z1) : w.heap.size ≤ gb164)); replace HB := ZM (zzT Z1 hb); clear hb hbox hg; obtain ⟨hcz8_0, hcz8_1, hfz8_0, hfz8_1⟩ := Y2f BK164) | ((with_reducible refine gate_callee (f := 8) rfl ?_); refine goesL_ (some 18) rfl rfl Try.func8 (by kernel_rfl) rfl #[.int .i64 a0, .slice A1 l1.length c1, .slice A2_0 l2_0.length c2_0, .int .i64 a3] rfl Z2 ?_; (with_reducible refine (soft_Tell.calls a0 _ _ l1 _ _ l2_0 a3 t165 t166 _ ?side1 ?side2 ?side3 ?side4 A5.out).mono ?_); (case side1 => exact Z20); (case side2 => exact HC1.out); (case side3 => exact Z27); (case side4 => exact HC2_0.out); rintro e w9 ⟨v167, rfl, ho0, hb⟩; refine ⟨_, rfl, ?_⟩; have HO168 := ZM (Kd.R_lower ho0 (zzS Z54)); replace BK164 := ZM (blk_below (g := gb164) (o := .cells #[.slice A2_0 l2_0.length c2_0, .int .i64 a2_1] 26 (0, 0)) (Zk BK164) hb); replace HB := ZM (zzT Z54 hb); (try clear hb); (try clear hb2); (try clear hk); (try clear hi); (try clear ho0)))
 (try simp only [Act.put, Zt])
 go_cut [33] (fun v33 wc => ∃ (kq : Nat) (x33_5 : Bool), v33 = .bool x33_5 ∧ Aside0 (soft_OffP.j0 kq a3 t165 t166 x33_5 l2_0 a2_1 = some (r1, r2)) ∧ Aside0 (kq ≤ k) ∧ Aside0 (Kd.R (Kd.int .i64) 2 wc w.heap.size (fun _ => True) v167 t165) ∧ Aside0 (wc.heap[gb164]? = some (.cells #[(.slice A2_0 l2_0.length c2_0), .int .i64 a2_1] 26 (0, 0))) ∧ Aside0 (Below w.heap.size w wc))
 case first =>
  have H := HC6.out
  clear HC6
  by_cases c10 : t166 = 0
  case neg =>
   rw [if_neg c10] at H
   have c10b0 : (t166 == 0) = false := beq_eq_false_iff_ne.mpr c10
   have c10b1 : (t166 != 0) = true := bne_iff_ne.mpr c10
   (first | rw [c10b0] | (simp only [i64_w, i32_w]; rw [c10b0]) | skip)
   have H' := ZM H
   clear H
   go_wp2
   go_meet
   case rel => exact ⟨_, (false), Z4, H', ⟨by first | omega | exact Nat.le_refl _⟩, ⟨by (with_reducible repeat (first | apply rrA | apply rrN | apply rrD)); exact HO168.out⟩, ⟨by (with_reducible repeat (first | refine kkN ?_ _ | refine kkD ?_ | refine kkA ?_ _)); exact BK164.out⟩, ⟨by repeat (first | (with_reducible first | exact HB.out | apply zzA | apply zzN | apply zzD | refine below_set ?_ GE164.out) | exact HB.out)⟩⟩
  rw [if_pos c10] at H
  have c10b0 : (t166 == 0) = true := beq_iff_eq.mpr c10
  have c10b1 : (t166 != 0) = false := bne_eq_false_iff_eq.mpr c10
  clear c10
  (first | rw [c10b0] | (simp only [i64_w, i32_w]; rw [c10b0]) | skip)
  by_cases c11 : a2_1 < 0
  case neg =>
   rw [if_neg c11] at H
   have c11b0 : decide (a2_1 < 0) = false := decide_eq_false c11
   clear c11
   have H' := ZM H
   clear H
   obtain ⟨hcz13_0, hcz13_1, hfz13_0, hfz13_1⟩ := Y2f BK164
   go_wp2
   go_meet
   case rel => exact ⟨_, (decide (a2_1 ≥ a0)), Z4, H', ⟨by first | omega | exact Nat.le_refl _⟩, ⟨by (with_reducible repeat (first | apply rrA | apply rrN | apply rrD)); exact HO168.out⟩, ⟨by (with_reducible repeat (first | refine kkN ?_ _ | refine kkD ?_ | refine kkA ?_ _)); exact BK164.out⟩, ⟨by repeat (first | (with_reducible first | exact HB.out | apply zzA | apply zzN | apply zzD | refine below_set ?_ GE164.out) | exact HB.out)⟩⟩
  rw [if_pos c11] at H
  have c11b0 : decide (a2_1 < 0) = true := decide_eq_true c11
  clear c11
  have H' := ZM H
  clear H
  obtain ⟨hcz12_0, hcz12_1, hfz12_0, hfz12_1⟩ := Y2f BK164
  go_wp2
  go_meet
  case rel => exact ⟨_, (true), Z4, H', ⟨by first | omega | exact Nat.le_refl _⟩, ⟨by (with_reducible repeat (first | apply rrA | apply rrN | apply rrD)); exact HO168.out⟩, ⟨by (with_reducible repeat (first | refine kkN ?_ _ | refine kkD ?_ | refine kkA ?_ _)); exact BK164.out⟩, ⟨by repeat (first | (with_reducible first | exact HB.out | apply zzA | apply zzN | apply zzD | refine below_set ?_ GE164.out) | exact HB.out)⟩⟩
 clear HC6
 try clear c1
 try clear c2
 try clear p2
 try clear c8
 try clear c10
 try clear c10b0
 try clear c10b1
 try clear c11
 try clear c11b0
 try clear hcz12_0
 try clear hcz12_1
 try clear hcz13_0
 try clear hcz13_1
 try clear hcz8_0
 try clear hcz8_1
 try clear hfz12_0
 try clear hfz12_1
 try clear hfz13_0
 try clear hfz13_1
 try clear hfz8_0
 try clear hfz8_1
 obtain ⟨kq, x33_5, rfl, HA, HJ5, HO_10, BK164, HB⟩ := hcut
 cases kq with
 | zero => exact absurd HA.out (by simp [soft_OffP.j0])
 | succ kj5 =>
  have H := HA.out
  clear HA
  simp only [soft_OffP.j0] at H
  by_cases c14 : x33_5 = true
  ·
   subst c14
   have H1 : (if 1 = 0 then (if 0 ≤ a2_1 then (if a2_1 < (t165.length : Int) then (if 0 ≤ a3 then (some ((t165.set (a2_1 : Int).toNat (wrap64 ((rd t165 a2_1) - (shl .i64 1 a3)))), 0)) else (none)) else (none)) else (none)) else (some (([] : List Int), 1))) = some (r1, r2) := by rw [if_pos rfl] at H; exact H
   clear H
   have H := H1
   clear H1
   by_cases c15 : 1 = 0
   ·
    exact absurd c15 (by decide)
   rw [if_neg c15] at H
   have c15b0 : (1 == 0) = false := beq_eq_false_iff_ne.mpr c15
   have c15b1 : (1 != 0) = true := bne_iff_ne.mpr c15
   simp only [Option.some.injEq, Prod.mk.injEq] at H
   obtain ⟨rfl, rfl⟩ := H
   go_wp2
   go_ret2
   exact ⟨_, by first | rfl | (simp [errW_none, errW_some] <;> rfl) | (simp [*, errW_none, errW_some] <;> rfl), by first | exact Kd.R_nil _ _ _ _ _ | exact Kd.N_nil _ _ _ _ _ | exact Kd.V_nil _ _ _ _ _ | exact Kd.Q_nil _ _ _ _ _ | exact Kd.S_nil _ _ _ _ _, by repeat (first | (with_reducible first | exact HB.out | apply zzA | apply zzN | apply zzD | refine below_set ?_ GE164.out) | exact HB.out)⟩
  replace c14 := Bool.eq_false_iff.mpr c14
  subst c14
  have H1 : (if t166 = 0 then (if 0 ≤ a2_1 then (if a2_1 < (t165.length : Int) then (if 0 ≤ a3 then (some ((t165.set (a2_1 : Int).toNat (wrap64 ((rd t165 a2_1) - (shl .i64 1 a3)))), 0)) else (none)) else (none)) else (none)) else (some (([] : List Int), t166))) = some (r1, r2) := by rw [if_neg (show ¬ (false = true) by decide)] at H; exact H
  clear H
  have H := H1
  clear H1
  by_cases c24 : t166 = 0
  case neg =>
   rw [if_neg c24] at H
   have c24b0 : (t166 == 0) = false := beq_eq_false_iff_ne.mpr c24
   have c24b1 : (t166 != 0) = true := bne_iff_ne.mpr c24
   simp only [Option.some.injEq, Prod.mk.injEq] at H
   obtain ⟨rfl, rfl⟩ := H
   go_wp2
   go_ret2
   exact ⟨_, by first | rfl | (simp [errW_none, errW_some] <;> rfl) | (simp [*, errW_none, errW_some] <;> rfl), by first | exact Kd.R_nil _ _ _ _ _ | exact Kd.N_nil _ _ _ _ _ | exact Kd.V_nil _ _ _ _ _ | exact Kd.Q_nil _ _ _ _ _ | exact Kd.S_nil _ _ _ _ _, by repeat (first | (with_reducible first | exact HB.out | apply zzA | apply zzN | apply zzD | refine below_set ?_ GE164.out) | exact HB.out)⟩
  rw [if_pos c24] at H
  have c24b0 : (t166 == 0) = true := beq_iff_eq.mpr c24
  have c24b1 : (t166 != 0) = false := bne_eq_false_iff_eq.mpr c24
  clear c24
  by_cases c25 : 0 ≤ a2_1
  case neg =>
   rw [if_neg c25] at H
   exact absurd H (by simp)
  rw [if_pos c25] at H
  have c25b0 : decide (0 ≤ a2_1) = true := decide_eq_true c25
  clear c25
  by_cases c26 : a2_1 < (t165.length : Int)
  case neg =>
   rw [if_neg c26] at H
   exact absurd H (by simp)
  rw [if_pos c26] at H
  have c26b0 : decide (a2_1 < (t165.length : Int)) = true := decide_eq_true c26
  clear c26
  by_cases c27 : 0 ≤ a3
  case neg =>
   rw [if_neg c27] at H
   exact absurd H (by simp)
  rw [if_pos c27] at H
  have c27b0 := eq_true c27
  have c27b1 : decide (0 ≤ a3) = true := decide_eq_true c27
  clear c27
  obtain ⟨ji28, hji28⟩ : ∃ j_ : Int, (shl .i64 1 a3) = j_ := ⟨_, rfl⟩
  replace H : (some ((t165.set (a2_1 : Int).toNat (wrap64 ((rd t165 a2_1) - (ji28)))), 0)) = some (r1, r2) := by first | (rw [hji28] at H; exact H) | (simp only [hji28] at H ⊢; exact H)
  have hji28_ : (IntKind.i64.wrap (1 * 2 ^ min a3.toNat 64)) = ji28 := hji28
  have hji28z : a3 ≤ 64 → (IntKind.i64.wrap (1 * 2 ^ a3.toNat)) = ji28 := shl_small hji28
  have hji28u : (IntKind.i64.wrap (2 ^ min a3.toNat 64)) = ji28 := by have h_ := hji28_; rw [Int.one_mul] at h_; exact h_
  have hji28v : a3 ≤ 64 → (IntKind.i64.wrap (2 ^ a3.toNat)) = ji28 := fun hle_ => by have h_ := hji28z hle_; rw [Int.one_mul] at h_; exact h_
  have hji28y : (wrap64 (1 * 2 ^ min a3.toNat 64)) = ji28 := (i64_w _).symm.trans hji28_
  have hji28x : a3 ≤ 64 → (wrap64 (1 * 2 ^ a3.toNat)) = ji28 := fun h_ => (i64_w _).symm.trans (hji28z h_)
  obtain ⟨y172, hy172⟩ : ∃ y_ : List Int, y_ = (t165.set (a2_1 : Int).toNat (wrap64 ((rd t165 a2_1) - (ji28)))) := ⟨_, rfl⟩
  replace H : (some (y172, 0)) = some (r1, r2) := by first | (rw [hy172]; with_reducible exact H) | (have H2_ := (Option.bind_some _ _).symm.trans H; rw [hy172]; with_reducible exact H2_) | (have H2_ := (Option.bind_some _ _).symm.trans H; with_reducible exact H2_) | with_reducible exact H | (rw [hy172]; exact H) | exact H
  have Ny172 := ZM hy172
  clear hy172
  simp only [Option.some.injEq, Prod.mk.injEq] at H
  obtain ⟨rfl, rfl⟩ := H
  try go_wp2
  have n0_ := ZM (rrD HO_10.out)
  have n1_ := ZM (kkD BK164.out)
  have n2_ := ZM (zzD HB.out)
  clear HO_10
  clear BK164
  clear HB
  have HO_10 := n0_
  have BK164 := n1_
  have HB := n2_
  clear n0_ n1_ n2_
  obtain ⟨Ao31, co31, eo31⟩ := Kd.R_slice HO_10.out
  (first | subst eo31 | (injection eo31 with f1_ f2_ f3_; have f4_ := f1_.symm; have f5_ := f3_.symm; clear f1_ f2_ f3_; subst f4_; subst f5_))
  have p171 : 0 ≤ (a2_1 : Int) := of_decide_eq_true Z3
  have q171 : a2_1 < (t165.length : Int) := of_decide_eq_true Z3
  obtain ⟨ad171, e171, hx171_0⟩ := Kd.at_int (Kd.R_reads' HO_10.out).2.2 a2_1 p171 q171
  cases e171
  replace p171 := eq_true p171
  replace q171 := eq_true q171
  have p29 : 0 ≤ (a2_1 : Int) := of_decide_eq_true Z3
  have q29 : (a2_1 : Int) < ((t165.length : Int) : Int) := of_decide_eq_true Z3
  obtain ⟨go29, co29, eo29, gb29, gl29, cl29, HG29⟩ := Kd.R_form HO_10.out (by omega)
  (first | cases eo29 | (injection eo29 with ea_ en_ ec_; (first | subst ea_ | (injection ea_ with ea_; subst ea_)); subst ec_; clear en_))
  have GB29 := ZM gb29
  have GG29 := ZM HG29
  clear gb29 gl29 HG29
  (first | simp only [add_plain] at hx171_0 | skip)
  obtain ⟨hx29_0, hf29_0⟩ := Kd.R_celln 0 HO_10.out (a2_1 : Int) p29 q29
  replace p29 := eq_true p29
  replace q29 := eq_true q29
  have HP32 := Kd.R_putn HO_10.out (a2_1 : Int) (wrap64 ((rd t165 a2_1) - (ji28)))
  rw [← Ny172.out] at HP32
  have HQ32 := ZM HP32
  clear HP32
  refine start_ (n := 10) (S := fun w' => w'.cell? ⟨gb164, 0, none⟩ = some (.slice A2_0 l2_0.length c2_0) ∧ w'.cell? ⟨gb164, 1, none⟩ = some (.int .i64 a2_1) ∧ w'.cell? ⟨go29, (a2_1).toNat, none⟩ = some (.int .i64 (rd t165 a2_1))) (ds := [9]) #[false, false, false, false, false, false, false, false, false, false] (by kernel_rfl) rfl rfl ⟨(blk_cell BK164.out 0).trans rfl, (blk_cell BK164.out 1).trans rfl, hx171_0⟩ (fun hHeld => ?_); refine with_tabW soft_OffP.tab6 soft_OffP.bits6 (fun HT_ HW_ => ?_)
  generalize wc.drew = w30 at HO_10 BK164 HB GG29 HQ32 hf29_0 hx171_0 hx29_0 hHeld ⊢
  refine pure_ (i := 0) (N := some 37) (v := ?_) (a' := ?_) #[true, false, false, false, false, false, false, false, false, false] rfl rfl (any_of HT_.out (by kernel_rfl)) (fun _ _ _ h => h) (Or.inl ⟨by rfl, ?_⟩) ?_ ?_
  rotate_left
  ·
   intro w'
   go_simp
   with_reducible rfl
  rotate_left
  ·
   simp only [Act.put, Zs]
   rfl
  refine pure_ (i := 1) (N := some 38) (v := ?_) (a' := ?_) #[true, true, false, false, false, false, false, false, false, false] rfl rfl (any_of HT_.out (by kernel_rfl)) (fun _ _ _ h => h) (Or.inl ⟨by rfl, ?_⟩) ?_ ?_
  rotate_left
  ·
   intro w'
   go_simp
   with_reducible rfl
  rotate_left
  ·
   simp only [Act.put, Zs]
   rfl
  refine pure_ (i := 5) (N := some 42) (v := ?_) (a' := ?_) #[true, true, false, false, false, true, false, false, false, false] rfl rfl (any_of HT_.out (by kernel_rfl)) (fun _ _ _ h => h) (Or.inl ⟨by rfl, ?_⟩) ?_ ?_
  rotate_left
  ·
   intro w'
   go_simp
   with_reducible rfl
  rotate_left
  ·
   simp only [Act.put, Zs]
   rfl
  refine pure_ (i := 6) (N := some 43) (v := ?_) (a' := ?_) #[true, true, false, false, false, true, true, false, false, false] rfl rfl (any_of HT_.out (by kernel_rfl)) (fun _ _ _ h => h) (Or.inl ⟨by rfl, ?_⟩) ?_ ?_
  rotate_left
  ·
   intro w'
   go_simp
   with_reducible rfl
  rotate_left
  ·
   simp only [Act.put, Zs]
   rfl
  refine take_ (i := 2) (N := some 39) (v := ?_) (a' := ?_) #[true, true, true, false, false, true, true, false, false, false] rfl rfl (take_ofW HT_.out HW_.out (by kernel_rfl)) (fun _ _ _ h => h) (Or.inl ⟨by rfl, ?_⟩) hHeld ?_ ?_
  rotate_left
  ·
   rintro w' ⟨s0, s1, s2⟩
   go_simp
   with_reducible rfl
  rotate_left
  ·
   simp only [Act.put, Zs]
   rfl
  refine pure_ (i := 3) (N := some 40) (v := ?_) (a' := ?_) #[true, true, true, true, false, true, true, false, false, false] rfl rfl (any_of HT_.out (by kernel_rfl)) (fun _ _ _ h => h) (Or.inl ⟨by rfl, ?_⟩) ?_ ?_
  rotate_left
  ·
   intro w'
   go_simp
   with_reducible rfl
  rotate_left
  ·
   simp only [Act.put, Zs]
   rfl
  refine take_ (i := 4) (N := some 41) (v := ?_) (a' := ?_) #[true, true, true, true, true, true, true, false, false, false] rfl rfl (take_ofW HT_.out HW_.out (by kernel_rfl)) (fun _ _ _ h => h) (Or.inl ⟨by rfl, ?_⟩) hHeld ?_ ?_
  rotate_left
  ·
   rintro w' ⟨s0, s1, s2⟩
   go_simp
   with_reducible rfl
  rotate_left
  ·
   simp only [Act.put, Zs]
   rfl
  refine pure_ (i := 7) (N := some 44) (v := ?_) (a' := ?_) #[true, true, true, true, true, true, true, true, false, false] rfl rfl (any_of HT_.out (by kernel_rfl)) (fun _ _ _ h => h) (Or.inl ⟨by rfl, ?_⟩) ?_ ?_
  rotate_left
  ·
   intro w'
   go_simp
   with_reducible rfl
  rotate_left
  ·
   simp only [Act.put, Zs]
   rfl
  refine pure_ (i := 8) (N := some 45) (v := ?_) (a' := ?_) #[true, true, true, true, true, true, true, true, true, false] rfl rfl (any_of HT_.out (by kernel_rfl)) (fun _ _ _ h => h) (Or.inl ⟨by rfl, ?_⟩) ?_ ?_
  rotate_left
  ·
   intro w'
   go_simp
   with_reducible rfl
  rotate_left
  ·
   simp only [Act.put, Zs]
   rfl
  refine last_ (i := 9) (N := none) #[true, true, true, true, true, true, true, true, true, true] rfl rfl (one_of HT_.out (by kernel_rfl)) (by decide) (fun K hK => ?_)
  refine skip_ (w1 := ?_) (by rfl) rfl ?_ ?_
  rotate_left
  ·
   go_simp
   rfl
  refine hK.out _ _ ?_
  clear hK K
  refine done_ (done_of HT_.out (by kernel_rfl)) ?_
  try go_wp2
  go_ret2
  exact ⟨_, by first | rfl | (simp [errW_none, errW_some] <;> rfl) | (simp only [← hji28]; first | rfl | (simp [errW_none, errW_some] <;> rfl)) | (simp [*, errW_none, errW_some] <;> rfl), by (with_reducible repeat (first | apply rrA | apply rrN | apply rrD)); exact HQ32.out, by repeat (first | (with_reducible first | exact HB.out | apply zzA | apply zzN | apply zzD | refine below_set ?_ GB29.out | refine below_set ?_ GE164.out) | exact HB.out)⟩
def soft_Off.f (a0 : Int) (l1 l2_0 : List Int) (a2_1 a3 : Int) : Option (List Int × Int) := if V64 l1 ∧ V64 l2_0 then some (offS a0 l1 l2_0 a2_1 a3) else none
theorem soft_Off.of (a0 : Int) (l1 l2_0 : List Int) (a2_1 a3 : Int)  (h_ : V64 l1 ∧ V64 l2_0) : soft_Off.f a0 l1 l2_0 a2_1 a3 = some (offS a0 l1 l2_0 a2_1 a3) := if_pos h_
theorem soft_OffP.is (o : Int) (w x : List Int) (y f : Int) (hw : V64 w) (hx : V64 x) : soft_OffP.f 1 o w x y f = some (offS o w x y f) := by
  unfold soft_OffP.f offS
  rw [soft_Tell.of _ _ _ _ ⟨hw, hx⟩, Option.bind_some]
  by_cases c : (tellS o w x f).2 = 0
  · rw [if_pos c, if_pos c]
    obtain ⟨-, -, -, hl, ho2, ho8, hf0, hf1⟩ := tellS_ok c
    by_cases c1 : y < 0
    · rw [if_pos c1, soft_OffP.j0, if_pos rfl, if_neg (by decide), if_pos (.inl c1)]
    · rw [if_neg c1, soft_OffP.j0]
      by_cases c2 : y ≥ o
      · rw [if_pos (decide_eq_true c2), if_neg (by decide), if_pos (.inr c2)]
      · rw [if_neg (by simpa using c2), if_pos c, if_pos (by omega), if_pos (by omega), if_pos hf0, if_neg (show ¬ (y < 0 ∨ y ≥ o) by omega), shl_i64 f (by omega)]
  · rw [if_neg c, if_neg c, soft_OffP.j0, if_neg (by decide), if_neg c]
theorem soft_Off.calls (a0 : Int) (A1 : Option Addr) (c1 : Nat) (l1 : List Int) (A2_0 : Option Addr) (c2_0 : Nat) (l2_0 : List Int) (a2_1 : Int) (a3 : Int) (r1 : List Int) (r2 : Int) (w : World) (hr1 : Kd.C (Kd.int .i64) w A1 l1.length l1) (hc1 : l1.length ≤ c1) (hr2_0 : Kd.C (Kd.int .i64) w A2_0 l2_0.length l2_0) (hc2_0 : l2_0.length ≤ c2_0) (h : soft_Off.f a0 l1 l2_0 a2_1 a3 = some (r1, r2)) :
    Calls Try.prog 23 #[.int .i64 a0, .slice A1 l1.length c1, .agg #[.slice A2_0 l2_0.length c2_0, .int .i64 a2_1], .int .i64 a3] w fun e w' => ∃ v0_ : Value, e = .returned (.tuple #[v0_, .int .i64 r2]) ∧ Kd.R (Kd.int .i64) 2 w' w.heap.size (fun _ => True) v0_ r1 ∧ Below w.heap.size w w' := by
  unfold soft_Off.f at h
  split at h
  case isFalse => cases h
  rename_i hv
  exact soft_OffP.calls 1 a0 A1 c1 l1 A2_0 c2_0 l2_0 a2_1 a3 r1 r2 w hr1 hc1 hr2_0 hc2_0 ((soft_OffP.is a0 l1 l2_0 a2_1 a3 hv.1 hv.2).trans h)


/-! ### vec_each: function 67 -/
set_option maxHeartbeats 2000000 in
set_option maxRecDepth 100000 in
theorem vec_each.calls (K : Nat) (caps : Array Value) (g : Nat → Option (Int × Int)) (n : Nat) (hn : n ≤ 1000000) (w : World) (r1 : List Int) (r2 : Int)
    (hent : ∀ (args : Array Value) (w : World), (callFunc K args).run Try.prog w = .ok (.enter K args) w)
    (H : Tells Try.prog K caps g n w) (h : eachGo g n 0 [] = some (r1, r2)) :
    Calls Try.prog 67 #[.int .i64 n, .func (.func K) #[] caps] w fun e w' => ∃ v0_ : Value, e = .returned (.tuple #[v0_, .int .i64 r2]) ∧ Kd.R (Kd.int .i64) 2 w' w.heap.size (fun _ => True) v0_ r1 ∧ Below w.heap.size w w' := by
 have hmk := print_make (P := Try.prog) 22 2 .i64 8 Try.underlying22 info2 (by decide) n (by omega)
 have HH := ZM H
 have HG := ZM h
 clear H h
 go_enter Try.func67, Try.ntmps67
 go_wp2_with fail
 go_loopw [13] (fun i W => ∃ (k : Nat) (acc : List Int), i = .int .i64 k ∧ Aside0 (k ≤ n) ∧ Aside0 (acc.length = k) ∧ Aside0 (eachGo g (n - k) k acc = some (r1, r2)) ∧ Aside0 (Kd.R (Kd.int .i64) 2 W w.heap.size (fun _ => True) (.slice (some ⟨w.heap.size, 0, none⟩) n n) (acc ++ List.replicate (n - k) 0)) ∧ Aside0 (Below w.heap.size w W)) (fun i _ => n - (intOf i).toNat)
 case atStart => exact ⟨0, [], rfl, ⟨Nat.zero_le _⟩, ⟨rfl⟩, HG, ⟨by have ho := own_made w w.heap.size 2 .i64 n (Nat.le_refl _) (by omega); rw [show ([] : List Int) ++ List.replicate (n - 0) 0 = List.replicate n 0 by simp]; exact Kd.R_of_own (enc := Value.int .i64) (h1 := fun _ => rfl) (xs := List.replicate n (0 : Int)) (by rw [List.length_replicate]; exact ho) (fun _ _ => trivial)⟩, ⟨zzA (Below.refl _ _) _⟩⟩
 case round =>
  obtain ⟨k, acc, rfl, ⟨hk⟩, ⟨hacc⟩, ⟨hgo⟩, HO, HB⟩ := hrel
  clear HG
  by_cases hlt : k < n
  · obtain ⟨d, hd⟩ : ∃ d, n - k = d + 1 := ⟨n - k - 1, by omega⟩
    rw [hd, eachGo] at hgo
    obtain ⟨⟨x, e⟩, hgk, hgo⟩ := Option.bind_eq_some_iff.mp hgo
    have HC := ZM (HH.out k wr x e hlt HB.out hgk)
    have HHd := ZM hd
    clear hd hgk
    by_cases he : e = 0
    · subst he
      simp only [if_true] at hgo
      have HG := ZM hgo
      have HA := ZM hacc
      clear hgo hacc hk
      go_wp2_with (go_at_fn K; refine HC.out.mono ?_; rintro ed W1 ⟨rfl, hb⟩; have HO1 := ZM (Kd.R_below HO.out hb); have HB1 := ZM (below_then HB.out HB.out.size hb); clear hb; have hcell := (Kd.R_celln 0 HO1.out (k : Int) (by omega) (by omega)).1; have hfr := (Kd.R_celln 0 HO1.out (k : Int) (by omega) (by omega)).2; simp only [Int.toNat_natCast] at hcell hfr)
      have hp := Kd.R_putg HO1.out (k : Int) x
      have hset : (acc ++ List.replicate (n - k) 0).set (k : Int).toNat x = (acc ++ [x]) ++ List.replicate (n - (k + 1)) 0 := by
       rw [HHd.out, show n - (k + 1) = d by have := HHd.out; omega, Int.toNat_natCast, ← HA.out, List.set_append_right _ _ (Nat.le_refl _), Nat.sub_self, List.replicate_succ]
       simp
      rw [hset] at hp
      simp only [Int.toNat_natCast] at hp
      exact ⟨⟨k + 1, acc ++ [x], by go_num, ⟨by omega⟩, ⟨by have := HA.out; simp; omega⟩, ⟨by rw [show n - (k + 1) = d by have := HHd.out; omega]; exact HG.out⟩, ⟨hp.1⟩, ⟨HB1.out.setCell (Nat.le_refl _) _⟩⟩, by simp [intOf]; omega⟩
    · rw [if_neg he] at hgo
      cases hgo
      have he0 : (e == 0) = false := beq_eq_false_iff_ne.2 he
      have he1 : (e != 0) = true := bne_iff_ne.2 he
      clear he hacc hk
      go_wp2_with (go_at_fn K; refine HC.out.mono ?_; rintro ed W1 ⟨rfl, hb⟩; have HO1 := ZM (Kd.R_below HO.out hb); have HB1 := ZM (below_then HB.out HB.out.size hb); clear hb; have hcell := (Kd.R_celln 0 HO1.out (k : Int) (by omega) (by omega)).1; have hfr := (Kd.R_celln 0 HO1.out (k : Int) (by omega) (by omega)).2; simp only [Int.toNat_natCast] at hcell hfr)
      go_ret2
      exact ⟨_, rfl, Kd.R_nil _ _ _ _ _, HB1.out.setCell (Nat.le_refl _) _⟩
  · have hkn : n - k = 0 := by omega
    rw [hkn, eachGo] at hgo
    cases hgo
    have HO2 := HO.out
    rw [hkn, List.replicate_zero, List.append_nil] at HO2
    have HO3 := ZM HO2
    clear HO2 HO hkn hacc hk
    go_wp2
    go_ret2
    exact ⟨_, rfl, HO3.out, HB.out⟩
-- NOT PRINTED: function 68 (vec_Scale_1)

/-! ### vec_Scale: function 43 -/
set_option maxHeartbeats 2000000 in
set_option maxRecDepth 100000 in
theorem vec_Scale_1.calls (b1 b2 b3 : Nat) (A0 : Option Addr) (c0 : Nat) (l0 : List Int) (a1 : Int) (a2 : Int) (i : Nat) (W : World) (x e : Int)
    (hb1 : W.cell? ⟨b1, 0, none⟩ = some (.slice A0 l0.length c0)) (hb2 : W.cell? ⟨b2, 0, none⟩ = some (.int .i64 a1)) (hb3 : W.cell? ⟨b3, 0, none⟩ = some (.int .i64 a2))
    (hr0 : Kd.C (Kd.int .i64) W A0 l0.length l0) (h0 : i < l0.length)
    (h : fix_Mul.f (rd l0 i) a1 a2 = some (x, e)) :
    Calls Try.prog 68 #[.int .i64 i, .pointer (some ⟨b1, 0, none⟩), .pointer (some ⟨b2, 0, none⟩), .pointer (some ⟨b3, 0, none⟩)] W fun ed W' => ed = .returned (.tuple #[.int .i64 x, .int .i64 e]) ∧ Below W.heap.size W W' := by
 obtain ⟨ad0, rfl, hc0⟩ := Kd.at_int hr0 (i : Int) (by omega) (by omega)
 simp only [Int.toNat_natCast] at hc0
 have HC := ZM h
 clear hr0 h
 go_enter Try.func68, Try.ntmps68
 go_wp2
 go_region_held3 (fun w' => w'.cell? ⟨b1, 0, none⟩ = some (.slice (some ad0) l0.length c0) ∧ w'.cell? ⟨b2, 0, none⟩ = some (.int .i64 a1) ∧ w'.cell? ⟨b3, 0, none⟩ = some (.int .i64 a2) ∧ w'.cell? (ad0.add i) = some (.int .i64 (rd l0 i)))
  (first | go_keep | (go_split_ands; exact ⟨pw_cell_below hb (by assumption), pw_cell_below hb (by assumption), pw_cell_below hb (by assumption), pw_cell_below hb (by assumption)⟩))
  ((go_at_call 69; (with_reducible refine (fix_Mul.calls (rd l0 i) a1 a2 x e _ HC.out).mono ?_); rintro ed W2 ⟨rfl, hb⟩))
 go_wp2
 go_ret2
 exact ⟨rfl, below_then (below_drew (Below.refl _ _)) (Nat.le_refl _) hb⟩
def vec_Scale.f (l0 : List Int) (a1 a2 : Int) : Option (List Int × Int) := if V64 l0 ∧ I64 a1 then some (scaleV l0 a1 a2) else none
theorem vec_Scale.of (l0 : List Int) (a1 a2 : Int)  (h_ : V64 l0 ∧ I64 a1) : vec_Scale.f l0 a1 a2 = some (scaleV l0 a1 a2) := if_pos h_
set_option maxHeartbeats 2000000 in
set_option maxRecDepth 100000 in
theorem vec_Scale.calls (A0 : Option Addr) (c0 : Nat) (l0 : List Int) (a1 : Int) (a2 : Int) (r1 : List Int) (r2 : Int) (w : World) (hr0 : Kd.C (Kd.int .i64) w A0 l0.length l0) (hc0 : l0.length ≤ c0) (h : vec_Scale.f l0 a1 a2 = some (r1, r2)) :
    Calls Try.prog 43 #[.slice A0 l0.length c0, .int .i64 a1, .int .i64 a2] w fun e w' => ∃ v0_ : Value, e = .returned (.tuple #[v0_, .int .i64 r2]) ∧ Kd.R (Kd.int .i64) 2 w' w.heap.size (fun _ => True) v0_ r1 ∧ Below w.heap.size w w' := by
 unfold vec_Scale.f at h
 split at h
 case isFalse => cases h
 rename_i hv
 have h := Option.some.inj h
 unfold scaleV at h
 have HR0 := ZM hr0
 have HC0 := ZM hc0
 clear hr0 hc0
 have HV := ZM hv
 clear hv
 try have hu22 := Try.underlying22
 try have hu2 := Try.underlying2
 try have hu3 := Try.underlying3
 have HP0 : Aside0 (vec_Check.f l0 = some (checkE l0)) := ⟨vec_Check.of l0⟩
 by_cases hp0 : checkE l0 = 0
 · rw [if_pos hp0] at h
   rw [hp0] at HP0
   have HP1 : Aside0 (vec_behind.f a2 = some (fracE a2)) := ⟨vec_behind.of a2⟩
   by_cases hp1 : fracE a2 = 0
   · rw [if_pos hp1] at h
     rw [hp1] at HP1
     have HN : Aside0 (l0.length ≤ 4096) := ⟨checkE_le hp0⟩
     have HH := ZM h
     clear h hp0 hp1
     have HX0 : Aside0 ((((w.alloc (Obj.cells #[Value.slice A0 l0.length c0] 22)).alloc (Obj.cells #[Value.int .i64 a1] 2)).alloc (Obj.cells #[Value.int .i64 a2] 3)).cell? ⟨w.heap.size, 0, none⟩ = some (.slice A0 l0.length c0)) := ⟨by simp [go_sem]⟩
     have HX1 : Aside0 ((((w.alloc (Obj.cells #[Value.slice A0 l0.length c0] 22)).alloc (Obj.cells #[Value.int .i64 a1] 2)).alloc (Obj.cells #[Value.int .i64 a2] 3)).cell? ⟨w.heap.size + 1, 0, none⟩ = some (.int .i64 a1)) := ⟨by simp [go_sem]⟩
     have HX2 : Aside0 ((((w.alloc (Obj.cells #[Value.slice A0 l0.length c0] 22)).alloc (Obj.cells #[Value.int .i64 a1] 2)).alloc (Obj.cells #[Value.int .i64 a2] 3)).cell? ⟨w.heap.size + 2, 0, none⟩ = some (.int .i64 a2)) := ⟨by simp [go_sem]⟩
     have HB : Aside0 (Below w.heap.size w (((w.alloc (Obj.cells #[Value.slice A0 l0.length c0] 22)).alloc (Obj.cells #[Value.int .i64 a1] 2)).alloc (Obj.cells #[Value.int .i64 a2] 3))) := ⟨zzA (zzA (zzA (Below.refl _ _) _) _) _⟩
     go_enter Try.func43, Try.ntmps43
     go_wp2_with (first | (go_at_call 57; (with_reducible refine (vec_Check.calls A0 c0 l0 0 _ (Kd.C_below HR0.out HB.out) HC0.out HP0.out).mono ?_); rintro ed W1 ⟨rfl, hd⟩; have hb := hd.below; clear hd; have HB := ZM (below_then HB.out HB.out.size hb); have HX0 := ZM (pw_cell_below hb HX0.out); have HX1 := ZM (pw_cell_below hb HX1.out); have HX2 := ZM (pw_cell_below hb HX2.out); have hx0 := HX0.out; have hx1 := HX1.out; have hx2 := HX2.out; clear hb) | (go_at_call 66; (with_reducible refine (vec_behind.calls a2 0 _ HP1.out).mono ?_); rintro ed W1 ⟨rfl, hd⟩; have hb := hd; clear hd; have HB := ZM (below_then HB.out HB.out.size hb); have HX0 := ZM (pw_cell_below hb HX0.out); have HX1 := ZM (pw_cell_below hb HX1.out); have HX2 := ZM (pw_cell_below hb HX2.out); have hx0 := HX0.out; have hx1 := HX1.out; have hx2 := HX2.out; clear hb) | (go_at_call 67; (with_reducible refine (vec_each.calls 68 _ (fun i : Nat => fix_Mul.f (rd l0 i) a1 a2) l0.length (by have := HN.out; omega) _ r1 r2 ?ent ?tells ?go).mono ?_); (case ent => exact enters_of Try.func68 rfl rfl); (case tells => intro i W x e hi hb hg; refine (vec_Scale_1.calls (w.heap.size) (w.heap.size + 1) (w.heap.size + 2) A0 c0 l0 a1 a2 i W x e (pw_cell_below hb HX0.out) (pw_cell_below hb HX1.out) (pw_cell_below hb HX2.out) (Kd.C_below (Kd.C_below HR0.out HB.out) hb) (by omega) hg).mono ?_; rintro ed W' ⟨rfl, hd⟩; exact ⟨rfl, hd⟩); (case go => exact (each_spec (ps := l0.map fun x => mulF x a1 a2) (List.length_map _) (fun j h => by rw [map_get _ j h]; exact fix_Mul.of _ _ _ ⟨HV.out.1.rd _, HV.out.2⟩)).trans (congrArg some HH.out)); rintro ed W2 ⟨v_, rfl, hR, hb⟩; have HO := ZM (Kd.R_lower hR HB.out.size); have HB2 := ZM (below_then HB.out HB.out.size hb); clear hR hb))
     go_ret2
     exact ⟨_, rfl, HO.out, HB2.out⟩
   · rw [if_neg hp1] at h
     cases h
     have HX0 : Aside0 ((((w.alloc (Obj.cells #[Value.slice A0 l0.length c0] 22)).alloc (Obj.cells #[Value.int .i64 a1] 2)).alloc (Obj.cells #[Value.int .i64 a2] 3)).cell? ⟨w.heap.size, 0, none⟩ = some (.slice A0 l0.length c0)) := ⟨by simp [go_sem]⟩
     have HX1 : Aside0 ((((w.alloc (Obj.cells #[Value.slice A0 l0.length c0] 22)).alloc (Obj.cells #[Value.int .i64 a1] 2)).alloc (Obj.cells #[Value.int .i64 a2] 3)).cell? ⟨w.heap.size + 1, 0, none⟩ = some (.int .i64 a1)) := ⟨by simp [go_sem]⟩
     have HX2 : Aside0 ((((w.alloc (Obj.cells #[Value.slice A0 l0.length c0] 22)).alloc (Obj.cells #[Value.int .i64 a1] 2)).alloc (Obj.cells #[Value.int .i64 a2] 3)).cell? ⟨w.heap.size + 2, 0, none⟩ = some (.int .i64 a2)) := ⟨by simp [go_sem]⟩
     have HB : Aside0 (Below w.heap.size w (((w.alloc (Obj.cells #[Value.slice A0 l0.length c0] 22)).alloc (Obj.cells #[Value.int .i64 a1] 2)).alloc (Obj.cells #[Value.int .i64 a2] 3))) := ⟨zzA (zzA (zzA (Below.refl _ _) _) _) _⟩
     have he0 : (fracE a2 == 0) = false := beq_eq_false_iff_ne.2 hp1
     have he1 : (fracE a2 != 0) = true := bne_iff_ne.2 hp1
     obtain ⟨e_, hE⟩ : ∃ e_ : Int, fracE a2 = e_ := ⟨_, rfl⟩
     rw [hE] at HP1 he0 he1
     simp only [hE]
     clear hE hp1
     go_enter Try.func43, Try.ntmps43
     go_wp2_with (first | (go_at_call 57; (with_reducible refine (vec_Check.calls A0 c0 l0 0 _ (Kd.C_below HR0.out HB.out) HC0.out HP0.out).mono ?_); rintro ed W1 ⟨rfl, hd⟩; have hb := hd.below; clear hd; have HB := ZM (below_then HB.out HB.out.size hb); have HX0 := ZM (pw_cell_below hb HX0.out); have HX1 := ZM (pw_cell_below hb HX1.out); have HX2 := ZM (pw_cell_below hb HX2.out); have hx0 := HX0.out; have hx1 := HX1.out; have hx2 := HX2.out; clear hb) | (go_at_call 66; (with_reducible refine (vec_behind.calls a2 e_ _ HP1.out).mono ?_); rintro ed W1 ⟨rfl, hd⟩; have hb := hd; clear hd; have HB := ZM (below_then HB.out HB.out.size hb); have HX0 := ZM (pw_cell_below hb HX0.out); have HX1 := ZM (pw_cell_below hb HX1.out); have HX2 := ZM (pw_cell_below hb HX2.out); have hx0 := HX0.out; have hx1 := HX1.out; have hx2 := HX2.out; clear hb))
     go_ret2
     exact ⟨_, rfl, Kd.R_nil _ _ _ _ _, HB.out⟩
 · rw [if_neg hp0] at h
   cases h
   have HX0 : Aside0 ((((w.alloc (Obj.cells #[Value.slice A0 l0.length c0] 22)).alloc (Obj.cells #[Value.int .i64 a1] 2)).alloc (Obj.cells #[Value.int .i64 a2] 3)).cell? ⟨w.heap.size, 0, none⟩ = some (.slice A0 l0.length c0)) := ⟨by simp [go_sem]⟩
   have HX1 : Aside0 ((((w.alloc (Obj.cells #[Value.slice A0 l0.length c0] 22)).alloc (Obj.cells #[Value.int .i64 a1] 2)).alloc (Obj.cells #[Value.int .i64 a2] 3)).cell? ⟨w.heap.size + 1, 0, none⟩ = some (.int .i64 a1)) := ⟨by simp [go_sem]⟩
   have HX2 : Aside0 ((((w.alloc (Obj.cells #[Value.slice A0 l0.length c0] 22)).alloc (Obj.cells #[Value.int .i64 a1] 2)).alloc (Obj.cells #[Value.int .i64 a2] 3)).cell? ⟨w.heap.size + 2, 0, none⟩ = some (.int .i64 a2)) := ⟨by simp [go_sem]⟩
   have HB : Aside0 (Below w.heap.size w (((w.alloc (Obj.cells #[Value.slice A0 l0.length c0] 22)).alloc (Obj.cells #[Value.int .i64 a1] 2)).alloc (Obj.cells #[Value.int .i64 a2] 3))) := ⟨zzA (zzA (zzA (Below.refl _ _) _) _) _⟩
   have he0 : (checkE l0 == 0) = false := beq_eq_false_iff_ne.2 hp0
   have he1 : (checkE l0 != 0) = true := bne_iff_ne.2 hp0
   obtain ⟨e_, hE⟩ : ∃ e_ : Int, checkE l0 = e_ := ⟨_, rfl⟩
   rw [hE] at HP0 he0 he1
   simp only [hE]
   clear hE hp0
   go_enter Try.func43, Try.ntmps43
   go_wp2_with (first | (go_at_call 57; (with_reducible refine (vec_Check.calls A0 c0 l0 e_ _ (Kd.C_below HR0.out HB.out) HC0.out HP0.out).mono ?_); rintro ed W1 ⟨rfl, hd⟩; have hb := hd.below; clear hd; have HB := ZM (below_then HB.out HB.out.size hb); have HX0 := ZM (pw_cell_below hb HX0.out); have HX1 := ZM (pw_cell_below hb HX1.out); have HX2 := ZM (pw_cell_below hb HX2.out); have hx0 := HX0.out; have hx1 := HX1.out; have hx2 := HX2.out; clear hb))
   go_ret2
   exact ⟨_, rfl, Kd.R_nil _ _ _ _ _, HB.out⟩
/-! ### soft_bendP: function 24 -/
def soft_bendP.l0 : Nat → Int → List Int → List Int → Int → Int → List Int → Int → Option (List Int × Int)
 | 0, _, _, _, _, _, _, _ => none
 | k + 1, x2, x6, x12, x13, x14, x174000, x174001 => if x14 < x13 then (if 0 ≤ x14 then (if x14 < (x12.length : Int) then ((vec_Scale.f x174000 (rd x12 x14) x2).bind fun bt175 => (if bt175.2 = 0 then (if x6.length + bt175.1.length < 17592186044416 then ((some (x6 ++ bt175.1 : List Int)).bind fun y179 => (if y179.length < 17592186044416 then (soft_bendP.l0 k x2 (y179 ++ [rd x12 x14]) x12 x13 (wrap64 (x14 + 1)) x174000 x174001) else (none))) else (none)) else (some (([] : List Int), bt175.2)))) else (none)) else (none)) else (some (x6, 0))
def soft_bendP.f (k : Nat) (l0_0 : List Int) (a0_1 : Int) (l1 : List Int) (a2 : Int) : Option (List Int × Int) := soft_bendP.l0 k a2 ([] : List Int) l1 (l1.length : Int) 0 l0_0 a0_1
theorem soft_bendP.mono_l : ∀ k, (∀ y0 y1 y2 y3 y4 y5 y6, LeO (soft_bendP.l0 k y0 y1 y2 y3 y4 y5 y6) (soft_bendP.l0 (k + 1) y0 y1 y2 y3 y4 y5 y6))
 | 0 => fun _ _ _ _ _ _ _ r h => by simp [soft_bendP.l0] at h
 | k + 1 => by
  have ih0 := soft_bendP.mono_l k
  ·
   intro y0 y1 y2 y3 y4 y5 y6
   unfold soft_bendP.l0
   repeat' first
   | (with_reducible exact ih0 _ _ _ _ _ _ _)
   | (with_reducible exact LeO.refl _)
   | (with_reducible exact LeO.none _)
   | (with_reducible refine LeO.ite ?_ ?_)
   | (with_reducible refine LeO.bind ?_ (fun _ => ?_))
theorem soft_bendP.mono : ∀ a0 a1 a2 a3 k, LeO (soft_bendP.f k a0 a1 a2 a3) (soft_bendP.f (k + 1) a0 a1 a2 a3) := by
 intro a0 a1 a2 a3 k
 have ih0 := soft_bendP.mono_l k
 unfold soft_bendP.f
 repeat' first
   | (with_reducible exact ih0 _ _ _ _ _ _ _)
   | (with_reducible exact LeO.refl _)
   | (with_reducible exact LeO.none _)
   | (with_reducible refine LeO.ite ?_ ?_)
   | (with_reducible refine LeO.bind ?_ (fun _ => ?_))
set_option maxHeartbeats 8000000 in
set_option maxRecDepth 100000 in
theorem soft_bendP.calls (k : Nat) (A0_0 : Option Addr) (c0_0 : Nat) (l0_0 : List Int) (a0_1 : Int) (A1 : Option Addr) (c1 : Nat) (l1 : List Int) (a2 : Int) (r1 : List Int) (r2 : Int) (w : World) (hr0_0 : Kd.C (Kd.int .i64) w A0_0 l0_0.length l0_0) (hc0_0 : l0_0.length ≤ c0_0) (hr1 : Kd.C (Kd.int .i64) w A1 l1.length l1) (hc1 : l1.length ≤ c1) (h : soft_bendP.f k l0_0 a0_1 l1 a2 = some (r1, r2)) :
  Calls Try.prog 24 #[.agg #[.slice A0_0 l0_0.length c0_0, .int .i64 a0_1], .slice A1 l1.length c1, .int .i64 a2] w fun e w' => ∃ v0_ : Value, e = .returned (.tuple #[v0_, .int .i64 r2]) ∧ Kd.R (Kd.int .i64) 2 w' w.heap.size (fun _ => True) v0_ r1 ∧ Below w.heap.size w w' := by
 have hu26 := Try.underlying26
 have HR0_0 := ZM hr0_0
 have HC0_0 := ZM hc0_0
 clear hr0_0 hc0_0
 have HR1 := ZM hr1
 have HC1 := ZM hc1
 clear hr1 hc1
 have HB := ZM (Below.refl w.heap.size w)
 have H : (soft_bendP.l0 k a2 ([] : List Int) l1 (l1.length : Int) 0 l0_0 a0_1) = some (r1, r2) := h
 clear h
 have H' := ZM H
 clear H
 go_enter Try.func24, Try.ntmps24
 go_wp2_with (first | ((with_reducible refine gate_dst (N := 3) rfl ?_); refine box_event ?hg (N := 3) ?hd (cs := #[.slice A0_0 l0_0.length c0_0, .int .i64 a0_1]) (t := 26) ?hr ?_; (case hd => rfl); (case hg => rfl); (case hr => exact Z9); intro gb173 hg w4 hbox hb; have BK173 := ZM (hbox); have GW173 := ZM ((by rw [hg]; exact (zzS Z1) : w.heap.size ≤ gb173)); have GE173 := ZM ((by rw [hg]; exact (zzS Z1) : w.heap.size ≤ gb173)); replace HB := ZM (zzT Z1 hb); clear hb hbox hg))
 go_loopg [6, 14] k (fun kq v6 v14 w' => ∃ (x6_1 : List Int) (x14_1 : Int), v14 = .int .i64 x14_1 ∧ Aside0 (soft_bendP.l0 kq a2 x6_1 l1 (l1.length : Int) x14_1 l0_0 a0_1 = some (r1, r2)) ∧ Aside0 (kq ≤ k) ∧ Aside0 (Kd.R (Kd.int .i64) 2 w' w.heap.size (fun _ => True) v6 x6_1) ∧ Aside0 (w'.heap[gb173]? = some (.cells #[(.slice A0_0 l0_0.length c0_0), .int .i64 a0_1] 26 (0, 0))) ∧ Aside0 (Below w.heap.size w w'))
 case atStart => exact ⟨(([] : List Int)), (0), Z4, H', ⟨Nat.le_refl _⟩, ⟨by first | exact Kd.R_nil _ _ _ _ _ | exact Kd.N_nil _ _ _ _ _ | exact Kd.V_nil _ _ _ _ _ | exact Kd.Q_nil _ _ _ _ _ | exact Kd.S_nil _ _ _ _ _⟩, ⟨by (with_reducible repeat (first | refine kkN ?_ _ | refine kkD ?_ | refine kkA ?_ _)); exact BK173.out⟩, ⟨by repeat (first | (with_reducible first | exact HB.out | apply zzA | apply zzN | apply zzD | refine below_set ?_ GE173.out) | exact HB.out)⟩⟩
 case round =>
  clear H'
  try clear c1
  try clear c2
  try clear p2
  obtain ⟨x6_1, x14_1, rfl, HA, HK1, HO_6, BK173, HB⟩ := hrel
  cases gk with
  | zero => exact absurd HA.out (by simp [soft_bendP.l0])
  | succ k1 =>
   have H := HA.out
   clear HA
   simp only [soft_bendP.l0] at H
   by_cases c5 : x14_1 < (l1.length : Int)
   case neg =>
    rw [if_neg c5] at H
    have c5b0 : decide (x14_1 < (l1.length : Int)) = false := decide_eq_false c5
    clear c5
    simp only [Option.some.injEq, Prod.mk.injEq] at H
    obtain ⟨rfl, rfl⟩ := H
    go_wp2
    go_ret2
    exact ⟨_, by first | rfl | (simp [errW_none, errW_some] <;> rfl) | (simp [*, errW_none, errW_some] <;> rfl), by (with_reducible repeat (first | apply rrA | apply rrN | apply rrD)); exact HO_6.out, by repeat (first | (with_reducible first | exact HB.out | apply zzA | apply zzN | apply zzD | refine below_set ?_ GE173.out) | exact HB.out)⟩
   rw [if_pos c5] at H
   have c5b0 : decide (x14_1 < (l1.length : Int)) = true := decide_eq_true c5
   clear c5
   by_cases c6 : 0 ≤ x14_1
   case neg =>
    rw [if_neg c6] at H
    exact absurd H (by simp)
   rw [if_pos c6] at H
   have c6b0 : decide (0 ≤ x14_1) = true := decide_eq_true c6
   clear c6
   by_cases c7 : x14_1 < (l1.length : Int)
   case neg =>
    rw [if_neg c7] at H
    exact absurd H (by simp)
   rw [if_pos c7] at H
   have c7b0 : decide (x14_1 < (l1.length : Int)) = true := decide_eq_true c7
   clear c7
   replace H := Option.bind_eq_some_iff.mp H
   obtain ⟨⟨t175, t176⟩, A80, H⟩ := H
   replace H : (if t176 = 0 then (if x6_1.length + t175.length < 17592186044416 then ((some (x6_1 ++ t175 : List Int)).bind fun y179 => (if y179.length < 17592186044416 then (soft_bendP.l0 k1 a2 (y179 ++ [rd l1 x14_1]) l1 (l1.length : Int) (wrap64 (x14_1 + 1)) l0_0 a0_1) else (none))) else (none)) else (some (([] : List Int), t176))) = some (r1, r2) := H
   have A8 := ZM A80
   clear A80
   by_cases c9 : t176 = 0
   case neg =>
    rw [if_neg c9] at H
    have c9b0 : (t176 == 0) = false := beq_eq_false_iff_ne.mpr c9
    have c9b1 : (t176 != 0) = true := bne_iff_ne.mpr c9
    simp only [Option.some.injEq, Prod.mk.injEq] at H
    obtain ⟨rfl, rfl⟩ := H
    have p174 : 0 ≤ (x14_1 : Int) := of_decide_eq_true Z3
    have q174 : x14_1 < (l1.length : Int) := of_decide_eq_true Z3
    obtain ⟨ad174, e174, hx174_0⟩ := Kd.at_int HR1.out x14_1 p174 q174
    cases e174
    replace hx174_0 := (HB.out.cell (World.block_lt_of_cell? w _ hx174_0)).trans hx174_0
    replace p174 := eq_true p174
    replace q174 := eq_true q174
    obtain ⟨hcz17_0, hcz17_1, hfz17_0, hfz17_1⟩ := Y2f BK173
    go_wp2_with (first | ((with_reducible refine gate_callee (f := 43) rfl ?_); refine goesL_ (some 23) rfl rfl Try.func43 (by kernel_rfl) rfl #[.slice A0_0 l0_0.length c0_0, .int .i64 (rd l1 x14_1), .int .i64 a2] rfl Z2 ?_; (with_reducible refine (vec_Scale.calls _ _ l0_0 (rd l1 x14_1) a2 t175 t176 _ ?side1 ?side2 A8.out).mono ?_); (case side1 => exact Z48); (case side2 => exact HC0_0.out); rintro e w18 ⟨v177, rfl, ho0, hb⟩; refine ⟨_, rfl, ?_⟩; have n0_ := ZM (Kd.R_elder' (Zr HO_6) (Kd.R_base ho0) hb); have n1_ := ZM (Kd.R_lower (Kd.R_new' ho0 (Kd.R_lt (Zr HO_6))) (zzS Z17)); have n2_ := ZM (blk_below (g := gb173) (o := .cells #[.slice A0_0 l0_0.length c0_0, .int .i64 a0_1] 26 (0, 0)) (Zk BK173) hb); have n3_ := ZM (zzT Z17 hb); clear HO_6; clear BK173; clear HB; have HO_6 := n0_; have HO178 := n1_; have BK173 := n2_; have HB := n3_; clear n0_ n1_ n2_ n3_; (try clear hb); (try clear hb2); (try clear hk); (try clear hi); (try clear ho0)))
    go_ret2
    exact ⟨_, by first | rfl | (simp [errW_none, errW_some] <;> rfl) | (simp [*, errW_none, errW_some] <;> rfl), by first | exact Kd.R_nil _ _ _ _ _ | exact Kd.N_nil _ _ _ _ _ | exact Kd.V_nil _ _ _ _ _ | exact Kd.Q_nil _ _ _ _ _ | exact Kd.S_nil _ _ _ _ _, by repeat (first | (with_reducible first | exact HB.out | apply zzA | apply zzN | apply zzD | refine below_set ?_ GE173.out) | exact HB.out)⟩
   rw [if_pos c9] at H
   have c9b0 : (t176 == 0) = true := beq_iff_eq.mpr c9
   have c9b1 : (t176 != 0) = false := bne_eq_false_iff_eq.mpr c9
   clear c9
   by_cases c10 : x6_1.length + t175.length < 17592186044416
   case neg =>
    rw [if_neg c10] at H
    exact absurd H (by simp)
   rw [if_pos c10] at H
   have LMc10 := ZM c10
   clear c10
   obtain ⟨y179, hy179⟩ : ∃ y_ : List Int, y_ = (x6_1 ++ t175) := ⟨_, rfl⟩
   replace H : (if y179.length < 17592186044416 then (soft_bendP.l0 k1 a2 (y179 ++ [rd l1 x14_1]) l1 (l1.length : Int) (wrap64 (x14_1 + 1)) l0_0 a0_1) else (none)) = some (r1, r2) := by first | (rw [hy179]; with_reducible exact H) | (have H2_ := (Option.bind_some _ _).symm.trans H; rw [hy179]; with_reducible exact H2_) | (have H2_ := (Option.bind_some _ _).symm.trans H; with_reducible exact H2_) | with_reducible exact H | (rw [hy179]; exact H) | exact H
   have Ny179 := ZM hy179
   clear hy179
   by_cases c11 : y179.length < 17592186044416
   case neg =>
    rw [if_neg c11] at H
    exact absurd H (by simp)
   rw [if_pos c11] at H
   have LMc11 := ZM c11
   clear c11
   obtain ⟨y182, hy182⟩ : ∃ y_ : List Int, y_ = (y179 ++ [rd l1 x14_1]) := ⟨_, rfl⟩
   replace H : (soft_bendP.l0 k1 a2 y182 l1 (l1.length : Int) (wrap64 (x14_1 + 1)) l0_0 a0_1) = some (r1, r2) := by first | (rw [hy182]; with_reducible exact H) | (have H2_ := (Option.bind_some _ _).symm.trans H; rw [hy182]; with_reducible exact H2_) | (have H2_ := (Option.bind_some _ _).symm.trans H; with_reducible exact H2_) | with_reducible exact H | (rw [hy182]; exact H) | exact H
   have Ny182 := ZM hy182
   clear hy182
   have H' := ZM H
   clear H
   have p174 : 0 ≤ (x14_1 : Int) := of_decide_eq_true Z3
   have q174 : x14_1 < (l1.length : Int) := of_decide_eq_true Z3
   obtain ⟨ad174, e174, hx174_0⟩ := Kd.at_int HR1.out x14_1 p174 q174
   cases e174
   replace hx174_0 := (HB.out.cell (World.block_lt_of_cell? w _ hx174_0)).trans hx174_0
   replace p174 := eq_true p174
   replace q174 := eq_true q174
   obtain ⟨hcz12_0, hcz12_1, hfz12_0, hfz12_1⟩ := Y2f BK173
   go_wp2_with (first | ((with_reducible refine gate_callee (f := 43) rfl ?_); refine goesL_ (some 23) rfl rfl Try.func43 (by kernel_rfl) rfl #[.slice A0_0 l0_0.length c0_0, .int .i64 (rd l1 x14_1), .int .i64 a2] rfl Z2 ?_; (with_reducible refine (vec_Scale.calls _ _ l0_0 (rd l1 x14_1) a2 t175 t176 _ ?side1 ?side2 A8.out).mono ?_); (case side1 => exact Z48); (case side2 => exact HC0_0.out); rintro e w13 ⟨v177, rfl, ho0, hb⟩; refine ⟨_, rfl, ?_⟩; have n0_ := ZM (Kd.R_elder' (Zr HO_6) (Kd.R_base ho0) hb); have n1_ := ZM (Kd.R_lower (Kd.R_new' ho0 (Kd.R_lt (Zr HO_6))) (zzS Z17)); have n2_ := ZM (blk_below (g := gb173) (o := .cells #[.slice A0_0 l0_0.length c0_0, .int .i64 a0_1] 26 (0, 0)) (Zk BK173) hb); have n3_ := ZM (zzT Z17 hb); clear HO_6; clear BK173; clear HB; have HO_6 := n0_; have HO178 := n1_; have BK173 := n2_; have HB := n3_; clear n0_ n1_ n2_ n3_; (try clear hb); (try clear hb2); (try clear hk); (try clear hi); (try clear ho0); obtain ⟨Ao15, co15, eo15⟩ := Kd.R_slice HO178.out; subst eo15) | ((with_reducible refine gate_builtin (b := .append) (xs := #[.tmp 29, .tmp 30]) rfl ?_); at_builtin; refine Kd.R_append_rows (Kd.int .i64) (w0 := w) w.heap.size rfl (.tmp 29) (.tmp 30) 22 2 (.int .i64 0) 8 rfl Try.underlying22 info2 rfl (by decide) (by omega) u6 x6_1 t175 _ _ _ (fun k_ => some k_ ≠ (.slice Ao15 t175.length co15 : Value).ownBlock) (fun _ => False) rfl rfl ?aO ?aR (fun _ _ h => h) (fun _ h => h.elim) ?aF ?aB ?aS ?aL ?_; (case aR => repeat (first | exact (Kd.R_reads' HO178.out).2.2 | (with_reducible refine ccA ?_ _) | (with_reducible refine ccN ?_ _) | (with_reducible refine ccD ?_))); (case aB => exact Z17); (case aF => exact (fun k_ hk => Kd.fresh' (Kd.R_lt (Zr HO178)) k_ hk)); (case aO => exact (by (with_reducible repeat (first | apply rrA | apply rrN | apply rrD)); exact Kd.R_mono HO_6.out (fun _ hk => hk.2))); (case aS => exact (zzS Z17)); (case aL => have := LMc10.out; omega); intro v180 w14 ho hb hg hat; rw [← Ny179.out] at ho; replace BK173 := ZM (blk_grown (g := gb173) (o := .cells #[.slice A0_0 l0_0.length c0_0, .int .i64 a0_1] 26 (0, 0)) (Zk BK173) hg (Kd.R_ne HO_6.out BK173.out (by decide))); replace HO178 := ZM (Kd.R_after (ok := (fun _ => True)) (Zr HO178) hg hat); have HO181 := ZM (ho); replace HB := ZM (hb); clear HO_6; clear ho hb hg hat) | ((with_reducible refine gate_builtin (b := .append) (xs := #[.tmp 31, .tmp 33]) rfl ?_); at_builtin; refine Kd.R_append (Kd.int .i64) (w0 := w) w.heap.size rfl (.tmp 31) (.tmp 33) 22 2 (.int .i64 0) 8 rfl Try.underlying22 info2 rfl (by decide) (by omega) v180 y179 (rd l1 x14_1) [.int .i64 (rd l1 x14_1)] (fun k_ => some k_ ≠ (.slice Ao15 t175.length co15 : Value).ownBlock) (fun _ => False) rfl rfl ?aP (fun _ hk => hk.elim) ?aF ?aO ?aB ?aS ?aL ?_; (case aP => exact rfl); (case aB => exact Z17); (case aF => exact (fun k_ hk => Kd.fresh' (Kd.R_lt (Zr HO178)) k_ hk)); (case aO => exact (Zr HO181)); (case aS => exact (zzS Z17)); (case aL => have := LMc11.out; omega); intro v183 w16 ho hb hg hat; rw [← Ny182.out] at ho; replace BK173 := ZM (blk_grown (g := gb173) (o := .cells #[.slice A0_0 l0_0.length c0_0, .int .i64 a0_1] 26 (0, 0)) (Zk BK173) hg (Kd.R_ne HO181.out BK173.out (by decide))); replace HO178 := ZM (Kd.R_after (ok := (fun _ => True)) (Zr HO178) hg hat); have HO184 := ZM (ho); replace HB := ZM (hb); clear HO181; clear ho hb hg hat))
   go_roundg k1
   case measure => have := HK1.out; omega
   case rel => exact ⟨(y182), (wrap64 (x14_1 + 1)), Z4, H', ⟨by have := HK1.out; omega⟩, ⟨by (with_reducible repeat (first | apply rrA | apply rrN | apply rrD)); exact Kd.R_mono HO184.out (fun _ hk => trivial)⟩, ⟨by (with_reducible repeat (first | refine kkN ?_ _ | refine kkD ?_ | refine kkA ?_ _)); exact BK173.out⟩, ⟨by repeat (first | (with_reducible first | exact HB.out | apply zzA | apply zzN | apply zzD | refine below_set ?_ GE173.out) | exact HB.out)⟩⟩
def soft_bend.f (l0_0 : List Int) (a0_1 : Int) (l1 : List Int) (a2 : Int) : Option (List Int × Int) := if V64 l0_0 ∧ V64 l1 ∧ l1.length ≤ 4096 then some (bendRows l0_0 a2 l1) else none
theorem soft_bend.of (l0_0 : List Int) (a0_1 : Int) (l1 : List Int) (a2 : Int)  (h_ : V64 l0_0 ∧ V64 l1 ∧ l1.length ≤ 4096) : soft_bend.f l0_0 a0_1 l1 a2 = some (bendRows l0_0 a2 l1) := if_pos h_
theorem soft_bendP.loop (x : List Int) (y f : Int) (off : List Int) (hx : V64 x) (ho : V64 off) (hl : off.length ≤ 4096) : ∀ (d i : Nat) (acc : List Int), d + i = off.length → acc.length ≤ 4097 * i →
    soft_bendP.l0 (d + 1) f acc off (off.length : Int) (i : Int) x y = some (if (bendRows x f (off.drop i)).2 = 0 then (acc ++ (bendRows x f (off.drop i)).1, 0) else ([], (bendRows x f (off.drop i)).2)) := by
  intro d
  induction d with
  | zero =>
    intro i acc hd ha
    rw [soft_bendP.l0, if_neg (by omega), List.drop_eq_nil_of_le (by omega), bendRows, if_pos rfl, List.append_nil]
  | succ d ih =>
    intro i acc hd ha
    have hi : i < off.length := by omega
    have hrd : rd off (i : Int) = off[i] := by unfold rd; rw [Int.toNat_natCast, List.getD_eq_getElem?_getD, List.getElem?_eq_getElem hi, Option.getD_some]
    rw [soft_bendP.l0, if_pos (by omega), if_pos (by omega), if_pos (by omega), hrd, vec_Scale.of _ _ _ ⟨hx, ho _ (List.getElem_mem hi)⟩, Option.bind_some, List.drop_eq_getElem_cons hi, bendRows]
    have hle := scaleV_lle x off[i] f
    by_cases c : (scaleV x off[i] f).2 = 0
    · rw [if_pos c, if_pos c, if_pos (by omega), Option.bind_some, if_pos (by rw [List.length_append]; omega), wrap64_of (by unfold I64; omega), show (i : Int) + 1 = ((i + 1 : Nat) : Int) by omega,
        ih (i + 1) _ (by omega) (by rw [List.length_append, List.length_append, List.length_singleton]; omega)]
      by_cases c2 : (bendRows x f (off.drop (i + 1))).2 = 0
      · rw [if_pos c2, if_pos c2, if_pos rfl, List.append_assoc, List.append_assoc]; rfl
      · rw [if_neg c2, if_neg c2, if_neg c2]
    · rw [if_neg c, if_neg c, if_neg c]
theorem bendRows_err {x : List Int} {f : Int} : ∀ {os : List Int}, (bendRows x f os).2 ≠ 0 → (bendRows x f os).1 = []
  | [], h => absurd rfl h
  | o :: os, h => by
    rw [bendRows] at h ⊢
    split
    · rename_i c
      rw [if_pos c] at h
      split
      · rename_i c2; rw [if_pos c2] at h; exact absurd rfl h
      · rfl
    · rfl
theorem soft_bendP.is (x : List Int) (y : Int) (off : List Int) (f : Int) (hx : V64 x) (ho : V64 off) (hl : off.length ≤ 4096) : soft_bendP.f (off.length + 1) x y off f = some (bendRows x f off) := by
  unfold soft_bendP.f
  have := soft_bendP.loop x y f off hx ho hl off.length 0 [] (by omega) (by simp)
  rw [show ((0 : Nat) : Int) = 0 from rfl, List.drop_zero, List.nil_append] at this
  rw [this]
  by_cases c : (bendRows x f off).2 = 0
  · rw [if_pos c, ← c]
  · rw [if_neg c, ← bendRows_err c]
theorem soft_bend.calls (A0_0 : Option Addr) (c0_0 : Nat) (l0_0 : List Int) (a0_1 : Int) (A1 : Option Addr) (c1 : Nat) (l1 : List Int) (a2 : Int) (r1 : List Int) (r2 : Int) (w : World) (hr0_0 : Kd.C (Kd.int .i64) w A0_0 l0_0.length l0_0) (hc0_0 : l0_0.length ≤ c0_0) (hr1 : Kd.C (Kd.int .i64) w A1 l1.length l1) (hc1 : l1.length ≤ c1) (h : soft_bend.f l0_0 a0_1 l1 a2 = some (r1, r2)) :
    Calls Try.prog 24 #[.agg #[.slice A0_0 l0_0.length c0_0, .int .i64 a0_1], .slice A1 l1.length c1, .int .i64 a2] w fun e w' => ∃ v0_ : Value, e = .returned (.tuple #[v0_, .int .i64 r2]) ∧ Kd.R (Kd.int .i64) 2 w' w.heap.size (fun _ => True) v0_ r1 ∧ Below w.heap.size w w' := by
  unfold soft_bend.f at h
  split at h
  case isFalse => cases h
  rename_i hv
  exact soft_bendP.calls (l1.length + 1) A0_0 c0_0 l0_0 a0_1 A1 c1 l1 a2 r1 r2 w hr0_0 hc0_0 hr1 hc1 ((soft_bendP.is l0_0 a0_1 l1 a2 hv.1 hv.2.1 hv.2.2).trans h)


-- NOT PRINTED: function 85 (vec_Add_1)

/-! ### vec_Add: function 70 -/
set_option maxHeartbeats 2000000 in
set_option maxRecDepth 100000 in
theorem vec_Add_1.calls (b1 b2 : Nat) (A0 : Option Addr) (c0 : Nat) (l0 : List Int) (A1 : Option Addr) (c1 : Nat) (l1 : List Int) (i : Nat) (W : World) (x e : Int)
    (hb1 : W.cell? ⟨b1, 0, none⟩ = some (.slice A0 l0.length c0)) (hb2 : W.cell? ⟨b2, 0, none⟩ = some (.slice A1 l1.length c1))
    (hr0 : Kd.C (Kd.int .i64) W A0 l0.length l0) (hr1 : Kd.C (Kd.int .i64) W A1 l1.length l1) (h0 : i < l0.length) (h1 : i < l1.length)
    (h : fix_Add.f (rd l0 i) (rd l1 i) = some (x, e)) :
    Calls Try.prog 85 #[.int .i64 i, .pointer (some ⟨b1, 0, none⟩), .pointer (some ⟨b2, 0, none⟩)] W fun ed W' => ed = .returned (.tuple #[.int .i64 x, .int .i64 e]) ∧ Drawn0 W W' := by
 obtain ⟨ad0, rfl, hc0⟩ := Kd.at_int hr0 (i : Int) (by omega) (by omega)
 obtain ⟨ad1, rfl, hc1⟩ := Kd.at_int hr1 (i : Int) (by omega) (by omega)
 simp only [Int.toNat_natCast] at hc0 hc1
 have HC := ZM h
 clear hr0 hr1 h
 go_enter Try.func85, Try.ntmps85
 go_wp2
 go_quiet ((go_at_call 56; (with_reducible refine (fix_Add.calls (rd l0 i) (rd l1 i) x e _ HC.out).mono ?_); rintro ed W2 ⟨rfl, ⟨nd, rfl⟩⟩; (try first | exact ⟨rfl, _, wwN _ _ _⟩ | exact ⟨rfl, _, ww3 _ _ _ _⟩ | exact ⟨rfl, _, rfl⟩)))
 go_wp2
 go_ret2
 exact ⟨rfl, ⟨_, rfl⟩⟩
def vec_Add.f (l0 l1 : List Int) : Option (List Int × Int) := if V64 l0 ∧ V64 l1 then some (addV l0 l1) else none
theorem vec_Add.of (l0 l1 : List Int)  (h_ : V64 l0 ∧ V64 l1) : vec_Add.f l0 l1 = some (addV l0 l1) := if_pos h_
set_option maxHeartbeats 2000000 in
set_option maxRecDepth 100000 in
theorem vec_Add.calls (A0 : Option Addr) (c0 : Nat) (l0 : List Int) (A1 : Option Addr) (c1 : Nat) (l1 : List Int) (r1 : List Int) (r2 : Int) (w : World) (hr0 : Kd.C (Kd.int .i64) w A0 l0.length l0) (hc0 : l0.length ≤ c0) (hr1 : Kd.C (Kd.int .i64) w A1 l1.length l1) (hc1 : l1.length ≤ c1) (h : vec_Add.f l0 l1 = some (r1, r2)) :
    Calls Try.prog 70 #[.slice A0 l0.length c0, .slice A1 l1.length c1] w fun e w' => ∃ v0_ : Value, e = .returned (.tuple #[v0_, .int .i64 r2]) ∧ Kd.R (Kd.int .i64) 2 w' w.heap.size (fun _ => True) v0_ r1 ∧ Below w.heap.size w w' := by
 unfold vec_Add.f at h
 split at h
 case isFalse => cases h
 rename_i hv
 have h := Option.some.inj h
 unfold addV at h
 have HR0 := ZM hr0
 have HC0 := ZM hc0
 have HR1 := ZM hr1
 have HC1 := ZM hc1
 clear hr0 hc0 hr1 hc1
 have HV := ZM hv
 clear hv
 try have hu22 := Try.underlying22
 have HP0 : Aside0 (vec_pair.f l0 l1 = some (pairE l0 l1)) := ⟨rfl⟩
 by_cases hp0 : pairE l0 l1 = 0
 · rw [if_pos hp0] at h
   rw [hp0] at HP0
   have HL : Aside0 (l0.length = l1.length) := ⟨pairE_len hp0⟩
   have HN : Aside0 (l0.length ≤ 4096) := ⟨pairE_le hp0⟩
   have HH := ZM h
   clear h hp0
   have HX0 : Aside0 (((w.alloc (Obj.cells #[Value.slice A0 l0.length c0] 22)).alloc (Obj.cells #[Value.slice A1 l1.length c1] 22)).cell? ⟨w.heap.size, 0, none⟩ = some (.slice A0 l0.length c0)) := ⟨by simp [go_sem]⟩
   have HX1 : Aside0 (((w.alloc (Obj.cells #[Value.slice A0 l0.length c0] 22)).alloc (Obj.cells #[Value.slice A1 l1.length c1] 22)).cell? ⟨w.heap.size + 1, 0, none⟩ = some (.slice A1 l1.length c1)) := ⟨by simp [go_sem]⟩
   have HB : Aside0 (Below w.heap.size w ((w.alloc (Obj.cells #[Value.slice A0 l0.length c0] 22)).alloc (Obj.cells #[Value.slice A1 l1.length c1] 22))) := ⟨zzA (zzA (Below.refl _ _) _) _⟩
   go_enter Try.func70, Try.ntmps70
   go_wp2_with (first | (go_at_call 77; (with_reducible refine (vec_pair.calls A0 c0 l0 A1 c1 l1 0 _ (Kd.C_below HR0.out HB.out) HC0.out (Kd.C_below HR1.out HB.out) HC1.out HP0.out).mono ?_); rintro ed W1 ⟨rfl, hd⟩; have hb := hd; clear hd; have HB := ZM (below_then HB.out HB.out.size hb); have HX0 := ZM (pw_cell_below hb HX0.out); have HX1 := ZM (pw_cell_below hb HX1.out); have hx0 := HX0.out; have hx1 := HX1.out; clear hb) | (go_at_call 67; (with_reducible refine (vec_each.calls 85 _ (fun i : Nat => fix_Add.f (rd l0 i) (rd l1 i)) l0.length (by have := HN.out; omega) _ r1 r2 ?ent ?tells ?go).mono ?_); (case ent => exact enters_of Try.func85 rfl rfl); (case tells => intro i W x e hi hb hg; refine (vec_Add_1.calls (w.heap.size) (w.heap.size + 1) A0 c0 l0 A1 c1 l1 i W x e (pw_cell_below hb HX0.out) (pw_cell_below hb HX1.out) (Kd.C_below (Kd.C_below HR0.out HB.out) hb) (Kd.C_below (Kd.C_below HR1.out HB.out) hb) (by have := HL.out; omega) (by have := HL.out; omega) hg).mono ?_; rintro ed W' ⟨rfl, hd⟩; exact ⟨rfl, hd.below⟩); (case go => exact (each_spec (ps := List.zipWith (fun x y => res (x + y)) l0 l1) (by have := HL.out; rw [List.length_zipWith]; omega) (fun j h => by rw [zip_get _ _ HL.out j h]; exact fix_Add.of _ _ ⟨HV.out.1.rd _, HV.out.2.rd _⟩)).trans (congrArg some HH.out)); rintro ed W2 ⟨v_, rfl, hR, hb⟩; have HO := ZM (Kd.R_lower hR HB.out.size); have HB2 := ZM (below_then HB.out HB.out.size hb); clear hR hb))
   go_ret2
   exact ⟨_, rfl, HO.out, HB2.out⟩
 · rw [if_neg hp0] at h
   cases h
   have HX0 : Aside0 (((w.alloc (Obj.cells #[Value.slice A0 l0.length c0] 22)).alloc (Obj.cells #[Value.slice A1 l1.length c1] 22)).cell? ⟨w.heap.size, 0, none⟩ = some (.slice A0 l0.length c0)) := ⟨by simp [go_sem]⟩
   have HX1 : Aside0 (((w.alloc (Obj.cells #[Value.slice A0 l0.length c0] 22)).alloc (Obj.cells #[Value.slice A1 l1.length c1] 22)).cell? ⟨w.heap.size + 1, 0, none⟩ = some (.slice A1 l1.length c1)) := ⟨by simp [go_sem]⟩
   have HB : Aside0 (Below w.heap.size w ((w.alloc (Obj.cells #[Value.slice A0 l0.length c0] 22)).alloc (Obj.cells #[Value.slice A1 l1.length c1] 22))) := ⟨zzA (zzA (Below.refl _ _) _) _⟩
   have he0 : (pairE l0 l1 == 0) = false := beq_eq_false_iff_ne.2 hp0
   have he1 : (pairE l0 l1 != 0) = true := bne_iff_ne.2 hp0
   obtain ⟨e_, hE⟩ : ∃ e_ : Int, pairE l0 l1 = e_ := ⟨_, rfl⟩
   rw [hE] at HP0 he0 he1
   simp only [hE]
   clear hE hp0
   go_enter Try.func70, Try.ntmps70
   go_wp2_with (first | (go_at_call 77; (with_reducible refine (vec_pair.calls A0 c0 l0 A1 c1 l1 e_ _ (Kd.C_below HR0.out HB.out) HC0.out (Kd.C_below HR1.out HB.out) HC1.out HP0.out).mono ?_); rintro ed W1 ⟨rfl, hd⟩; have hb := hd; clear hd; have HB := ZM (below_then HB.out HB.out.size hb); have HX0 := ZM (pw_cell_below hb HX0.out); have HX1 := ZM (pw_cell_below hb HX1.out); have hx0 := HX0.out; have hx1 := HX1.out; clear hb))
   go_ret2
   exact ⟨_, rfl, Kd.R_nil _ _ _ _ _, HB.out⟩
end Go.Proofs.Ytgilbdpbfmpcpaa.HS
