/- What Go functions do, each as a plain Lean function with the same answers, and the proof of it, in every world: printed by the session's driver over the kit's print, with texts by hand. -/
import Derived.Test.YtihgcjagokippaaHSx0
import Derived.Test.YtihgcjagokippaaHSx1
import Derived.Test.YtihgcjagokippaaHSx2
import Derived.Test.YtihgcjagokippaaHSx5
import Derived.Test.YtihgcjagokippaaMini
namespace Go.Proofs.Ytihgcjagokippaa.HS
open Go.RowKit Go.Proofs.YtihgcjagokippaaW.PrintWords Go.Proofs.YtihgcjagokippaaW.PrintLast Go.Proofs.YtihgcjagokippaaW.PrintMore
attribute [local go_sem] max2_int min2_int max_two min_two max_three min_three max_four min_four   -- for this text's walks alone
open Go.Proofs.Ytihgcjagokippaa.Sp
attribute [local go_sem] Go.Proofs.Ytihgcjagokippaa.Sp.u64_not
set_option linter.unusedVariables false
set_option linter.unusedSimpArgs false

/-! ### soft_OffP: function 10 -/
def soft_OffP.j0 : Nat → Int → List Int → Int → Bool → List Int → Int → Option (List Int × Int)
 | 0, _, _, _, _, _, _ => none
 | k + 1, x3, x10, x11, x33, x157000, x157001 => if x33 = true then (if 1 = 0 then (if 0 ≤ x157001 then (if x157001 < (x10.length : Int) then (if 0 ≤ x3 then (some ((x10.set (x157001 : Int).toNat (wrap64 ((rd x10 x157001) - (shl .i64 1 x3)))), 0)) else (none)) else (none)) else (none)) else (some (([] : List Int), 1))) else (if x11 = 0 then (if 0 ≤ x157001 then (if x157001 < (x10.length : Int) then (if 0 ≤ x3 then (some ((x10.set (x157001 : Int).toNat (wrap64 ((rd x10 x157001) - (shl .i64 1 x3)))), 0)) else (none)) else (none)) else (none)) else (some (([] : List Int), x11)))
def soft_OffP.f (k : Nat) (a0 : Int) (l1 : List Int) (l2_0 : List Int) (a2_1 : Int) (a3 : Int) : Option (List Int × Int) := (soft_Tell.f a0 l1 l2_0 a3).bind fun bt157 => (if bt157.2 = 0 then (if a2_1 < 0 then (soft_OffP.j0 k a3 bt157.1 bt157.2 true l2_0 a2_1) else (soft_OffP.j0 k a3 bt157.1 bt157.2 (decide (a2_1 ≥ a0)) l2_0 a2_1)) else (soft_OffP.j0 k a3 bt157.1 bt157.2 false l2_0 a2_1))
theorem soft_OffP.mono_l : ∀ k, (∀ y0 y1 y2 y3 y4 y5, LeO (soft_OffP.j0 k y0 y1 y2 y3 y4 y5) (soft_OffP.j0 (k + 1) y0 y1 y2 y3 y4 y5))
 | 0 => fun _ _ _ _ _ _ r h => by simp [soft_OffP.j0] at h
 | k + 1 => by
  have ih0 := soft_OffP.mono_l k
  ·
   intro y0 y1 y2 y3 y4 y5
   unfold soft_OffP.j0
   repeat' first
   | (with_reducible exact ih0 _ _ _ _ _ _)
   | (with_reducible exact LeO.refl _)
   | (with_reducible exact LeO.none _)
   | (with_reducible refine LeO.ite ?_ ?_)
   | (with_reducible refine LeO.bind ?_ (fun _ => ?_))
theorem soft_OffP.mono : ∀ a0 a1 a2 a3 a4 k, LeO (soft_OffP.f k a0 a1 a2 a3 a4) (soft_OffP.f (k + 1) a0 a1 a2 a3 a4) := by
 intro a0 a1 a2 a3 a4 k
 have ih0 := soft_OffP.mono_l k
 unfold soft_OffP.f
 repeat' first
   | (with_reducible exact ih0 _ _ _ _ _ _)
   | (with_reducible exact LeO.refl _)
   | (with_reducible exact LeO.none _)
   | (with_reducible refine LeO.ite ?_ ?_)
   | (with_reducible refine LeO.bind ?_ (fun _ => ?_))
def soft_OffP.T6 : Bool × List (List Nat × List Nat) := (true, [([], []), ([], []), ([1], [1]), ([0, 2], [0, 2]), ([3], [3]), ([], []), ([5], [5]), ([4, 6], [4, 6]), ([0, 2, 0, 1, 2, 3, 4, 5, 6, 7], [0, 2]), ([8, 7, 0, 1, 2, 3, 4, 5, 6, 7], [7, 8])])
def soft_OffP.B6 : List Nat := [0, 0, 2, 7, 15, 0, 32, 127, 255, 511]
theorem soft_OffP.tab6 : rtab .any (opsOf Try.f10 6) = soft_OffP.T6 := by kernel_rfl
theorem soft_OffP.bits6 : waitsOk soft_OffP.T6.2 soft_OffP.B6 = true := by kernel_rfl
set_option maxHeartbeats 8000000 in
set_option maxRecDepth 100000 in
theorem soft_OffP.calls (k : Nat) (a0 : Int) (A1 : Option Addr) (c1 : Nat) (l1 : List Int) (A2_0 : Option Addr) (c2_0 : Nat) (l2_0 : List Int) (a2_1 : Int) (a3 : Int) (r1 : List Int) (r2 : Int) (w : World) (hr1 : Kd.C (Kd.int .i64) w A1 l1.length l1) (hc1 : l1.length ≤ c1) (hr2_0 : Kd.C (Kd.int .i64) w A2_0 l2_0.length l2_0) (hc2_0 : l2_0.length ≤ c2_0) (h : soft_OffP.f k a0 l1 l2_0 a2_1 a3 = some (r1, r2)) :
  Calls Try.prog 10 #[.int .i64 a0, .slice A1 l1.length c1, .agg #[.slice A2_0 l2_0.length c2_0, .int .i64 a2_1], .int .i64 a3] w fun e w' => ∃ v0_ : Value, e = .returned (.tuple #[v0_, .int .i64 r2]) ∧ Kd.R (Kd.int .i64) 2 w' w.heap.size (fun _ => True) v0_ r1 ∧ Below w.heap.size w w' := by
 have hu24 := Try.underlying24
 have HR1 := ZM hr1
 have HC1 := ZM hc1
 clear hr1 hc1
 have HR2_0 := ZM hr2_0
 have HC2_0 := ZM hc2_0
 clear hr2_0 hc2_0
 have HB := ZM (Below.refl w.heap.size w)
 have H : ((soft_Tell.f a0 l1 l2_0 a3).bind fun bt157 => (if bt157.2 = 0 then (if a2_1 < 0 then (soft_OffP.j0 k a3 bt157.1 bt157.2 true l2_0 a2_1) else (soft_OffP.j0 k a3 bt157.1 bt157.2 (decide (a2_1 ≥ a0)) l2_0 a2_1)) else (soft_OffP.j0 k a3 bt157.1 bt157.2 false l2_0 a2_1))) = some (r1, r2) := h
 clear h
 replace H := Option.bind_eq_some_iff.mp H
 obtain ⟨⟨t157, t158⟩, A50, H⟩ := H
 replace H : (if t158 = 0 then (if a2_1 < 0 then (soft_OffP.j0 k a3 t157 t158 true l2_0 a2_1) else (soft_OffP.j0 k a3 t157 t158 (decide (a2_1 ≥ a0)) l2_0 a2_1)) else (soft_OffP.j0 k a3 t157 t158 false l2_0 a2_1)) = some (r1, r2) := H
 have A5 := ZM A50
 clear A50
 have HC6 := ZM H
 clear H
 go_enter Try.func10, Try.ntmps10
 go_upto_region 2 with (first | ((with_reducible refine gate_dst (N := 6) rfl ?_); refine box_event ?hg (N := 6) ?hd (cs := #[.slice A2_0 l2_0.length c2_0, .int .i64 a2_1]) (t := 24) ?hr ?_; (case hd => rfl); (case hg => rfl); (case hr => exact Z10); intro gb156 hg w7 hbox hb; have BK156 := ZM (hbox); have GW156 := ZM ((by rw [hg]; exact (zzS Z1) : w.heap.size ≤ gb156)); have GE156 := ZM ((by rw [hg]; exact (zzS Z1) : w.heap.size ≤ gb156)); replace HB := ZM (zzT Z1 hb); clear hb hbox hg; obtain ⟨hcz8_0, hcz8_1, hfz8_0, hfz8_1⟩ := Y2f BK156) | ((with_reducible refine gate_callee (f := 6) rfl ?_); refine goesL_ (some 18) rfl rfl Try.func6 (by kernel_rfl) rfl #[.int .i64 a0, .slice A1 l1.length c1, .slice A2_0 l2_0.length c2_0, .int .i64 a3] rfl Z2 ?_; (with_reducible refine (soft_Tell.calls a0 _ _ l1 _ _ l2_0 a3 t157 t158 _ ?side1 ?side2 ?side3 ?side4 A5.out).mono ?_); (case side1 => exact Z22); (case side2 => exact HC1.out); (case side3 => exact Z28); (case side4 => exact HC2_0.out); rintro e w9 ⟨v159, rfl, ho0, hb⟩; refine ⟨_, rfl, ?_⟩; have HO160 := ZM (Kd.R_lower ho0 (zzS Z51)); replace BK156 := ZM (blk_below (g := gb156) (o := .cells #[.slice A2_0 l2_0.length c2_0, .int .i64 a2_1] 24 (0, 0)) (Zk BK156) hb); replace HB := ZM (zzT Z51 hb); (try clear hb); (try clear hb2); (try clear hk); (try clear hi); (try clear ho0)))
 (try simp only [Act.put, Zt])
 go_cut [33] (fun v33 wc => ∃ (kq : Nat) (x33_5 : Bool), v33 = .bool x33_5 ∧ Aside0 (soft_OffP.j0 kq a3 t157 t158 x33_5 l2_0 a2_1 = some (r1, r2)) ∧ Aside0 (kq ≤ k) ∧ Aside0 (Kd.R (Kd.int .i64) 2 wc w.heap.size (fun _ => True) v159 t157) ∧ Aside0 (wc.heap[gb156]? = some (.cells #[(.slice A2_0 l2_0.length c2_0), .int .i64 a2_1] 24 (0, 0))) ∧ Aside0 (Below w.heap.size w wc))
 case first =>
  have H := HC6.out
  clear HC6
  by_cases c10 : t158 = 0
  case neg =>
   rw [if_neg c10] at H
   have c10b0 : (t158 == 0) = false := beq_eq_false_iff_ne.mpr c10
   have c10b1 : (t158 != 0) = true := bne_iff_ne.mpr c10
   (first | rw [c10b0] | (simp only [i64_w, i32_w]; rw [c10b0]) | skip)
   have H' := ZM H
   clear H
   go_wp2
   go_meet
   case rel => exact ⟨_, (false), Z5, H', ⟨by first | omega | exact Nat.le_refl _⟩, ⟨by (with_reducible repeat (first | apply rrA | apply rrN | apply rrD)); exact HO160.out⟩, ⟨by (with_reducible repeat (first | refine kkN ?_ _ | refine kkD ?_ | refine kkA ?_ _)); exact BK156.out⟩, ⟨by repeat (first | (with_reducible first | exact HB.out | apply zzA | apply zzN | apply zzD | refine below_set ?_ GE156.out) | exact HB.out)⟩⟩
  rw [if_pos c10] at H
  have c10b0 : (t158 == 0) = true := beq_iff_eq.mpr c10
  have c10b1 : (t158 != 0) = false := bne_eq_false_iff_eq.mpr c10
  clear c10
  (first | rw [c10b0] | (simp only [i64_w, i32_w]; rw [c10b0]) | skip)
  by_cases c11 : a2_1 < 0
  case neg =>
   rw [if_neg c11] at H
   have c11b0 : decide (a2_1 < 0) = false := decide_eq_false c11
   clear c11
   have H' := ZM H
   clear H
   obtain ⟨hcz13_0, hcz13_1, hfz13_0, hfz13_1⟩ := Y2f BK156
   go_wp2
   go_meet
   case rel => exact ⟨_, (decide (a2_1 ≥ a0)), Z5, H', ⟨by first | omega | exact Nat.le_refl _⟩, ⟨by (with_reducible repeat (first | apply rrA | apply rrN | apply rrD)); exact HO160.out⟩, ⟨by (with_reducible repeat (first | refine kkN ?_ _ | refine kkD ?_ | refine kkA ?_ _)); exact BK156.out⟩, ⟨by repeat (first | (with_reducible first | exact HB.out | apply zzA | apply zzN | apply zzD | refine below_set ?_ GE156.out) | exact HB.out)⟩⟩
  rw [if_pos c11] at H
  have c11b0 : decide (a2_1 < 0) = true := decide_eq_true c11
  clear c11
  have H' := ZM H
  clear H
  obtain ⟨hcz12_0, hcz12_1, hfz12_0, hfz12_1⟩ := Y2f BK156
  go_wp2
  go_meet
  case rel => exact ⟨_, (true), Z5, H', ⟨by first | omega | exact Nat.le_refl _⟩, ⟨by (with_reducible repeat (first | apply rrA | apply rrN | apply rrD)); exact HO160.out⟩, ⟨by (with_reducible repeat (first | refine kkN ?_ _ | refine kkD ?_ | refine kkA ?_ _)); exact BK156.out⟩, ⟨by repeat (first | (with_reducible first | exact HB.out | apply zzA | apply zzN | apply zzD | refine below_set ?_ GE156.out) | exact HB.out)⟩⟩
 clear HC6
 try clear c1
 try clear hcz8_0
 try clear hcz8_1
 try clear hfz8_0
 try clear hfz8_1
 obtain ⟨kq, x33_5, rfl, HA, HJ5, HO_10, BK156, HB⟩ := hcut
 cases kq with
 | zero => exact absurd HA.out (by simp [soft_OffP.j0])
 | succ kj5 =>
  have H := HA.out
  clear HA
  simp only [soft_OffP.j0] at H
  by_cases c14 : x33_5 = true
  ·
   subst c14
   have H1 : (if 1 = 0 then (if 0 ≤ a2_1 then (if a2_1 < (t157.length : Int) then (if 0 ≤ a3 then (some ((t157.set (a2_1 : Int).toNat (wrap64 ((rd t157 a2_1) - (shl .i64 1 a3)))), 0)) else (none)) else (none)) else (none)) else (some (([] : List Int), 1))) = some (r1, r2) := by rw [if_pos rfl] at H; exact H
   clear H
   have H := H1
   clear H1
   by_cases c15 : 1 = 0
   ·
    exact absurd c15 (by decide)
   rw [if_neg c15] at H
   have c15b0 : (1 == 0) = false := beq_eq_false_iff_ne.mpr c15
   have c15b1 : (1 != 0) = true := bne_iff_ne.mpr c15
   simp only [Option.some.injEq, Prod.mk.injEq] at H
   obtain ⟨rfl, rfl⟩ := H
   go_wp2
   go_ret2
   exact ⟨_, by first | rfl | (simp [errW_none, errW_some] <;> rfl) | (simp [*, errW_none, errW_some] <;> rfl), by first | exact Kd.R_nil _ _ _ _ _ | exact Kd.N_nil _ _ _ _ _ | exact Kd.V_nil _ _ _ _ _ | exact Kd.Q_nil _ _ _ _ _ | exact Kd.S_nil _ _ _ _ _, by repeat (first | (with_reducible first | exact HB.out | apply zzA | apply zzN | apply zzD | refine below_set ?_ GE156.out) | exact HB.out)⟩
  replace c14 := Bool.eq_false_iff.mpr c14
  subst c14
  have H1 : (if t158 = 0 then (if 0 ≤ a2_1 then (if a2_1 < (t157.length : Int) then (if 0 ≤ a3 then (some ((t157.set (a2_1 : Int).toNat (wrap64 ((rd t157 a2_1) - (shl .i64 1 a3)))), 0)) else (none)) else (none)) else (none)) else (some (([] : List Int), t158))) = some (r1, r2) := by rw [if_neg (show ¬ (false = true) by decide)] at H; exact H
  clear H
  have H := H1
  clear H1
  by_cases c24 : t158 = 0
  case neg =>
   rw [if_neg c24] at H
   have c24b0 : (t158 == 0) = false := beq_eq_false_iff_ne.mpr c24
   have c24b1 : (t158 != 0) = true := bne_iff_ne.mpr c24
   simp only [Option.some.injEq, Prod.mk.injEq] at H
   obtain ⟨rfl, rfl⟩ := H
   go_wp2
   go_ret2
   exact ⟨_, by first | rfl | (simp [errW_none, errW_some] <;> rfl) | (simp [*, errW_none, errW_some] <;> rfl), by first | exact Kd.R_nil _ _ _ _ _ | exact Kd.N_nil _ _ _ _ _ | exact Kd.V_nil _ _ _ _ _ | exact Kd.Q_nil _ _ _ _ _ | exact Kd.S_nil _ _ _ _ _, by repeat (first | (with_reducible first | exact HB.out | apply zzA | apply zzN | apply zzD | refine below_set ?_ GE156.out) | exact HB.out)⟩
  rw [if_pos c24] at H
  have c24b0 : (t158 == 0) = true := beq_iff_eq.mpr c24
  have c24b1 : (t158 != 0) = false := bne_eq_false_iff_eq.mpr c24
  clear c24
  by_cases c25 : 0 ≤ a2_1
  case neg =>
   rw [if_neg c25] at H
   exact absurd H (by simp)
  rw [if_pos c25] at H
  have c25b0 : decide (0 ≤ a2_1) = true := decide_eq_true c25
  clear c25
  by_cases c26 : a2_1 < (t157.length : Int)
  case neg =>
   rw [if_neg c26] at H
   exact absurd H (by simp)
  rw [if_pos c26] at H
  have c26b0 : decide (a2_1 < (t157.length : Int)) = true := decide_eq_true c26
  clear c26
  by_cases c27 : 0 ≤ a3
  case neg =>
   rw [if_neg c27] at H
   exact absurd H (by simp)
  rw [if_pos c27] at H
  have c27b0 := eq_true c27
  have c27b1 : decide (0 ≤ a3) = true := decide_eq_true c27
  clear c27
  obtain ⟨ji28, hji28⟩ : ∃ j_ : Int, (shl .i64 1 a3) = j_ := ⟨_, rfl⟩
  replace H : (some ((t157.set (a2_1 : Int).toNat (wrap64 ((rd t157 a2_1) - (ji28)))), 0)) = some (r1, r2) := by first | (rw [hji28] at H; exact H) | (simp only [hji28] at H ⊢; exact H)
  have hji28_ : (IntKind.i64.wrap (1 * 2 ^ min a3.toNat 64)) = ji28 := hji28
  have hji28z : a3 ≤ 64 → (IntKind.i64.wrap (1 * 2 ^ a3.toNat)) = ji28 := shl_small hji28
  have hji28u : (IntKind.i64.wrap (2 ^ min a3.toNat 64)) = ji28 := by have h_ := hji28_; rw [Int.one_mul] at h_; exact h_
  have hji28v : a3 ≤ 64 → (IntKind.i64.wrap (2 ^ a3.toNat)) = ji28 := fun hle_ => by have h_ := hji28z hle_; rw [Int.one_mul] at h_; exact h_
  have hji28y : (wrap64 (1 * 2 ^ min a3.toNat 64)) = ji28 := (i64_w _).symm.trans hji28_
  have hji28x : a3 ≤ 64 → (wrap64 (1 * 2 ^ a3.toNat)) = ji28 := fun h_ => (i64_w _).symm.trans (hji28z h_)
  obtain ⟨y164, hy164⟩ : ∃ y_ : List Int, y_ = (t157.set (a2_1 : Int).toNat (wrap64 ((rd t157 a2_1) - (ji28)))) := ⟨_, rfl⟩
  replace H : (some (y164, 0)) = some (r1, r2) := by first | (rw [hy164]; with_reducible exact H) | (have H2_ := (Option.bind_some _ _).symm.trans H; rw [hy164]; with_reducible exact H2_) | (have H2_ := (Option.bind_some _ _).symm.trans H; with_reducible exact H2_) | with_reducible exact H | (rw [hy164]; exact H) | exact H
  have Ny164 := ZM hy164
  clear hy164
  simp only [Option.some.injEq, Prod.mk.injEq] at H
  obtain ⟨rfl, rfl⟩ := H
  try go_wp2
  have n0_ := ZM (rrD HO_10.out)
  have n1_ := ZM (kkD BK156.out)
  have n2_ := ZM (zzD HB.out)
  clear HO_10
  clear BK156
  clear HB
  have HO_10 := n0_
  have BK156 := n1_
  have HB := n2_
  clear n0_ n1_ n2_
  obtain ⟨Ao31, co31, eo31⟩ := Kd.R_slice HO_10.out
  (first | subst eo31 | (injection eo31 with f1_ f2_ f3_; have f4_ := f1_.symm; have f5_ := f3_.symm; clear f1_ f2_ f3_; subst f4_; subst f5_))
  have p163 : 0 ≤ (a2_1 : Int) := of_decide_eq_true Z3
  have q163 : a2_1 < (t157.length : Int) := of_decide_eq_true Z3
  obtain ⟨ad163, e163, hx163_0⟩ := Kd.at_int (Kd.R_reads' HO_10.out).2.2 a2_1 p163 q163
  cases e163
  replace p163 := eq_true p163
  replace q163 := eq_true q163
  have p29 : 0 ≤ (a2_1 : Int) := of_decide_eq_true Z3
  have q29 : (a2_1 : Int) < ((t157.length : Int) : Int) := of_decide_eq_true Z3
  obtain ⟨go29, co29, eo29, gb29, gl29, cl29, HG29⟩ := Kd.R_form HO_10.out (by omega)
  (first | cases eo29 | (injection eo29 with ea_ en_ ec_; (first | subst ea_ | (injection ea_ with ea_; subst ea_)); subst ec_; clear en_))
  have GB29 := ZM gb29
  have GG29 := ZM HG29
  clear gb29 gl29 HG29
  (first | simp only [add_plain] at hx163_0 | skip)
  obtain ⟨hx29_0, hf29_0⟩ := Kd.R_celln 0 HO_10.out (a2_1 : Int) p29 q29
  replace p29 := eq_true p29
  replace q29 := eq_true q29
  have HP32 := Kd.R_putn HO_10.out (a2_1 : Int) (wrap64 ((rd t157 a2_1) - (ji28)))
  rw [← Ny164.out] at HP32
  have HQ32 := ZM HP32
  clear HP32
  refine start_ (n := 10) (S := fun w' => w'.cell? ⟨gb156, 0, none⟩ = some (.slice A2_0 l2_0.length c2_0) ∧ w'.cell? ⟨gb156, 1, none⟩ = some (.int .i64 a2_1) ∧ w'.cell? ⟨go29, (a2_1).toNat, none⟩ = some (.int .i64 (rd t157 a2_1))) (ds := [9]) #[false, false, false, false, false, false, false, false, false, false] (by kernel_rfl) rfl rfl ⟨(blk_cell BK156.out 0).trans rfl, (blk_cell BK156.out 1).trans rfl, hx163_0⟩ (fun hHeld => ?_); refine with_tabW soft_OffP.tab6 soft_OffP.bits6 (fun HT_ HW_ => ?_)
  generalize wc.drew = w30 at HO_10 BK156 HB GG29 HQ32 hf29_0 hx163_0 hx29_0 hHeld ⊢
  refine pure_ (i := 0) (N := some 37) (v := ?_) (a' := ?_) #[true, false, false, false, false, false, false, false, false, false] rfl rfl (any_of HT_.out (by kernel_rfl)) (fun _ _ _ h => h) (Or.inl ⟨by rfl, ?_⟩) ?_ ?_
  rotate_left
  ·
   intro w'
   go_simp
   with_reducible rfl
  rotate_left
  ·
   simp only [Act.put, Zs]
   rfl
  refine pure_ (i := 1) (N := some 38) (v := ?_) (a' := ?_) #[true, true, false, false, false, false, false, false, false, false] rfl rfl (any_of HT_.out (by kernel_rfl)) (fun _ _ _ h => h) (Or.inl ⟨by rfl, ?_⟩) ?_ ?_
  rotate_left
  ·
   intro w'
   go_simp
   with_reducible rfl
  rotate_left
  ·
   simp only [Act.put, Zs]
   rfl
  refine pure_ (i := 5) (N := some 42) (v := ?_) (a' := ?_) #[true, true, false, false, false, true, false, false, false, false] rfl rfl (any_of HT_.out (by kernel_rfl)) (fun _ _ _ h => h) (Or.inl ⟨by rfl, ?_⟩) ?_ ?_
  rotate_left
  ·
   intro w'
   go_simp
   with_reducible rfl
  rotate_left
  ·
   simp only [Act.put, Zs]
   rfl
  refine pure_ (i := 6) (N := some 43) (v := ?_) (a' := ?_) #[true, true, false, false, false, true, true, false, false, false] rfl rfl (any_of HT_.out (by kernel_rfl)) (fun _ _ _ h => h) (Or.inl ⟨by rfl, ?_⟩) ?_ ?_
  rotate_left
  ·
   intro w'
   go_simp
   with_reducible rfl
  rotate_left
  ·
   simp only [Act.put, Zs]
   rfl
  refine take_ (i := 2) (N := some 39) (v := ?_) (a' := ?_) #[true, true, true, false, false, true, true, false, false, false] rfl rfl (take_ofW HT_.out HW_.out (by kernel_rfl)) (fun _ _ _ h => h) (Or.inl ⟨by rfl, ?_⟩) hHeld ?_ ?_
  rotate_left
  ·
   rintro w' ⟨s0, s1, s2⟩
   go_simp
   with_reducible rfl
  rotate_left
  ·
   simp only [Act.put, Zs]
   rfl
  refine pure_ (i := 3) (N := some 40) (v := ?_) (a' := ?_) #[true, true, true, true, false, true, true, false, false, false] rfl rfl (any_of HT_.out (by kernel_rfl)) (fun _ _ _ h => h) (Or.inl ⟨by rfl, ?_⟩) ?_ ?_
  rotate_left
  ·
   intro w'
   go_simp
   with_reducible rfl
  rotate_left
  ·
   simp only [Act.put, Zs]
   rfl
  refine take_ (i := 4) (N := some 41) (v := ?_) (a' := ?_) #[true, true, true, true, true, true, true, false, false, false] rfl rfl (take_ofW HT_.out HW_.out (by kernel_rfl)) (fun _ _ _ h => h) (Or.inl ⟨by rfl, ?_⟩) hHeld ?_ ?_
  rotate_left
  ·
   rintro w' ⟨s0, s1, s2⟩
   go_simp
   with_reducible rfl
  rotate_left
  ·
   simp only [Act.put, Zs]
   rfl
  refine pure_ (i := 7) (N := some 44) (v := ?_) (a' := ?_) #[true, true, true, true, true, true, true, true, false, false] rfl rfl (any_of HT_.out (by kernel_rfl)) (fun _ _ _ h => h) (Or.inl ⟨by rfl, ?_⟩) ?_ ?_
  rotate_left
  ·
   intro w'
   go_simp
   with_reducible rfl
  rotate_left
  ·
   simp only [Act.put, Zs]
   rfl
  refine pure_ (i := 8) (N := some 45) (v := ?_) (a' := ?_) #[true, true, true, true, true, true, true, true, true, false] rfl rfl (any_of HT_.out (by kernel_rfl)) (fun _ _ _ h => h) (Or.inl ⟨by rfl, ?_⟩) ?_ ?_
  rotate_left
  ·
   intro w'
   go_simp
   with_reducible rfl
  rotate_left
  ·
   simp only [Act.put, Zs]
   rfl
  refine last_ (i := 9) (N := none) #[true, true, true, true, true, true, true, true, true, true] rfl rfl (one_of HT_.out (by kernel_rfl)) (by decide) (fun K hK => ?_)
  refine skip_ (w1 := ?_) (by rfl) rfl ?_ ?_
  rotate_left
  ·
   go_simp
   rfl
  refine hK.out _ _ ?_
  clear hK K
  refine done_ (done_of HT_.out (by kernel_rfl)) ?_
  try go_wp2
  go_ret2
  exact ⟨_, by first | rfl | (simp [errW_none, errW_some] <;> rfl) | (simp only [← hji28]; first | rfl | (simp [errW_none, errW_some] <;> rfl)) | (simp [*, errW_none, errW_some] <;> rfl), by (with_reducible repeat (first | apply rrA | apply rrN | apply rrD)); exact HQ32.out, by repeat (first | (with_reducible first | exact HB.out | apply zzA | apply zzN | apply zzD | refine below_set ?_ GB29.out | refine below_set ?_ GE156.out) | exact HB.out)⟩
def soft_Off.f (a0 : Int) (l1 l2_0 : List Int) (a2_1 a3 : Int) : Option (List Int × Int) := if V64 l1 ∧ V64 l2_0 then some (offS a0 l1 l2_0 a2_1 a3) else none
theorem soft_Off.of (a0 : Int) (l1 l2_0 : List Int) (a2_1 a3 : Int)  (h_ : V64 l1 ∧ V64 l2_0) : soft_Off.f a0 l1 l2_0 a2_1 a3 = some (offS a0 l1 l2_0 a2_1 a3) := if_pos h_
theorem soft_OffP.is (o : Int) (w x : List Int) (y f : Int) (hw : V64 w) (hx : V64 x) : soft_OffP.f 1 o w x y f = some (offS o w x y f) := by
  unfold soft_OffP.f offS
  rw [soft_Tell.of _ _ _ _ ⟨hw, hx⟩, Option.bind_some]
  by_cases c : (tellS o w x f).2 = 0
  · rw [if_pos c, if_pos c]
    obtain ⟨-, -, -, hl, ho2, ho8, hf0, hf1⟩ := tellS_ok c
    by_cases c1 : y < 0
    · rw [if_pos c1, soft_OffP.j0, if_pos rfl, if_neg (by decide), if_pos (.inl c1)]
    · rw [if_neg c1, soft_OffP.j0]
      by_cases c2 : y ≥ o
      · rw [if_pos (decide_eq_true c2), if_neg (by decide), if_pos (.inr c2)]
      · rw [if_neg (by simpa using c2), if_pos c, if_pos (by omega), if_pos (by omega), if_pos hf0, if_neg (show ¬ (y < 0 ∨ y ≥ o) by omega), shl_i64 f (by omega)]
  · rw [if_neg c, if_neg c, soft_OffP.j0, if_neg (by decide), if_neg c]
theorem soft_Off.calls (a0 : Int) (A1 : Option Addr) (c1 : Nat) (l1 : List Int) (A2_0 : Option Addr) (c2_0 : Nat) (l2_0 : List Int) (a2_1 : Int) (a3 : Int) (r1 : List Int) (r2 : Int) (w : World) (hr1 : Kd.C (Kd.int .i64) w A1 l1.length l1) (hc1 : l1.length ≤ c1) (hr2_0 : Kd.C (Kd.int .i64) w A2_0 l2_0.length l2_0) (hc2_0 : l2_0.length ≤ c2_0) (h : soft_Off.f a0 l1 l2_0 a2_1 a3 = some (r1, r2)) :
    Calls Try.prog 10 #[.int .i64 a0, .slice A1 l1.length c1, .agg #[.slice A2_0 l2_0.length c2_0, .int .i64 a2_1], .int .i64 a3] w fun e w' => ∃ v0_ : Value, e = .returned (.tuple #[v0_, .int .i64 r2]) ∧ Kd.R (Kd.int .i64) 2 w' w.heap.size (fun _ => True) v0_ r1 ∧ Below w.heap.size w w' := by
  unfold soft_Off.f at h
  split at h
  case isFalse => cases h
  rename_i hv
  exact soft_OffP.calls 1 a0 A1 c1 l1 A2_0 c2_0 l2_0 a2_1 a3 r1 r2 w hr1 hc1 hr2_0 hc2_0 ((soft_OffP.is a0 l1 l2_0 a2_1 a3 hv.1 hv.2).trans h)


/-! ### soft_Dim: function 14 -/
def soft_Dim.f (a0 : Int) (a1 : Int) : Option (Int × Int) := (linear_Dim.f a0).bind fun bt165 => (if bt165.2 = 0 then ((soft_classes.f a1).bind fun t167 => (if t167 = true then (some (wrap64 (bt165.1 * a1), 0)) else (some (0, 1)))) else (some (0, 1)))
set_option maxHeartbeats 8000000 in
set_option maxRecDepth 100000 in
theorem soft_Dim.calls (a0 : Int) (a1 : Int) (r1 : Int) (r2 : Int) (w : World) (h : soft_Dim.f a0 a1 = some (r1, r2)) :
  Calls Try.prog 14 #[.int .i64 a0, .int .i64 a1] w fun e w' => e = .returned (.tuple #[.int .i64 r1, .int .i64 r2]) ∧ Drawn0 w w' := by
 have H : ((linear_Dim.f a0).bind fun bt165 => (if bt165.2 = 0 then ((soft_classes.f a1).bind fun t167 => (if t167 = true then (some (wrap64 (bt165.1 * a1), 0)) else (some (0, 1)))) else (some (0, 1)))) = some (r1, r2) := h
 clear h
 replace H := Option.bind_eq_some_iff.mp H
 obtain ⟨⟨t165, t166⟩, A30, H⟩ := H
 replace H : (if t166 = 0 then ((soft_classes.f a1).bind fun t167 => (if t167 = true then (some (wrap64 (t165 * a1), 0)) else (some (0, 1)))) else (some (0, 1))) = some (r1, r2) := H
 have A3 := ZM A30
 clear A30
 by_cases c4 : t166 = 0
 case neg =>
  rw [if_neg c4] at H
  have c4b0 : (t166 == 0) = false := beq_eq_false_iff_ne.mpr c4
  have c4b1 : (t166 != 0) = true := bne_iff_ne.mpr c4
  simp only [Option.some.injEq, Prod.mk.injEq] at H
  obtain ⟨rfl, rfl⟩ := H
  go_enter Try.func14, Try.ntmps14
  go_wp2_with (first | ((with_reducible refine gate_callee (f := 28) rfl ?_); refine goesL_ (some 10) rfl rfl Try.func28 (by kernel_rfl) rfl #[.int .i64 a0] rfl Z2 ?_; (with_reducible refine (linear_Dim.calls a0 t165 t166 _ A3.out).mono ?_); rintro e w' ⟨rfl, ⟨nd, rfl⟩⟩; refine ⟨_, rfl, ?_⟩))
  go_ret2
  exact ⟨by first | rfl | (simp; done) | (simp [*]; done), by repeat (first | exact ddR _ | apply ddS)⟩
 rw [if_pos c4] at H
 have c4b0 : (t166 == 0) = true := beq_iff_eq.mpr c4
 have c4b1 : (t166 != 0) = false := bne_eq_false_iff_eq.mpr c4
 clear c4
 replace H := Option.bind_eq_some_iff.mp H
 obtain ⟨t167, A50, H⟩ := H
 replace H : (if t167 = true then (some (wrap64 (t165 * a1), 0)) else (some (0, 1))) = some (r1, r2) := H
 have A5 := ZM A50
 clear A50
 by_cases c6 : t167 = true
 ·
  subst c6
  have H1 : (some (wrap64 (t165 * a1), 0)) = some (r1, r2) := by rw [if_pos rfl] at H; exact H
  clear H
  have H := H1
  clear H1
  simp only [Option.some.injEq, Prod.mk.injEq] at H
  obtain ⟨rfl, rfl⟩ := H
  go_enter Try.func14, Try.ntmps14
  go_wp2_with (first | ((with_reducible refine gate_callee (f := 28) rfl ?_); refine goesL_ (some 10) rfl rfl Try.func28 (by kernel_rfl) rfl #[.int .i64 a0] rfl Z2 ?_; (with_reducible refine (linear_Dim.calls a0 t165 t166 _ A3.out).mono ?_); rintro e w' ⟨rfl, ⟨nd, rfl⟩⟩; refine ⟨_, rfl, ?_⟩) | (go_at_call 27; (with_reducible refine (soft_classes.calls a1 true _ A5.out).mono ?_); rintro e w' ⟨rfl, ⟨nd, rfl⟩⟩))
  go_ret2
  exact ⟨by first | rfl | (simp; done) | (simp [*]; done), by repeat (first | exact ddR _ | apply ddS)⟩
 replace c6 := Bool.eq_false_iff.mpr c6
 subst c6
 have H1 : (some (0, 1)) = some (r1, r2) := by rw [if_neg (show ¬ (false = true) by decide)] at H; exact H
 clear H
 have H := H1
 clear H1
 simp only [Option.some.injEq, Prod.mk.injEq] at H
 obtain ⟨rfl, rfl⟩ := H
 go_enter Try.func14, Try.ntmps14
 go_wp2_with (first | ((with_reducible refine gate_callee (f := 28) rfl ?_); refine goesL_ (some 10) rfl rfl Try.func28 (by kernel_rfl) rfl #[.int .i64 a0] rfl Z2 ?_; (with_reducible refine (linear_Dim.calls a0 t165 t166 _ A3.out).mono ?_); rintro e w' ⟨rfl, ⟨nd, rfl⟩⟩; refine ⟨_, rfl, ?_⟩) | (go_at_call 27; (with_reducible refine (soft_classes.calls a1 false _ A5.out).mono ?_); rintro e w' ⟨rfl, ⟨nd, rfl⟩⟩))
 go_ret2
 exact ⟨by first | rfl | (simp; done) | (simp [*]; done), by repeat (first | exact ddR _ | apply ddS)⟩
-- NOT PRINTED: function 49 (api_Sample_49)

-- NOT PRINTED: function 31 (api_Sample_31)

-- NOT PRINTED: function 32 (soft_Check_1)

-- NOT PRINTED: function 33 (soft_Check_2)

/-! ### soft_Check: function 18 -/
/-- The first one's place of which p is true, counted from k on, or -1. -/
def findFrom {α : Type} (p : α → Bool) : List α → Nat → Int
  | [], _ => -1
  | x :: l, k => if p x = true then (k : Int) else findFrom p l (k + 1)
theorem findFrom_any {α : Type} (p : α → Bool) : ∀ (l : List α) (k : Nat), decide (0 ≤ findFrom p l k) = l.any p
  | [], k => rfl
  | x :: l, k => by
    rw [findFrom, List.any_cons]
    by_cases c : p x = true
    · rw [if_pos c, c, Bool.true_or, decide_eq_true (by omega)]
    · rw [if_neg c, Bool.eq_false_iff.2 c, Bool.false_or]
      exact findFrom_any p l (k + 1)
set_option maxHeartbeats 4000000 in
set_option maxRecDepth 100000 in
theorem slices_IndexFuncS.calls (K : Nat) (caps : Array Value) (p : S24 → Bool) (A2 : Option Addr) (c2 : Nat) (l2 : List S24) (w : World)
    (hent : ∀ (args : Array Value) (w : World), (callFunc K args).run Try.prog w = .ok (.enter K args) w)
    (hr2 : Kd.C k24 w A2 l2.length l2) (hc2 : l2.length ≤ c2)
    (hK : ∀ W (x : S24) A c, Below w.heap.size w W → Kd.C (Kd.int .i64) W A x.f0.length x.f0 → x.f0.length ≤ c →
      Calls Try.prog K (#[.agg #[.slice A x.f0.length c, .int .i64 x.f1]] ++ caps) W fun ed W' => ed = .returned (.bool (p x)) ∧ Below W.heap.size W W') :
    Calls Try.prog 49 #[.slice A2 l2.length c2, .func (.func K) #[] caps] w fun e w' => e = .returned (.int .i64 (findFrom p l2 0)) ∧ Below w.heap.size w w' := by
 have hu := Try.underlying24
 have HR2 := ZM hr2
 have HC2 := ZM hc2
 have HK := ZM hK
 have hmx := Kd.C_max hr2
 have HM := ZM hmx
 have HB := ZM (Below.refl w.heap.size w)
 obtain ⟨res, hres⟩ : ∃ r, findFrom p l2 0 = r := ⟨_, rfl⟩
 rw [hres]
 have HG := ZM hres
 clear hr2 hc2 hK hmx hres
 go_enter Try.func49, Try.ntmps49
 go_wp2_with fail
 go_loopw [8] (fun vi W => ∃ (k : Nat), vi = .int .i64 k ∧ Aside0 (k ≤ l2.length) ∧ Aside0 (findFrom p (l2.drop k) k = res) ∧ Aside0 (Below w.heap.size w W)) (fun i _ => l2.length - (intOf i).toNat)
 case atStart => exact ⟨0, rfl, ⟨Nat.zero_le _⟩, ⟨by rw [List.drop_zero]; exact HG.out⟩, HB⟩
 case round =>
  obtain ⟨k, rfl, ⟨hk⟩, ⟨hgo⟩, HB⟩ := hrel
  clear HG
  by_cases hlt : k < l2.length
  · have hM := HM.out
    obtain ⟨ad, A, c, rfl, hx0, hx1, hl, hi⟩ := at_T24 HR2.out (k : Int) (by omega) (by omega)
    obtain ⟨x, hx⟩ : ∃ x, rd_T24 l2 (k : Int) = x := ⟨_, rfl⟩
    have hmem : l2[k] = x := (rd_sm hlt).symm.trans hx
    rw [hx] at hx0 hx1 hl hi
    simp only [Int.toNat_natCast] at hx0 hx1
    replace hx0 := (HB.out.cell (World.block_lt_of_cell? _ _ hx0)).trans hx0
    replace hx1 := (HB.out.cell (World.block_lt_of_cell? _ _ hx1)).trans hx1
    have HRX := ZM hi
    have HCX := ZM hl
    have HLT := ZM hlt
    rw [List.drop_eq_getElem_cons hlt, hmem, findFrom] at hgo
    clear hl hi hx hmem hk
    by_cases hp : p x = true
    · rw [if_pos hp] at hgo
      subst hgo
      go_wp2_with (go_at_fn K; refine (HK.out _ x A c HB.out (Kd.C_below HRX.out HB.out) HCX.out).mono ?_; rintro ed W3 ⟨rfl, hb3⟩; rw [hp]; have HB3 := ZM (below_then HB.out HB.out.size hb3); clear hb3)
      go_ret
      exact ⟨rfl, HB3.out⟩
    · rw [if_neg hp] at hgo
      have HG := ZM hgo
      have hpf : p x = false := Bool.eq_false_iff.2 hp
      clear hgo hp
      go_wp2_with (go_at_fn K; refine (HK.out _ x A c HB.out (Kd.C_below HRX.out HB.out) HCX.out).mono ?_; rintro ed W3 ⟨rfl, hb3⟩; rw [hpf]; have HB3 := ZM (below_then HB.out HB.out.size hb3); clear hb3)
      exact ⟨⟨k + 1, by first | rfl | (rw [wrap64_of (show I64 ((k : Int) + 1) by unfold I64; omega)]; rfl), ⟨HLT.out⟩, HG, HB3⟩, by have := HLT.out; have := HM.out; (try rw [wrap64_of (show I64 ((k : Int) + 1) by unfold I64; omega)]); simp [intOf]; omega⟩
  · have hkn : k = l2.length := by omega
    subst hkn
    rw [List.drop_length, findFrom] at hgo
    subst hgo
    clear hk
    go_wp2
    go_ret
    exact ⟨rfl, HB.out⟩
set_option maxHeartbeats 4000000 in
set_option maxRecDepth 100000 in
theorem slices_ContainsFuncS.calls (K : Nat) (caps : Array Value) (p : S24 → Bool) (A2 : Option Addr) (c2 : Nat) (l2 : List S24) (w : World)
    (hent : ∀ (args : Array Value) (w : World), (callFunc K args).run Try.prog w = .ok (.enter K args) w)
    (hr2 : Kd.C k24 w A2 l2.length l2) (hc2 : l2.length ≤ c2)
    (hK : ∀ W (x : S24) A c, Below w.heap.size w W → Kd.C (Kd.int .i64) W A x.f0.length x.f0 → x.f0.length ≤ c →
      Calls Try.prog K (#[.agg #[.slice A x.f0.length c, .int .i64 x.f1]] ++ caps) W fun ed W' => ed = .returned (.bool (p x)) ∧ Below W.heap.size W W') :
    Calls Try.prog 31 #[.slice A2 l2.length c2, .func (.func K) #[] caps] w fun e w' => e = .returned (.bool (l2.any p)) ∧ Below w.heap.size w w' := by
 rw [← findFrom_any p l2 0]
 have H := ZM (slices_IndexFuncS.calls K caps p A2 c2 l2 w hent hr2 hc2 hK)
 clear hr2 hc2 hK
 generalize findFrom p l2 0 = r at H
 go_enter Try.func31, Try.ntmps31
 go_wp2_with (go_at_call 49; (with_reducible refine H.out.mono ?_); rintro ed W3 ⟨rfl, hb3⟩)
 go_ret
 exact ⟨rfl, hb3⟩
set_option maxHeartbeats 4000000 in
set_option maxRecDepth 100000 in
theorem soft_Check_1.calls (b1 : Nat) (A : Option Addr) (c : Nat) (x : List Int) (y n : Int) (W : World) (hb : W.heap[b1]? = some (.cells #[.int .i64 n] 3 (0, 0))) :
    Calls Try.prog 32 (#[.agg #[.slice A x.length c, .int .i64 y]] ++ #[.pointer (some ⟨b1, 0, none⟩)]) W fun ed W' => ed = .returned (.bool ((x.length : Int) != n)) ∧ Below W.heap.size W W' := by
 have hu := Try.underlying24
 have hlt := blk_lt hb
 have hc : W.cell? ⟨b1, 0, none⟩ = some (.int .i64 n) := (blk_cell hb 0).trans rfl
 go_enter Try.func32, Try.ntmps32
 go_wp2
 go_ret
 exact ⟨rfl, zzA (Below.refl _ _) _⟩
set_option maxHeartbeats 4000000 in
set_option maxRecDepth 100000 in
theorem soft_Check_2.calls (b1 : Nat) (A : Option Addr) (c : Nat) (x : List Int) (y n : Int) (W : World) (hb : W.heap[b1]? = some (.cells #[.int .i64 n] 3 (0, 0))) :
    Calls Try.prog 33 (#[.agg #[.slice A x.length c, .int .i64 y]] ++ #[.pointer (some ⟨b1, 0, none⟩)]) W fun ed W' => ed = .returned (.bool (decide (y < 0 ∨ y ≥ n))) ∧ Below W.heap.size W W' := by
 have hu := Try.underlying24
 have hlt := blk_lt hb
 have hc : W.cell? ⟨b1, 0, none⟩ = some (.int .i64 n) := (blk_cell hb 0).trans rfl
 by_cases c1 : y < 0
 · rw [decide_eq_true (.inl c1 : y < 0 ∨ y ≥ n)]
   go_enter Try.func33, Try.ntmps33
   go_wp2
   go_ret
   exact ⟨rfl, zzA (Below.refl _ _) _⟩
 · by_cases c2 : y ≥ n
   · rw [decide_eq_true (.inr c2 : y < 0 ∨ y ≥ n)]
     go_enter Try.func33, Try.ntmps33
     go_wp2
     go_ret
     exact ⟨rfl, zzA (Below.refl _ _) _⟩
   · rw [decide_eq_false (show ¬ (y < 0 ∨ y ≥ n) from fun h => h.elim c1 c2)]
     go_enter Try.func33, Try.ntmps33
     go_wp2
     go_ret
     exact ⟨rfl, zzA (Below.refl _ _) _⟩
def soft_Check.f (a0 a1 : Int) (l2 : List Int) (l3 : List S24) : Option Int := some (checkS a0 a1 l2 (l3.map sm))
theorem dimS_bad {n out : Int} (h : (dimS n out).2 ≠ 0) : (dimS n out).2 = 1 := by
  unfold dimS at h ⊢
  split
  · rfl
  · rename_i c; rw [if_neg c] at h; exact absurd rfl h
theorem checkS_any (a0 a1 : Int) (l2 : List Int) (l3 : List S24) : checkS a0 a1 l2 (l3.map sm) =
    if (dimS a0 a1).2 ≠ 0 then 1 else if (l2.length : Int) ≠ (dimS a0 a1).1 ∨ (l3.any fun s => (s.f0.length : Int) != a0) = true then 4 else
    if l3.length = 0 ∨ l3.length > 64 ∨ (l3.any fun s => decide (s.f1 < 0 ∨ s.f1 ≥ a1)) = true then 1 else 0 := by
  unfold checkS
  have h1 : (¬ ∀ s ∈ l3.map sm, (s.1.length : Int) = a0) ↔ (l3.any fun s => (s.f0.length : Int) != a0) = true := by
    simp [List.any_eq_true, sm]
  have h2 : (¬ ∀ s ∈ l3.map sm, 0 ≤ s.2 ∧ s.2 < a1) ↔ (l3.any fun s => decide (s.f1 < 0 ∨ s.f1 ≥ a1)) = true := by
    simp only [List.any_eq_true, decide_eq_true_eq, List.mem_map, sm]
    constructor
    · intro h
      apply Classical.byContradiction
      intro hn
      refine h ?_
      rintro s ⟨t, ht, rfl⟩
      refine ⟨?_, ?_⟩
      · apply Classical.byContradiction; intro hc; exact hn ⟨t, ht, .inl (by simp only at hc; omega)⟩
      · apply Classical.byContradiction; intro hc; exact hn ⟨t, ht, .inr (by simp only at hc; omega)⟩
    · rintro ⟨t, ht, hc⟩ h
      have := h _ ⟨t, ht, rfl⟩
      simp only at this
      omega
  rw [List.length_map]
  simp only [h1, h2]
theorem soft_Dim.is (a0 a1 : Int) : soft_Dim.f a0 a1 = some (dimS a0 a1) := by
  unfold soft_Dim.f linear_Dim.f soft_classes.f dimS badOut
  by_cases c1 : a0 < 1
  · rw [if_pos c1, if_pos (show a0 < 1 ∨ a0 > 16 ∨ a1 < 2 ∨ a1 > 8 from .inl c1)]; rfl
  · rw [if_neg c1]
    by_cases c2 : a0 > 16
    · rw [if_pos c2, if_pos (show a0 < 1 ∨ a0 > 16 ∨ a1 < 2 ∨ a1 > 8 from .inr (.inl c2))]; rfl
    · rw [if_neg c2]
      rw [Option.bind_some, if_pos rfl]
      by_cases c3 : a1 > 1
      · rw [if_pos c3, Option.bind_some]
        by_cases c4 : a1 ≤ 8
        · rw [if_pos (decide_eq_true c4), if_neg (show ¬ (a0 < 1 ∨ a0 > 16 ∨ a1 < 2 ∨ a1 > 8) by omega)]
          have h1 : 0 ≤ (a0 + 1) * a1 := Int.mul_nonneg (by omega) (by omega)
          have h2 : (a0 + 1) * a1 ≤ 17 * 8 := Int.mul_le_mul (by omega) c4 (by omega) (by omega)
          simp only []
          rw [wrap64_of (x := a0 + 1) (by unfold I64; omega), wrap64_of (by unfold I64; omega)]
        · rw [if_neg (by simpa using c4), if_pos (show a0 < 1 ∨ a0 > 16 ∨ a1 < 2 ∨ a1 > 8 by omega)]
      · rw [if_neg c3, Option.bind_some, if_neg (by decide), if_pos (show a0 < 1 ∨ a0 > 16 ∨ a1 < 2 ∨ a1 > 8 by omega)]
set_option maxHeartbeats 8000000 in
set_option maxRecDepth 100000 in
theorem soft_Check.calls (a0 : Int) (a1 : Int) (A2 : Option Addr) (c2 : Nat) (l2 : List Int) (A3 : Option Addr) (c3 : Nat) (l3 : List (S24)) (r : Int) (w : World) (hr2 : Kd.C (Kd.int .i64) w A2 l2.length l2) (hc2 : l2.length ≤ c2) (hr3 : Kd.C k24 w A3 l3.length l3) (hc3 : l3.length ≤ c3) (h : soft_Check.f a0 a1 l2 l3 = some r) :
    Calls Try.prog 18 #[.int .i64 a0, .int .i64 a1, .slice A2 l2.length c2, .slice A3 l3.length c3] w fun e w' => e = .returned (.int .i64 r) ∧ Below w.heap.size w w' := by
 have hu := Try.underlying22
 have h := Option.some.inj h
 rw [checkS_any] at h
 have A0 := soft_Dim.is a0 a1
 have hd1 := @dimS_bad a0 a1
 generalize dimS a0 a1 = p at A0 h hd1
 obtain ⟨d, e⟩ := p
 simp only [] at h hd1
 have A0 := ZM A0
 have HR3 := ZM hr3
 have HC3 := ZM hc3
 have hB2 : Below w.heap.size w ((w.alloc (.cells #[.int .i64 a0] 3)).alloc (.cells #[.int .i64 a1] 3)) := zzA (zzA (Below.refl _ _) _) _
 have HB := ZM hB2
 have bI := ZM (Boxed.alloc (Boxed.new w 3 (.int .i64 a0)) (.cells #[.int .i64 a1] 3))
 have bO := Boxed.new (w.alloc (.cells #[.int .i64 a0] 3)) 3 (.int .i64 a1)
 rw [World.size_alloc] at bO
 have BO := ZM bO
 clear hr3 hc3 hB2 bO
 have hci := bI.out.cell
 have hco := BO.out.cell
 by_cases he : e = 0
 · rw [if_neg (not_not_intro he)] at h
   subst he
   clear hd1
   obtain ⟨q1, hq1⟩ : ∃ b, (l3.any fun s : S24 => (s.f0.length : Int) != a0) = b := ⟨_, rfl⟩
   obtain ⟨q2, hq2⟩ : ∃ b, (l3.any fun s : S24 => decide (s.f1 < 0 ∨ s.f1 ≥ a1)) = b := ⟨_, rfl⟩
   rw [hq1, hq2] at h
   have Q1 := ZM hq1
   have Q2 := ZM hq2
   clear hq1 hq2
   by_cases hl : (l2.length : Int) = d
   · have hl0 : ((l2.length : Int) != d) = false := bne_eq_false_iff_eq.2 hl
     cases q1 with
     | true =>
      rw [if_pos (.inr rfl)] at h
      subst h
      clear hl
      go_enter Try.func18, Try.ntmps18
      go_wp2_with (first | (go_at_call 14; (with_reducible refine (soft_Dim.calls a0 a1 _ _ _ A0.out).mono ?_); rintro ed W1 ⟨rfl, hdr⟩; have HB1 := ZM (below_then HB.out HB.out.size hdr.below); have bI1 := ZM (blk_below bI.out hdr.below); have bO1 := ZM (blk_below BO.out hdr.below); clear hdr) | (go_at_call 31; refine (slices_ContainsFuncS.calls 32 #[.pointer (some ⟨w.heap.size, 0, none⟩)] (fun s => (s.f0.length : Int) != a0) A3 c3 l3 W1 (enters_of Try.func32 (by kernel_rfl) rfl) (Kd.C_below HR3.out HB1.out) HC3.out (fun W x A c hb h0 h1 => soft_Check_1.calls w.heap.size A c x.f0 x.f1 a0 W (blk_below bI1.out hb))).mono ?_; rintro ed W2 ⟨rfl, hb⟩; rw [Q1.out]; have HB2 := ZM (below_then HB1.out HB1.out.size hb); have bO2 := ZM (blk_below bO1.out hb); clear hb))
      go_ret
      exact ⟨rfl, HB2.out⟩
     | false =>
      rw [if_neg (show ¬ ((l2.length : Int) ≠ d ∨ false = true) from fun h => h.elim (fun h => h hl) (fun h => by cases h))] at h
      clear hl
      by_cases z : l3.length = 0
      · rw [if_pos (.inl z)] at h
        subst h
        have z0 : ((l3.length : Int) == 0) = true := by rw [z]; rfl
        clear z
        go_enter Try.func18, Try.ntmps18
        go_wp2_with (first | (go_at_call 14; (with_reducible refine (soft_Dim.calls a0 a1 _ _ _ A0.out).mono ?_); rintro ed W1 ⟨rfl, hdr⟩; have HB1 := ZM (below_then HB.out HB.out.size hdr.below); have bI1 := ZM (blk_below bI.out hdr.below); have bO1 := ZM (blk_below BO.out hdr.below); clear hdr) | (go_at_call 31; refine (slices_ContainsFuncS.calls 32 #[.pointer (some ⟨w.heap.size, 0, none⟩)] (fun s => (s.f0.length : Int) != a0) A3 c3 l3 W1 (enters_of Try.func32 (by kernel_rfl) rfl) (Kd.C_below HR3.out HB1.out) HC3.out (fun W x A c hb h0 h1 => soft_Check_1.calls w.heap.size A c x.f0 x.f1 a0 W (blk_below bI1.out hb))).mono ?_; rintro ed W2 ⟨rfl, hb⟩; rw [Q1.out]; have HB2 := ZM (below_then HB1.out HB1.out.size hb); have bO2 := ZM (blk_below bO1.out hb); clear hb))
        go_ret
        exact ⟨rfl, HB2.out⟩
      · have z0 : ((l3.length : Int) == 0) = false := beq_eq_false_iff_ne.2 (by omega)
        by_cases z1 : l3.length > 64
        · rw [if_pos (.inr (.inl z1))] at h
          subst h
          have z2 : ((l3.length : Int) > 64) := by omega
          clear z z1
          go_enter Try.func18, Try.ntmps18
          go_wp2_with (first | (go_at_call 14; (with_reducible refine (soft_Dim.calls a0 a1 _ _ _ A0.out).mono ?_); rintro ed W1 ⟨rfl, hdr⟩; have HB1 := ZM (below_then HB.out HB.out.size hdr.below); have bI1 := ZM (blk_below bI.out hdr.below); have bO1 := ZM (blk_below BO.out hdr.below); clear hdr) | (go_at_call 31; refine (slices_ContainsFuncS.calls 32 #[.pointer (some ⟨w.heap.size, 0, none⟩)] (fun s => (s.f0.length : Int) != a0) A3 c3 l3 W1 (enters_of Try.func32 (by kernel_rfl) rfl) (Kd.C_below HR3.out HB1.out) HC3.out (fun W x A c hb h0 h1 => soft_Check_1.calls w.heap.size A c x.f0 x.f1 a0 W (blk_below bI1.out hb))).mono ?_; rintro ed W2 ⟨rfl, hb⟩; rw [Q1.out]; have HB2 := ZM (below_then HB1.out HB1.out.size hb); have bO2 := ZM (blk_below bO1.out hb); clear hb))
          go_ret
          exact ⟨rfl, HB2.out⟩
        · have z2 : ¬ ((l3.length : Int) > 64) := by omega
          cases q2 with
          | true =>
           rw [if_pos (.inr (.inr rfl))] at h
           subst h
           clear z z1
           go_enter Try.func18, Try.ntmps18
           go_wp2_with (first | (go_at_call 14; (with_reducible refine (soft_Dim.calls a0 a1 _ _ _ A0.out).mono ?_); rintro ed W1 ⟨rfl, hdr⟩; have HB1 := ZM (below_then HB.out HB.out.size hdr.below); have bI1 := ZM (blk_below bI.out hdr.below); have bO1 := ZM (blk_below BO.out hdr.below); clear hdr) | (go_at_call 31; refine (slices_ContainsFuncS.calls 32 #[.pointer (some ⟨w.heap.size, 0, none⟩)] (fun s => (s.f0.length : Int) != a0) A3 c3 l3 W1 (enters_of Try.func32 (by kernel_rfl) rfl) (Kd.C_below HR3.out HB1.out) HC3.out (fun W x A c hb h0 h1 => soft_Check_1.calls w.heap.size A c x.f0 x.f1 a0 W (blk_below bI1.out hb))).mono ?_; rintro ed W2 ⟨rfl, hb⟩; rw [Q1.out]; have HB2 := ZM (below_then HB1.out HB1.out.size hb); have bO2 := ZM (blk_below bO1.out hb); clear hb) | (go_at_call 31; refine (slices_ContainsFuncS.calls 33 #[.pointer (some ⟨w.heap.size + 1, 0, none⟩)] (fun s => decide (s.f1 < 0 ∨ s.f1 ≥ a1)) A3 c3 l3 W2 (enters_of Try.func33 (by kernel_rfl) rfl) (Kd.C_below HR3.out HB2.out) HC3.out (fun W x A c hb h0 h1 => soft_Check_2.calls (w.heap.size + 1) A c x.f0 x.f1 a1 W (blk_below bO2.out hb))).mono ?_; rintro ed W3 ⟨rfl, hb⟩; rw [Q2.out]; have HB3 := ZM (below_then HB2.out HB2.out.size hb); clear hb))
           go_ret
           exact ⟨rfl, HB3.out⟩
          | false =>
           rw [if_neg (show ¬ (l3.length = 0 ∨ l3.length > 64 ∨ false = true) from fun h => h.elim z (fun h => h.elim z1 (fun h => by cases h)))] at h
           subst h
           clear z z1
           go_enter Try.func18, Try.ntmps18
           go_wp2_with (first | (go_at_call 14; (with_reducible refine (soft_Dim.calls a0 a1 _ _ _ A0.out).mono ?_); rintro ed W1 ⟨rfl, hdr⟩; have HB1 := ZM (below_then HB.out HB.out.size hdr.below); have bI1 := ZM (blk_below bI.out hdr.below); have bO1 := ZM (blk_below BO.out hdr.below); clear hdr) | (go_at_call 31; refine (slices_ContainsFuncS.calls 32 #[.pointer (some ⟨w.heap.size, 0, none⟩)] (fun s => (s.f0.length : Int) != a0) A3 c3 l3 W1 (enters_of Try.func32 (by kernel_rfl) rfl) (Kd.C_below HR3.out HB1.out) HC3.out (fun W x A c hb h0 h1 => soft_Check_1.calls w.heap.size A c x.f0 x.f1 a0 W (blk_below bI1.out hb))).mono ?_; rintro ed W2 ⟨rfl, hb⟩; rw [Q1.out]; have HB2 := ZM (below_then HB1.out HB1.out.size hb); have bO2 := ZM (blk_below bO1.out hb); clear hb) | (go_at_call 31; refine (slices_ContainsFuncS.calls 33 #[.pointer (some ⟨w.heap.size + 1, 0, none⟩)] (fun s => decide (s.f1 < 0 ∨ s.f1 ≥ a1)) A3 c3 l3 W2 (enters_of Try.func33 (by kernel_rfl) rfl) (Kd.C_below HR3.out HB2.out) HC3.out (fun W x A c hb h0 h1 => soft_Check_2.calls (w.heap.size + 1) A c x.f0 x.f1 a1 W (blk_below bO2.out hb))).mono ?_; rintro ed W3 ⟨rfl, hb⟩; rw [Q2.out]; have HB3 := ZM (below_then HB2.out HB2.out.size hb); clear hb))
           go_ret
           exact ⟨rfl, HB3.out⟩
   · rw [if_pos (.inl hl)] at h
     subst h
     have hl0 : ((l2.length : Int) != d) = true := bne_iff_ne.2 hl
     clear hl
     go_enter Try.func18, Try.ntmps18
     go_wp2_with (first | (go_at_call 14; (with_reducible refine (soft_Dim.calls a0 a1 _ _ _ A0.out).mono ?_); rintro ed W1 ⟨rfl, hdr⟩; have HB1 := ZM (below_then HB.out HB.out.size hdr.below); have bI1 := ZM (blk_below bI.out hdr.below); have bO1 := ZM (blk_below BO.out hdr.below); clear hdr))
     go_ret
     exact ⟨rfl, HB1.out⟩
 · rw [if_pos he] at h
   have he1 := hd1 he
   subst he1
   subst h
   clear hd1 he
   go_enter Try.func18, Try.ntmps18
   go_wp2_with (first | (go_at_call 14; (with_reducible refine (soft_Dim.calls a0 a1 _ _ _ A0.out).mono ?_); rintro ed W1 ⟨rfl, hdr⟩; have HB1 := ZM (below_then HB.out HB.out.size hdr.below); have bI1 := ZM (blk_below bI.out hdr.below); have bO1 := ZM (blk_below BO.out hdr.below); clear hdr))
   go_ret
   exact ⟨rfl, HB1.out⟩
/-! ### soft_fitsP: function 34 -/
def soft_fitsP.f (a0 : Int) (l1 : List Int) (l2 : List (S24)) : Option (Int) := (soft_Rows.f a0 l1).bind fun bt169 => (if bt169.2 = 0 then (if 0 < (bt169.1.length : Int) then ((soft_Check.f (wrap64 (((rd_L1 bt169.1 0).length : Int) - 1)) a0 l1 l2).bind fun t174 => (some t174)) else (none)) else (some bt169.2))
set_option maxHeartbeats 8000000 in
set_option maxRecDepth 100000 in
theorem soft_fitsP.calls (a0 : Int) (A1 : Option Addr) (c1 : Nat) (l1 : List Int) (A2 : Option Addr) (c2 : Nat) (l2 : List (S24)) (r : Int) (w : World) (hr1 : Kd.C (Kd.int .i64) w A1 l1.length l1) (hc1 : l1.length ≤ c1) (hr2 : Kd.C k24 w A2 l2.length l2) (hc2 : l2.length ≤ c2) (h : soft_fitsP.f a0 l1 l2 = some r) :
  Calls Try.prog 34 #[.int .i64 a0, .slice A1 l1.length c1, .slice A2 l2.length c2] w fun e w' => e = .returned (.int .i64 r) ∧ Below w.heap.size w w' := by
 have HR1 := ZM hr1
 have HC1 := ZM hc1
 clear hr1 hc1
 have HR2 := ZM hr2
 have HC2 := ZM hc2
 clear hr2 hc2
 have HB := ZM (Below.refl w.heap.size w)
 have H : ((soft_Rows.f a0 l1).bind fun bt169 => (if bt169.2 = 0 then (if 0 < (bt169.1.length : Int) then ((soft_Check.f (wrap64 (((rd_L1 bt169.1 0).length : Int) - 1)) a0 l1 l2).bind fun t174 => (some t174)) else (none)) else (some bt169.2))) = some r := h
 clear h
 replace H := Option.bind_eq_some_iff.mp H
 obtain ⟨⟨t169, t170⟩, A40, H⟩ := H
 replace H : (if t170 = 0 then (if 0 < (t169.length : Int) then ((soft_Check.f (wrap64 (((rd_L1 t169 0).length : Int) - 1)) a0 l1 l2).bind fun t174 => (some t174)) else (none)) else (some t170)) = some r := H
 have A4 := ZM A40
 clear A40
 by_cases c5 : t170 = 0
 case neg =>
  rw [if_neg c5] at H
  have c5b0 : (t170 == 0) = false := beq_eq_false_iff_ne.mpr c5
  have c5b1 : (t170 != 0) = true := bne_iff_ne.mpr c5
  obtain rfl := Option.some.inj H
  go_enter Try.func34, Try.ntmps34
  go_wp2_with (first | ((with_reducible refine gate_callee (f := 12) rfl ?_); refine goesL_ (some 12) rfl rfl Try.func12 (by kernel_rfl) rfl #[.int .i64 a0, .slice A1 l1.length c1] rfl Z2 ?_; (with_reducible refine (soft_Rows.calls a0 _ _ l1 t169 t170 _ ?side1 ?side2 A4.out).mono ?_); (case side1 => exact Z6); (case side2 => exact HC1.out); rintro e w11 ⟨v171, rfl, ho0, hb⟩; refine ⟨_, rfl, ?_⟩; have HO172 := ZM (Kd.S_lower ho0 (zzS Z1)); replace HB := ZM (zzT Z1 hb); (try clear hb); (try clear hb2); (try clear hk); (try clear hi); (try clear ho0)))
  go_ret
  exact ⟨by first | rfl | (simp [errW_none, errW_some] <;> rfl) | (simp [*, errW_none, errW_some] <;> rfl), by repeat (first | (with_reducible first | exact HB.out | apply zzA | apply zzN | apply zzD) | exact HB.out)⟩
 rw [if_pos c5] at H
 have c5b0 : (t170 == 0) = true := beq_iff_eq.mpr c5
 have c5b1 : (t170 != 0) = false := bne_eq_false_iff_eq.mpr c5
 clear c5
 by_cases c6 : 0 < (t169.length : Int)
 case neg =>
  rw [if_neg c6] at H
  exact absurd H (by simp)
 rw [if_pos c6] at H
 have c6b0 : decide (0 < (t169.length : Int)) = true := decide_eq_true c6
 have c6b1 : decide (0 < t169.length) = true := decide_eq_true (by omega)
 clear c6
 replace H := Option.bind_eq_some_iff.mp H
 obtain ⟨t174, A70, H⟩ := H
 replace H : (some t174) = some r := H
 have A7 := ZM A70
 clear A70
 obtain rfl := Option.some.inj H
 go_enter Try.func34, Try.ntmps34
 go_wp2_with (first | ((with_reducible refine gate_callee (f := 12) rfl ?_); refine goesL_ (some 12) rfl rfl Try.func12 (by kernel_rfl) rfl #[.int .i64 a0, .slice A1 l1.length c1] rfl Z2 ?_; (with_reducible refine (soft_Rows.calls a0 _ _ l1 t169 t170 _ ?side1 ?side2 A4.out).mono ?_); (case side1 => exact Z6); (case side2 => exact HC1.out); rintro e w8 ⟨v171, rfl, ho0, hb⟩; refine ⟨_, rfl, ?_⟩; have HO172 := ZM (Kd.S_lower ho0 (zzS Z1)); replace HB := ZM (zzT Z1 hb); (try clear hb); (try clear hb2); (try clear hk); (try clear hi); (try clear ho0); obtain ⟨Ao9, co9, eo9⟩ := Kd.S_slice HO172.out; subst eo9; have p173 : 0 ≤ (0 : Int) := (by omega); have q173 : 0 < (t169.length : Int) := of_decide_eq_true Z3; obtain ⟨ad173, A173_0, c173_0, e173, hx173_0, hl173_0, hi173_0⟩ := at_L1 (Kd.S_reads' HO172.out).2.2 0 p173 q173; cases e173; obtain ⟨ce173, hce173, hMe173, hcc173⟩ := Kd.S_get HO172.out [] 0 p173 (by first | exact q173 | exact of_decide_eq_true Z3 | (have e_ := (Kd.S_reads' HO172.out).1; omega)); obtain ⟨ve173_0, rfl, ge173_0⟩ := hMe173; have hv173_0 := hcc173 0 _ rfl; rw [Nat.add_zero, show ((Kd.slice 2 (Kd.int .i64))).sz = 1 from rfl, Nat.mul_one] at hv173_0; replace hv173_0 := Option.some.inj (hv173_0.symm.trans hx173_0); rw [hv173_0] at ge173_0; have HL173_0 := ZM (show Kd.R (Kd.int .i64) 2 _ _ _ _ (rd_L1 t169 0) from ge173_0); clear hv173_0 ge173_0; clear hcc173 hce173; have qi173 : (0 < t169.length) = True := eq_true (by omega); (try rw [show ((0 : Int)).toNat = 0 from rfl] at hx173_0); (try rw [Addr.add_zero'] at hx173_0); have HR173_0 := ZM hi173_0; have HC173_0 := ZM hl173_0; clear hi173_0 hl173_0; replace p173 := eq_true p173; replace q173 := eq_true q173) | ((with_reducible refine gate_callee (f := 18) rfl ?_); refine goesL_ (some 26) rfl rfl Try.func18 (by kernel_rfl) rfl #[.int .i64 (wrap64 (((rd_L1 t169 0).length : Int) - 1)), .int .i64 a0, .slice A1 l1.length c1, .slice A2 l2.length c2] rfl Z2 ?_; (with_reducible refine (soft_Check.calls (wrap64 (((rd_L1 t169 0).length : Int) - 1)) a0 _ _ l1 _ _ l2 t174 _ ?side1 ?side2 ?side3 ?side4 A7.out).mono ?_); (case side1 => exact Z22); (case side2 => exact HC1.out); (case side3 => exact Z8); (case side4 => exact HC2.out); rintro e w10 ⟨rfl, hb⟩; refine ⟨_, rfl, ?_⟩; replace HO172 := ZM (Kd.S_below (by (with_reducible repeat (first | apply Kd.S_alloc | apply Kd.S_drewN | apply Kd.S_drew)); exact HO172.out) hb); replace HL173_0 := ZM (Kd.R_below (Zr HL173_0) hb); replace HR173_0 := ZM (Kd.C_below (by repeat (first | (with_reducible exact HR173_0.out) | (with_reducible refine ccA ?_ _) | (with_reducible refine ccN ?_ _) | (with_reducible refine ccD ?_) | exact HR173_0.out)) hb); replace HB := ZM (zzT Z1 hb); (try clear hb); (try clear hb2); (try clear hk); (try clear hi)))
 go_ret
 exact ⟨by first | rfl | (simp [errW_none, errW_some] <;> rfl) | (simp [*, errW_none, errW_some] <;> rfl), by repeat (first | (with_reducible first | exact HB.out | apply zzA | apply zzN | apply zzD) | exact HB.out)⟩
def soft_fits.f (a0 : Int) (l1 : List Int) (l2 : List S24) : Option Int := some (fitS a0 l1 (l2.map sm))
theorem soft_fitsP.is (a0 : Int) (l1 : List Int) (l2 : List S24) : soft_fitsP.f a0 l1 l2 = some (fitS a0 l1 (l2.map sm)) := by
  unfold soft_fitsP.f fitS soft_Rows.f soft_Check.f
  rw [Option.bind_some]
  by_cases c : (rowsS a0 l1).2 = 0
  · obtain ⟨k, m, rfl, hk2, hk8, hm2, hm17, hmk, hr⟩ := rowsS_good c
    have hlen : (rowsS (k : Int) l1).1.length = k := by rw [hr, chunksS_length]
    rw [if_pos c, if_neg (not_not_intro c), if_pos (by omega)]; rfl
  · rw [if_neg c, if_pos c]
theorem soft_fits.calls (a0 : Int) (A1 : Option Addr) (c1 : Nat) (l1 : List Int) (A2 : Option Addr) (c2 : Nat) (l2 : List (S24)) (r : Int) (w : World) (hr1 : Kd.C (Kd.int .i64) w A1 l1.length l1) (hc1 : l1.length ≤ c1) (hr2 : Kd.C k24 w A2 l2.length l2) (hc2 : l2.length ≤ c2) (h : soft_fits.f a0 l1 l2 = some r) :
    Calls Try.prog 34 #[.int .i64 a0, .slice A1 l1.length c1, .slice A2 l2.length c2] w fun e w' => e = .returned (.int .i64 r) ∧ Below w.heap.size w w' := by
  unfold soft_fits.f at h
  exact soft_fitsP.calls a0 A1 c1 l1 A2 c2 l2 r w hr1 hc1 hr2 hc2 ((soft_fitsP.is a0 l1 l2).trans h)


/-! ### vec_each: function 71 -/
set_option maxHeartbeats 2000000 in
set_option maxRecDepth 100000 in
theorem vec_each.calls (K : Nat) (caps : Array Value) (g : Nat → Option (Int × Int)) (n : Nat) (hn : n ≤ 1000000) (w : World) (r1 : List Int) (r2 : Int)
    (hent : ∀ (args : Array Value) (w : World), (callFunc K args).run Try.prog w = .ok (.enter K args) w)
    (H : Tells Try.prog K caps g n w) (h : eachGo g n 0 [] = some (r1, r2)) :
    Calls Try.prog 71 #[.int .i64 n, .func (.func K) #[] caps] w fun e w' => ∃ v0_ : Value, e = .returned (.tuple #[v0_, .int .i64 r2]) ∧ Kd.R (Kd.int .i64) 2 w' w.heap.size (fun _ => True) v0_ r1 ∧ Below w.heap.size w w' := by
 have hmk := print_make (P := Try.prog) 22 2 .i64 8 Try.underlying22 info2 (by decide) n (by omega)
 have HH := ZM H
 have HG := ZM h
 clear H h
 go_enter Try.func71, Try.ntmps71
 go_wp2_with fail
 go_loopw [13] (fun i W => ∃ (k : Nat) (acc : List Int), i = .int .i64 k ∧ Aside0 (k ≤ n) ∧ Aside0 (acc.length = k) ∧ Aside0 (eachGo g (n - k) k acc = some (r1, r2)) ∧ Aside0 (Kd.R (Kd.int .i64) 2 W w.heap.size (fun _ => True) (.slice (some ⟨w.heap.size, 0, none⟩) n n) (acc ++ List.replicate (n - k) 0)) ∧ Aside0 (Below w.heap.size w W)) (fun i _ => n - (intOf i).toNat)
 case atStart => exact ⟨0, [], rfl, ⟨Nat.zero_le _⟩, ⟨rfl⟩, HG, ⟨by have ho := own_made w w.heap.size 2 .i64 n (Nat.le_refl _) (by omega); rw [show ([] : List Int) ++ List.replicate (n - 0) 0 = List.replicate n 0 by simp]; exact Kd.R_of_own (enc := Value.int .i64) (h1 := fun _ => rfl) (xs := List.replicate n (0 : Int)) (by rw [List.length_replicate]; exact ho) (fun _ _ => trivial)⟩, ⟨zzA (Below.refl _ _) _⟩⟩
 case round =>
  obtain ⟨k, acc, rfl, ⟨hk⟩, ⟨hacc⟩, ⟨hgo⟩, HO, HB⟩ := hrel
  clear HG
  by_cases hlt : k < n
  · obtain ⟨d, hd⟩ : ∃ d, n - k = d + 1 := ⟨n - k - 1, by omega⟩
    rw [hd, eachGo] at hgo
    obtain ⟨⟨x, e⟩, hgk, hgo⟩ := Option.bind_eq_some_iff.mp hgo
    have HC := ZM (HH.out k wr x e hlt HB.out hgk)
    have HHd := ZM hd
    clear hd hgk
    by_cases he : e = 0
    · subst he
      simp only [if_true] at hgo
      have HG := ZM hgo
      have HA := ZM hacc
      clear hgo hacc hk
      go_wp2_with (go_at_fn K; refine HC.out.mono ?_; rintro ed W1 ⟨rfl, hb⟩; have HO1 := ZM (Kd.R_below HO.out hb); have HB1 := ZM (below_then HB.out HB.out.size hb); clear hb; have hcell := (Kd.R_celln 0 HO1.out (k : Int) (by omega) (by omega)).1; have hfr := (Kd.R_celln 0 HO1.out (k : Int) (by omega) (by omega)).2; simp only [Int.toNat_natCast] at hcell hfr)
      have hp := Kd.R_putg HO1.out (k : Int) x
      have hset : (acc ++ List.replicate (n - k) 0).set (k : Int).toNat x = (acc ++ [x]) ++ List.replicate (n - (k + 1)) 0 := by
       rw [HHd.out, show n - (k + 1) = d by have := HHd.out; omega, Int.toNat_natCast, ← HA.out, List.set_append_right _ _ (Nat.le_refl _), Nat.sub_self, List.replicate_succ]
       simp
      rw [hset] at hp
      simp only [Int.toNat_natCast] at hp
      exact ⟨⟨k + 1, acc ++ [x], by go_num, ⟨by omega⟩, ⟨by have := HA.out; simp; omega⟩, ⟨by rw [show n - (k + 1) = d by have := HHd.out; omega]; exact HG.out⟩, ⟨hp.1⟩, ⟨HB1.out.setCell (Nat.le_refl _) _⟩⟩, by simp [intOf]; omega⟩
    · rw [if_neg he] at hgo
      cases hgo
      have he0 : (e == 0) = false := beq_eq_false_iff_ne.2 he
      have he1 : (e != 0) = true := bne_iff_ne.2 he
      clear he hacc hk
      go_wp2_with (go_at_fn K; refine HC.out.mono ?_; rintro ed W1 ⟨rfl, hb⟩; have HO1 := ZM (Kd.R_below HO.out hb); have HB1 := ZM (below_then HB.out HB.out.size hb); clear hb; have hcell := (Kd.R_celln 0 HO1.out (k : Int) (by omega) (by omega)).1; have hfr := (Kd.R_celln 0 HO1.out (k : Int) (by omega) (by omega)).2; simp only [Int.toNat_natCast] at hcell hfr)
      go_ret2
      exact ⟨_, rfl, Kd.R_nil _ _ _ _ _, HB1.out.setCell (Nat.le_refl _) _⟩
  · have hkn : n - k = 0 := by omega
    rw [hkn, eachGo] at hgo
    cases hgo
    have HO2 := HO.out
    rw [hkn, List.replicate_zero, List.append_nil] at HO2
    have HO3 := ZM HO2
    clear HO2 HO hkn hacc hk
    go_wp2
    go_ret2
    exact ⟨_, rfl, HO3.out, HB.out⟩
-- NOT PRINTED: function 72 (vec_Scale_1)

/-! ### vec_Scale: function 50 -/
set_option maxHeartbeats 2000000 in
set_option maxRecDepth 100000 in
theorem vec_Scale_1.calls (b1 b2 b3 : Nat) (A0 : Option Addr) (c0 : Nat) (l0 : List Int) (a1 : Int) (a2 : Int) (i : Nat) (W : World) (x e : Int)
    (hb1 : W.cell? ⟨b1, 0, none⟩ = some (.slice A0 l0.length c0)) (hb2 : W.cell? ⟨b2, 0, none⟩ = some (.int .i64 a1)) (hb3 : W.cell? ⟨b3, 0, none⟩ = some (.int .i64 a2))
    (hr0 : Kd.C (Kd.int .i64) W A0 l0.length l0) (h0 : i < l0.length)
    (h : fix_Mul.f (rd l0 i) a1 a2 = some (x, e)) :
    Calls Try.prog 72 #[.int .i64 i, .pointer (some ⟨b1, 0, none⟩), .pointer (some ⟨b2, 0, none⟩), .pointer (some ⟨b3, 0, none⟩)] W fun ed W' => ed = .returned (.tuple #[.int .i64 x, .int .i64 e]) ∧ Below W.heap.size W W' := by
 obtain ⟨ad0, rfl, hc0⟩ := Kd.at_int hr0 (i : Int) (by omega) (by omega)
 simp only [Int.toNat_natCast] at hc0
 have HC := ZM h
 clear hr0 h
 go_enter Try.func72, Try.ntmps72
 go_wp2
 go_region_held3 (fun w' => w'.cell? ⟨b1, 0, none⟩ = some (.slice (some ad0) l0.length c0) ∧ w'.cell? ⟨b2, 0, none⟩ = some (.int .i64 a1) ∧ w'.cell? ⟨b3, 0, none⟩ = some (.int .i64 a2) ∧ w'.cell? (ad0.add i) = some (.int .i64 (rd l0 i)))
  (first | go_keep | (go_split_ands; exact ⟨pw_cell_below hb (by assumption), pw_cell_below hb (by assumption), pw_cell_below hb (by assumption), pw_cell_below hb (by assumption)⟩))
  ((go_at_call 73; (with_reducible refine (fix_Mul.calls (rd l0 i) a1 a2 x e _ HC.out).mono ?_); rintro ed W2 ⟨rfl, hb⟩))
 go_wp2
 go_ret2
 exact ⟨rfl, below_then (below_drew (Below.refl _ _)) (Nat.le_refl _) hb⟩
def vec_Scale.f (l0 : List Int) (a1 a2 : Int) : Option (List Int × Int) := if V64 l0 ∧ I64 a1 then some (scaleV l0 a1 a2) else none
theorem vec_Scale.of (l0 : List Int) (a1 a2 : Int)  (h_ : V64 l0 ∧ I64 a1) : vec_Scale.f l0 a1 a2 = some (scaleV l0 a1 a2) := if_pos h_
set_option maxHeartbeats 2000000 in
set_option maxRecDepth 100000 in
theorem vec_Scale.calls (A0 : Option Addr) (c0 : Nat) (l0 : List Int) (a1 : Int) (a2 : Int) (r1 : List Int) (r2 : Int) (w : World) (hr0 : Kd.C (Kd.int .i64) w A0 l0.length l0) (hc0 : l0.length ≤ c0) (h : vec_Scale.f l0 a1 a2 = some (r1, r2)) :
    Calls Try.prog 50 #[.slice A0 l0.length c0, .int .i64 a1, .int .i64 a2] w fun e w' => ∃ v0_ : Value, e = .returned (.tuple #[v0_, .int .i64 r2]) ∧ Kd.R (Kd.int .i64) 2 w' w.heap.size (fun _ => True) v0_ r1 ∧ Below w.heap.size w w' := by
 unfold vec_Scale.f at h
 split at h
 case isFalse => cases h
 rename_i hv
 have h := Option.some.inj h
 unfold scaleV at h
 have HR0 := ZM hr0
 have HC0 := ZM hc0
 clear hr0 hc0
 have HV := ZM hv
 clear hv
 try have hu22 := Try.underlying22
 try have hu2 := Try.underlying2
 try have hu3 := Try.underlying3
 have HP0 : Aside0 (vec_Check.f l0 = some (checkE l0)) := ⟨vec_Check.of l0⟩
 by_cases hp0 : checkE l0 = 0
 · rw [if_pos hp0] at h
   rw [hp0] at HP0
   have HP1 : Aside0 (vec_behind.f a2 = some (fracE a2)) := ⟨vec_behind.of a2⟩
   by_cases hp1 : fracE a2 = 0
   · rw [if_pos hp1] at h
     rw [hp1] at HP1
     have HN : Aside0 (l0.length ≤ 4096) := ⟨checkE_le hp0⟩
     have HH := ZM h
     clear h hp0 hp1
     have HX0 : Aside0 ((((w.alloc (Obj.cells #[Value.slice A0 l0.length c0] 22)).alloc (Obj.cells #[Value.int .i64 a1] 2)).alloc (Obj.cells #[Value.int .i64 a2] 3)).cell? ⟨w.heap.size, 0, none⟩ = some (.slice A0 l0.length c0)) := ⟨by simp [go_sem]⟩
     have HX1 : Aside0 ((((w.alloc (Obj.cells #[Value.slice A0 l0.length c0] 22)).alloc (Obj.cells #[Value.int .i64 a1] 2)).alloc (Obj.cells #[Value.int .i64 a2] 3)).cell? ⟨w.heap.size + 1, 0, none⟩ = some (.int .i64 a1)) := ⟨by simp [go_sem]⟩
     have HX2 : Aside0 ((((w.alloc (Obj.cells #[Value.slice A0 l0.length c0] 22)).alloc (Obj.cells #[Value.int .i64 a1] 2)).alloc (Obj.cells #[Value.int .i64 a2] 3)).cell? ⟨w.heap.size + 2, 0, none⟩ = some (.int .i64 a2)) := ⟨by simp [go_sem]⟩
     have HB : Aside0 (Below w.heap.size w (((w.alloc (Obj.cells #[Value.slice A0 l0.length c0] 22)).alloc (Obj.cells #[Value.int .i64 a1] 2)).alloc (Obj.cells #[Value.int .i64 a2] 3))) := ⟨zzA (zzA (zzA (Below.refl _ _) _) _) _⟩
     go_enter Try.func50, Try.ntmps50
     go_wp2_with (first | (go_at_call 45; (with_reducible refine (vec_Check.calls A0 c0 l0 0 _ (Kd.C_below HR0.out HB.out) HC0.out HP0.out).mono ?_); rintro ed W1 ⟨rfl, hd⟩; have hb := hd.below; clear hd; have HB := ZM (below_then HB.out HB.out.size hb); have HX0 := ZM (pw_cell_below hb HX0.out); have HX1 := ZM (pw_cell_below hb HX1.out); have HX2 := ZM (pw_cell_below hb HX2.out); have hx0 := HX0.out; have hx1 := HX1.out; have hx2 := HX2.out; clear hb) | (go_at_call 70; (with_reducible refine (vec_behind.calls a2 0 _ HP1.out).mono ?_); rintro ed W1 ⟨rfl, hd⟩; have hb := hd; clear hd; have HB := ZM (below_then HB.out HB.out.size hb); have HX0 := ZM (pw_cell_below hb HX0.out); have HX1 := ZM (pw_cell_below hb HX1.out); have HX2 := ZM (pw_cell_below hb HX2.out); have hx0 := HX0.out; have hx1 := HX1.out; have hx2 := HX2.out; clear hb) | (go_at_call 71; (with_reducible refine (vec_each.calls 72 _ (fun i : Nat => fix_Mul.f (rd l0 i) a1 a2) l0.length (by have := HN.out; omega) _ r1 r2 ?ent ?tells ?go).mono ?_); (case ent => exact enters_of Try.func72 rfl rfl); (case tells => intro i W x e hi hb hg; refine (vec_Scale_1.calls (w.heap.size) (w.heap.size + 1) (w.heap.size + 2) A0 c0 l0 a1 a2 i W x e (pw_cell_below hb HX0.out) (pw_cell_below hb HX1.out) (pw_cell_below hb HX2.out) (Kd.C_below (Kd.C_below HR0.out HB.out) hb) (by omega) hg).mono ?_; rintro ed W' ⟨rfl, hd⟩; exact ⟨rfl, hd⟩); (case go => exact (each_spec (ps := l0.map fun x => mulF x a1 a2) (List.length_map _) (fun j h => by rw [map_get _ j h]; exact fix_Mul.of _ _ _ ⟨HV.out.1.rd _, HV.out.2⟩)).trans (congrArg some HH.out)); rintro ed W2 ⟨v_, rfl, hR, hb⟩; have HO := ZM (Kd.R_lower hR HB.out.size); have HB2 := ZM (below_then HB.out HB.out.size hb); clear hR hb))
     go_ret2
     exact ⟨_, rfl, HO.out, HB2.out⟩
   · rw [if_neg hp1] at h
     cases h
     have HX0 : Aside0 ((((w.alloc (Obj.cells #[Value.slice A0 l0.length c0] 22)).alloc (Obj.cells #[Value.int .i64 a1] 2)).alloc (Obj.cells #[Value.int .i64 a2] 3)).cell? ⟨w.heap.size, 0, none⟩ = some (.slice A0 l0.length c0)) := ⟨by simp [go_sem]⟩
     have HX1 : Aside0 ((((w.alloc (Obj.cells #[Value.slice A0 l0.length c0] 22)).alloc (Obj.cells #[Value.int .i64 a1] 2)).alloc (Obj.cells #[Value.int .i64 a2] 3)).cell? ⟨w.heap.size + 1, 0, none⟩ = some (.int .i64 a1)) := ⟨by simp [go_sem]⟩
     have HX2 : Aside0 ((((w.alloc (Obj.cells #[Value.slice A0 l0.length c0] 22)).alloc (Obj.cells #[Value.int .i64 a1] 2)).alloc (Obj.cells #[Value.int .i64 a2] 3)).cell? ⟨w.heap.size + 2, 0, none⟩ = some (.int .i64 a2)) := ⟨by simp [go_sem]⟩
     have HB : Aside0 (Below w.heap.size w (((w.alloc (Obj.cells #[Value.slice A0 l0.length c0] 22)).alloc (Obj.cells #[Value.int .i64 a1] 2)).alloc (Obj.cells #[Value.int .i64 a2] 3))) := ⟨zzA (zzA (zzA (Below.refl _ _) _) _) _⟩
     have he0 : (fracE a2 == 0) = false := beq_eq_false_iff_ne.2 hp1
     have he1 : (fracE a2 != 0) = true := bne_iff_ne.2 hp1
     obtain ⟨e_, hE⟩ : ∃ e_ : Int, fracE a2 = e_ := ⟨_, rfl⟩
     rw [hE] at HP1 he0 he1
     simp only [hE]
     clear hE hp1
     go_enter Try.func50, Try.ntmps50
     go_wp2_with (first | (go_at_call 45; (with_reducible refine (vec_Check.calls A0 c0 l0 0 _ (Kd.C_below HR0.out HB.out) HC0.out HP0.out).mono ?_); rintro ed W1 ⟨rfl, hd⟩; have hb := hd.below; clear hd; have HB := ZM (below_then HB.out HB.out.size hb); have HX0 := ZM (pw_cell_below hb HX0.out); have HX1 := ZM (pw_cell_below hb HX1.out); have HX2 := ZM (pw_cell_below hb HX2.out); have hx0 := HX0.out; have hx1 := HX1.out; have hx2 := HX2.out; clear hb) | (go_at_call 70; (with_reducible refine (vec_behind.calls a2 e_ _ HP1.out).mono ?_); rintro ed W1 ⟨rfl, hd⟩; have hb := hd; clear hd; have HB := ZM (below_then HB.out HB.out.size hb); have HX0 := ZM (pw_cell_below hb HX0.out); have HX1 := ZM (pw_cell_below hb HX1.out); have HX2 := ZM (pw_cell_below hb HX2.out); have hx0 := HX0.out; have hx1 := HX1.out; have hx2 := HX2.out; clear hb))
     go_ret2
     exact ⟨_, rfl, Kd.R_nil _ _ _ _ _, HB.out⟩
 · rw [if_neg hp0] at h
   cases h
   have HX0 : Aside0 ((((w.alloc (Obj.cells #[Value.slice A0 l0.length c0] 22)).alloc (Obj.cells #[Value.int .i64 a1] 2)).alloc (Obj.cells #[Value.int .i64 a2] 3)).cell? ⟨w.heap.size, 0, none⟩ = some (.slice A0 l0.length c0)) := ⟨by simp [go_sem]⟩
   have HX1 : Aside0 ((((w.alloc (Obj.cells #[Value.slice A0 l0.length c0] 22)).alloc (Obj.cells #[Value.int .i64 a1] 2)).alloc (Obj.cells #[Value.int .i64 a2] 3)).cell? ⟨w.heap.size + 1, 0, none⟩ = some (.int .i64 a1)) := ⟨by simp [go_sem]⟩
   have HX2 : Aside0 ((((w.alloc (Obj.cells #[Value.slice A0 l0.length c0] 22)).alloc (Obj.cells #[Value.int .i64 a1] 2)).alloc (Obj.cells #[Value.int .i64 a2] 3)).cell? ⟨w.heap.size + 2, 0, none⟩ = some (.int .i64 a2)) := ⟨by simp [go_sem]⟩
   have HB : Aside0 (Below w.heap.size w (((w.alloc (Obj.cells #[Value.slice A0 l0.length c0] 22)).alloc (Obj.cells #[Value.int .i64 a1] 2)).alloc (Obj.cells #[Value.int .i64 a2] 3))) := ⟨zzA (zzA (zzA (Below.refl _ _) _) _) _⟩
   have he0 : (checkE l0 == 0) = false := beq_eq_false_iff_ne.2 hp0
   have he1 : (checkE l0 != 0) = true := bne_iff_ne.2 hp0
   obtain ⟨e_, hE⟩ : ∃ e_ : Int, checkE l0 = e_ := ⟨_, rfl⟩
   rw [hE] at HP0 he0 he1
   simp only [hE]
   clear hE hp0
   go_enter Try.func50, Try.ntmps50
   go_wp2_with (first | (go_at_call 45; (with_reducible refine (vec_Check.calls A0 c0 l0 e_ _ (Kd.C_below HR0.out HB.out) HC0.out HP0.out).mono ?_); rintro ed W1 ⟨rfl, hd⟩; have hb := hd.below; clear hd; have HB := ZM (below_then HB.out HB.out.size hb); have HX0 := ZM (pw_cell_below hb HX0.out); have HX1 := ZM (pw_cell_below hb HX1.out); have HX2 := ZM (pw_cell_below hb HX2.out); have hx0 := HX0.out; have hx1 := HX1.out; have hx2 := HX2.out; clear hb))
   go_ret2
   exact ⟨_, rfl, Kd.R_nil _ _ _ _ _, HB.out⟩
end Go.Proofs.Ytihgcjagokippaa.HS
