/- What Go functions do, each as a plain Lean function with the same answers, and the proof of it, in every world: printed by the session's driver over the kit's print, with texts by hand. -/
import Derived.Test.YtfbdalnjijdknaaHSx0
import Derived.Test.YtfbdalnjijdknaaHSx1
import Derived.Test.YtfbdalnjijdknaaHSx9
import Derived.Test.YtfbdalnjijdknaaHSx10
namespace Go.Proofs.Ytfbdalnjijdknaa.HS
open Go.RowKit Go.Proofs.YtfbdalnjijdknaaW.PrintWords Go.Proofs.YtfbdalnjijdknaaW.PrintLast Go.Proofs.YtfbdalnjijdknaaW.PrintMore
attribute [local go_sem] max2_int min2_int max_two min_two max_three min_three max_four min_four   -- for this text's walks alone
open Go.Proofs.Ytfbdalnjijdknaa.Sp
attribute [local go_sem] Go.Proofs.Ytfbdalnjijdknaa.Sp.u64_not
set_option linter.unusedVariables false
set_option linter.unusedSimpArgs false

/-! ### soft_OffP: function 80 -/
def soft_OffP.j0 : Nat → Int → List Int → Int → Bool → List Int → Int → Option (List Int × Int)
 | 0, _, _, _, _, _, _ => none
 | k + 1, x3, x10, x11, x33, x170000, x170001 => if x33 = true then (if 1 = 0 then (if 0 ≤ x170001 then (if x170001 < (x10.length : Int) then (if 0 ≤ x3 then (some ((x10.set (x170001 : Int).toNat (wrap64 ((rd x10 x170001) - (shl .i64 1 x3)))), 0)) else (none)) else (none)) else (none)) else (some (([] : List Int), 1))) else (if x11 = 0 then (if 0 ≤ x170001 then (if x170001 < (x10.length : Int) then (if 0 ≤ x3 then (some ((x10.set (x170001 : Int).toNat (wrap64 ((rd x10 x170001) - (shl .i64 1 x3)))), 0)) else (none)) else (none)) else (none)) else (some (([] : List Int), x11)))
def soft_OffP.f (k : Nat) (a0 : Int) (l1 : List Int) (l2_0 : List Int) (a2_1 : Int) (a3 : Int) : Option (List Int × Int) := (soft_Tell.f a0 l1 l2_0 a3).bind fun bt170 => (if bt170.2 = 0 then (if a2_1 < 0 then (soft_OffP.j0 k a3 bt170.1 bt170.2 true l2_0 a2_1) else (soft_OffP.j0 k a3 bt170.1 bt170.2 (decide (a2_1 ≥ a0)) l2_0 a2_1)) else (soft_OffP.j0 k a3 bt170.1 bt170.2 false l2_0 a2_1))
theorem soft_OffP.mono_l : ∀ k, (∀ y0 y1 y2 y3 y4 y5, LeO (soft_OffP.j0 k y0 y1 y2 y3 y4 y5) (soft_OffP.j0 (k + 1) y0 y1 y2 y3 y4 y5))
 | 0 => fun _ _ _ _ _ _ r h => by simp [soft_OffP.j0] at h
 | k + 1 => by
  have ih0 := soft_OffP.mono_l k
  ·
   intro y0 y1 y2 y3 y4 y5
   unfold soft_OffP.j0
   repeat' first
   | (with_reducible exact ih0 _ _ _ _ _ _)
   | (with_reducible exact LeO.refl _)
   | (with_reducible exact LeO.none _)
   | (with_reducible refine LeO.ite ?_ ?_)
   | (with_reducible refine LeO.bind ?_ (fun _ => ?_))
   | exact ih0 _ _ _ _ _ _
   | exact LeO.none _
   | refine LeO.ite ?_ ?_
   | refine LeO.bind ?_ (fun _ => ?_)
theorem soft_OffP.mono : ∀ a0 a1 a2 a3 a4 k, LeO (soft_OffP.f k a0 a1 a2 a3 a4) (soft_OffP.f (k + 1) a0 a1 a2 a3 a4) := by
 intro a0 a1 a2 a3 a4 k
 have ih0 := soft_OffP.mono_l k
 unfold soft_OffP.f
 repeat' first
   | (with_reducible exact ih0 _ _ _ _ _ _)
   | (with_reducible exact LeO.refl _)
   | (with_reducible exact LeO.none _)
   | (with_reducible refine LeO.ite ?_ ?_)
   | (with_reducible refine LeO.bind ?_ (fun _ => ?_))
   | exact ih0 _ _ _ _ _ _
   | exact LeO.none _
   | refine LeO.ite ?_ ?_
   | refine LeO.bind ?_ (fun _ => ?_)
def soft_OffP.T6 : Bool × List (List Nat × List Nat) := (true, [([], []), ([], []), ([1], [1]), ([0, 2], [0, 2]), ([3], [3]), ([], []), ([5], [5]), ([4, 6], [4, 6]), ([0, 2, 0, 1, 2, 3, 4, 5, 6, 7], [0, 2]), ([8, 7, 0, 1, 2, 3, 4, 5, 6, 7], [7, 8])])
def soft_OffP.B6 : List Nat := [0, 0, 2, 7, 15, 0, 32, 127, 255, 511]
theorem soft_OffP.tab6 : rtab .any (opsOf Try.f80 6) = soft_OffP.T6 := by kernel_rfl
theorem soft_OffP.bits6 : waitsOk soft_OffP.T6.2 soft_OffP.B6 = true := by kernel_rfl
set_option maxHeartbeats 8000000 in
set_option maxRecDepth 100000 in
theorem soft_OffP.calls (k : Nat) (a0 : Int) (A1 : Option Addr) (c1 : Nat) (l1 : List Int) (A2_0 : Option Addr) (c2_0 : Nat) (l2_0 : List Int) (a2_1 : Int) (a3 : Int) (r1 : List Int) (r2 : Int) (w : World) (hr1 : Kd.C (Kd.int .i64) w A1 l1.length l1) (hc1 : l1.length ≤ c1) (hr2_0 : Kd.C (Kd.int .i64) w A2_0 l2_0.length l2_0) (hc2_0 : l2_0.length ≤ c2_0) (h : soft_OffP.f k a0 l1 l2_0 a2_1 a3 = some (r1, r2)) :
  Calls Try.prog 80 #[.int .i64 a0, .slice A1 l1.length c1, .agg #[.slice A2_0 l2_0.length c2_0, .int .i64 a2_1], .int .i64 a3] w fun e w' => ∃ v0_ : Value, e = .returned (.tuple #[v0_, .int .i64 r2]) ∧ Kd.R (Kd.int .i64) 2 w' w.heap.size (fun _ => True) v0_ r1 ∧ Below w.heap.size w w' := by
 have hu26 := Try.underlying26
 have HR1 := Aside0.mk hr1
 have HC1 := Aside0.mk hc1
 clear hr1 hc1
 have HR2_0 := Aside0.mk hr2_0
 have HC2_0 := Aside0.mk hc2_0
 clear hr2_0 hc2_0
 have HB := Aside0.mk (Below.refl w.heap.size w)
 have H : ((soft_Tell.f a0 l1 l2_0 a3).bind fun bt170 => (if bt170.2 = 0 then (if a2_1 < 0 then (soft_OffP.j0 k a3 bt170.1 bt170.2 true l2_0 a2_1) else (soft_OffP.j0 k a3 bt170.1 bt170.2 (decide (a2_1 ≥ a0)) l2_0 a2_1)) else (soft_OffP.j0 k a3 bt170.1 bt170.2 false l2_0 a2_1))) = some (r1, r2) := h
 clear h
 replace H := Option.bind_eq_some_iff.mp H
 obtain ⟨⟨t170, t171⟩, A50, H⟩ := H
 replace H : (if t171 = 0 then (if a2_1 < 0 then (soft_OffP.j0 k a3 t170 t171 true l2_0 a2_1) else (soft_OffP.j0 k a3 t170 t171 (decide (a2_1 ≥ a0)) l2_0 a2_1)) else (soft_OffP.j0 k a3 t170 t171 false l2_0 a2_1)) = some (r1, r2) := H
 have A5 := Aside0.mk A50
 clear A50
 have HC6 := Aside0.mk H
 clear H
 go_enter Try.func80, Try.ntmps80
 go_upto_region 2 with (first | ((with_reducible refine gate_dst (N := 6) rfl ?_); refine box_event ?hg (N := 6) ?hd (cs := #[.slice A2_0 l2_0.length c2_0, .int .i64 a2_1]) (t := 26) ?hr ?_; (case hd => rfl); (case hg => rfl); (case hr => first | (go_simp; done) | (go_simp; rfl)); intro gb169 hg w7 hbox hb; have n0_ := Aside0.mk (zzT (by repeat (first | (with_reducible first | exact HB.out | apply zzA | apply zzN | apply zzD) | exact HB.out)) hb); have n1_ := Aside0.mk (hbox); have n2_ := Aside0.mk ((by rw [hg]; exact (zzS (by repeat (first | (with_reducible first | exact HB.out | apply zzA | apply zzN | apply zzD) | exact HB.out))) : w.heap.size ≤ gb169)); have n3_ := Aside0.mk ((by rw [hg]; exact (zzS (by repeat (first | (with_reducible first | exact HB.out | apply zzA | apply zzN | apply zzD) | exact HB.out))) : w.heap.size ≤ gb169)); clear HB; have HB := n0_; have BK169 := n1_; have GW169 := n2_; have GE169 := n3_; clear n0_ n1_ n2_ n3_; clear hb hbox hg; have hcz8_0 : w7.cell? ⟨gb169, 0, none⟩ = some (.slice A2_0 l2_0.length c2_0) := (blk_cell BK169.out 0).trans rfl; have hcz8_1 : w7.cell? ⟨gb169, 1, none⟩ = some (.int .i64 a2_1) := (blk_cell BK169.out 1).trans rfl; have hfz8_0 := blk_frozen BK169.out 0; have hfz8_1 := blk_frozen BK169.out 1) | ((with_reducible refine gate_callee (f := 83) rfl ?_); refine goesL_ (some 18) rfl rfl Try.func83 (by kernel_rfl) rfl #[.int .i64 a0, .slice A1 l1.length c1, .slice A2_0 l2_0.length c2_0, .int .i64 a3] rfl (by (try simp only [List.map_toArray, List.map_cons, List.map_nil]); first | done | rfl | (simp only [List.length_drop, List.length_take]; rfl)) ?_; (with_reducible refine (soft_Tell.calls a0 _ _ l1 _ _ l2_0 a3 t170 t171 _ ?side1 ?side2 ?side3 ?side4 A5.out).mono ?_); (case side1 => repeat (first | exact (Kd.C_below HR1.out HB.out) | (with_reducible refine ccA ?_ _) | (with_reducible refine ccN ?_ _) | (with_reducible refine ccD ?_))); (case side2 => exact HC1.out); (case side3 => repeat (first | exact (Kd.C_below HR2_0.out HB.out) | (with_reducible refine ccA ?_ _) | (with_reducible refine ccN ?_ _) | (with_reducible refine ccD ?_))); (case side4 => exact HC2_0.out); rintro e w9 ⟨v172, rfl, ho0, hb⟩; refine ⟨_, rfl, ?_⟩; have n0_ := Aside0.mk (Kd.R_lower ho0 (zzS (by repeat (first | (with_reducible first | exact HB.out | apply zzA | apply zzN | apply zzD | refine below_set ?_ GE169.out) | exact HB.out)))); have n1_ := Aside0.mk (blk_below (g := gb169) (o := .cells #[.slice A2_0 l2_0.length c2_0, .int .i64 a2_1] 26 (0, 0)) (by (with_reducible repeat (first | refine kkN ?_ _ | refine kkD ?_ | refine kkA ?_ _)); exact BK169.out) hb); have n2_ := Aside0.mk (zzT (by repeat (first | (with_reducible first | exact HB.out | apply zzA | apply zzN | apply zzD | refine below_set ?_ GE169.out) | exact HB.out)) hb); clear BK169; clear HB; have HO173 := n0_; have BK169 := n1_; have HB := n2_; clear n0_ n1_ n2_; (try clear hb); (try clear hb2); (try clear hk); (try clear hi); (try clear ho0)))
 (try simp only [Act.put, List.setIfInBounds_toArray, List.set_cons_zero, List.set_cons_succ])
 go_cut [33] (fun v33 wc => ∃ (kq : Nat) (x33_5 : Bool), v33 = .bool x33_5 ∧ Aside0 (soft_OffP.j0 kq a3 t170 t171 x33_5 l2_0 a2_1 = some (r1, r2)) ∧ Aside0 (kq ≤ k) ∧ Aside0 (Kd.R (Kd.int .i64) 2 wc w.heap.size (fun _ => True) v172 t170) ∧ Aside0 (wc.heap[gb169]? = some (.cells #[(.slice A2_0 l2_0.length c2_0), .int .i64 a2_1] 26 (0, 0))) ∧ Aside0 (Below w.heap.size w wc))
 case first =>
  have H := HC6.out
  clear HC6
  by_cases c10 : t171 = 0
  ·
   rw [if_pos c10] at H
   have c10b0 : (t171 == 0) = true := beq_iff_eq.mpr c10
   have c10b1 : (t171 != 0) = false := bne_eq_false_iff_eq.mpr c10
   clear c10
   (first | rw [c10b0] | (simp only [i64_w, i32_w]; rw [c10b0]) | skip)
   by_cases c11 : a2_1 < 0
   ·
    rw [if_pos c11] at H
    have c11b0 : decide (a2_1 < 0) = true := decide_eq_true c11
    clear c11
    have H' := Aside0.mk H
    clear H
    have hcz12_0 : w9.cell? ⟨gb169, 0, none⟩ = some (.slice A2_0 l2_0.length c2_0) := (blk_cell BK169.out 0).trans rfl
    have hcz12_1 : w9.cell? ⟨gb169, 1, none⟩ = some (.int .i64 a2_1) := (blk_cell BK169.out 1).trans rfl
    have hfz12_0 := blk_frozen BK169.out 0
    have hfz12_1 := blk_frozen BK169.out 1
    go_wp2
    go_meet
    case rel => exact ⟨_, (true), (by first | rfl | (simp; done) | (simp [*]; done)), H', ⟨by first | omega | exact Nat.le_refl _⟩, ⟨by (with_reducible repeat (first | apply rrA | apply rrN | apply rrD)); exact HO173.out⟩, ⟨by (with_reducible repeat (first | refine kkN ?_ _ | refine kkD ?_ | refine kkA ?_ _)); exact BK169.out⟩, ⟨by repeat (first | (with_reducible first | exact HB.out | apply zzA | apply zzN | apply zzD | refine below_set ?_ GE169.out) | exact HB.out)⟩⟩
   ·
    rw [if_neg c11] at H
    have c11b0 : decide (a2_1 < 0) = false := decide_eq_false c11
    clear c11
    have H' := Aside0.mk H
    clear H
    have hcz13_0 : w9.cell? ⟨gb169, 0, none⟩ = some (.slice A2_0 l2_0.length c2_0) := (blk_cell BK169.out 0).trans rfl
    have hcz13_1 : w9.cell? ⟨gb169, 1, none⟩ = some (.int .i64 a2_1) := (blk_cell BK169.out 1).trans rfl
    have hfz13_0 := blk_frozen BK169.out 0
    have hfz13_1 := blk_frozen BK169.out 1
    go_wp2
    go_meet
    case rel => exact ⟨_, (decide (a2_1 ≥ a0)), (by first | rfl | (simp; done) | (simp [*]; done)), H', ⟨by first | omega | exact Nat.le_refl _⟩, ⟨by (with_reducible repeat (first | apply rrA | apply rrN | apply rrD)); exact HO173.out⟩, ⟨by (with_reducible repeat (first | refine kkN ?_ _ | refine kkD ?_ | refine kkA ?_ _)); exact BK169.out⟩, ⟨by repeat (first | (with_reducible first | exact HB.out | apply zzA | apply zzN | apply zzD | refine below_set ?_ GE169.out) | exact HB.out)⟩⟩
  ·
   rw [if_neg c10] at H
   have c10b0 : (t171 == 0) = false := beq_eq_false_iff_ne.mpr c10
   have c10b1 : (t171 != 0) = true := bne_iff_ne.mpr c10
   (first | rw [c10b0] | (simp only [i64_w, i32_w]; rw [c10b0]) | skip)
   have H' := Aside0.mk H
   clear H
   go_wp2
   go_meet
   case rel => exact ⟨_, (false), (by first | rfl | (simp; done) | (simp [*]; done)), H', ⟨by first | omega | exact Nat.le_refl _⟩, ⟨by (with_reducible repeat (first | apply rrA | apply rrN | apply rrD)); exact HO173.out⟩, ⟨by (with_reducible repeat (first | refine kkN ?_ _ | refine kkD ?_ | refine kkA ?_ _)); exact BK169.out⟩, ⟨by repeat (first | (with_reducible first | exact HB.out | apply zzA | apply zzN | apply zzD | refine below_set ?_ GE169.out) | exact HB.out)⟩⟩
 case rest =>
  clear HC6
  try clear c1
  try clear c2
  try clear p2
  try clear c8
  try clear c10
  try clear c10b0
  try clear c10b1
  try clear c11
  try clear c11b0
  try clear hcz12_0
  try clear hcz12_1
  try clear hcz13_0
  try clear hcz13_1
  try clear hcz8_0
  try clear hcz8_1
  try clear hfz12_0
  try clear hfz12_1
  try clear hfz13_0
  try clear hfz13_1
  try clear hfz8_0
  try clear hfz8_1
  obtain ⟨kq, x33_5, rfl, HA, HJ5, HO_10, BK169, HB⟩ := hcut
  cases kq with
  | zero => exact absurd HA.out (by simp [soft_OffP.j0])
  | succ kj5 =>
   have H := HA.out
   clear HA
   simp only [soft_OffP.j0] at H
   by_cases c14 : x33_5 = true
   ·
    subst c14
    have H1 : (if 1 = 0 then (if 0 ≤ a2_1 then (if a2_1 < (t170.length : Int) then (if 0 ≤ a3 then (some ((t170.set (a2_1 : Int).toNat (wrap64 ((rd t170 a2_1) - (shl .i64 1 a3)))), 0)) else (none)) else (none)) else (none)) else (some (([] : List Int), 1))) = some (r1, r2) := by rw [if_pos rfl] at H; exact H
    clear H
    have H := H1
    clear H1
    by_cases c15 : 1 = 0
    ·
     exact absurd c15 (by decide)
    ·
     rw [if_neg c15] at H
     have c15b0 : (1 == 0) = false := beq_eq_false_iff_ne.mpr c15
     have c15b1 : (1 != 0) = true := bne_iff_ne.mpr c15
     simp only [Option.some.injEq, Prod.mk.injEq] at H
     obtain ⟨rfl, rfl⟩ := H
     go_wp2
     go_ret2
     exact ⟨_, by first | rfl | (simp [errW_none, errW_some] <;> rfl) | (simp [*, errW_none, errW_some] <;> rfl), by first | exact Kd.R_nil _ _ _ _ _ | exact Kd.N_nil _ _ _ _ _ | exact Kd.V_nil _ _ _ _ _ | exact Kd.Q_nil _ _ _ _ _ | exact Kd.S_nil _ _ _ _ _, by repeat (first | (with_reducible first | exact HB.out | apply zzA | apply zzN | apply zzD | refine below_set ?_ GE169.out) | exact HB.out)⟩
   ·
    replace c14 := Bool.eq_false_iff.mpr c14
    subst c14
    have H1 : (if t171 = 0 then (if 0 ≤ a2_1 then (if a2_1 < (t170.length : Int) then (if 0 ≤ a3 then (some ((t170.set (a2_1 : Int).toNat (wrap64 ((rd t170 a2_1) - (shl .i64 1 a3)))), 0)) else (none)) else (none)) else (none)) else (some (([] : List Int), t171))) = some (r1, r2) := by rw [if_neg (show ¬ (false = true) by decide)] at H; exact H
    clear H
    have H := H1
    clear H1
    by_cases c24 : t171 = 0
    ·
     rw [if_pos c24] at H
     have c24b0 : (t171 == 0) = true := beq_iff_eq.mpr c24
     have c24b1 : (t171 != 0) = false := bne_eq_false_iff_eq.mpr c24
     clear c24
     by_cases c25 : 0 ≤ a2_1
     ·
      rw [if_pos c25] at H
      have c25b0 : decide (0 ≤ a2_1) = true := decide_eq_true c25
      clear c25
      by_cases c26 : a2_1 < (t170.length : Int)
      ·
       rw [if_pos c26] at H
       have c26b0 : decide (a2_1 < (t170.length : Int)) = true := decide_eq_true c26
       clear c26
       by_cases c27 : 0 ≤ a3
       ·
        rw [if_pos c27] at H
        have c27b0 := eq_true c27
        have c27b1 : decide (0 ≤ a3) = true := decide_eq_true c27
        clear c27
        obtain ⟨ji28, hji28⟩ : ∃ j_ : Int, (shl .i64 1 a3) = j_ := ⟨_, rfl⟩
        replace H : (some ((t170.set (a2_1 : Int).toNat (wrap64 ((rd t170 a2_1) - (ji28)))), 0)) = some (r1, r2) := by first | (rw [hji28] at H; exact H) | (simp only [hji28] at H ⊢; exact H)
        have hji28_ : (IntKind.i64.wrap (1 * 2 ^ min a3.toNat 64)) = ji28 := hji28
        have hji28z : a3 ≤ 64 → (IntKind.i64.wrap (1 * 2 ^ a3.toNat)) = ji28 := shl_small hji28
        have hji28u : (IntKind.i64.wrap (2 ^ min a3.toNat 64)) = ji28 := by have h_ := hji28_; rw [Int.one_mul] at h_; exact h_
        have hji28v : a3 ≤ 64 → (IntKind.i64.wrap (2 ^ a3.toNat)) = ji28 := fun hle_ => by have h_ := hji28z hle_; rw [Int.one_mul] at h_; exact h_
        have hji28y : (wrap64 (1 * 2 ^ min a3.toNat 64)) = ji28 := (i64_w _).symm.trans hji28_
        have hji28x : a3 ≤ 64 → (wrap64 (1 * 2 ^ a3.toNat)) = ji28 := fun h_ => (i64_w _).symm.trans (hji28z h_)
        obtain ⟨y177, hy177⟩ : ∃ y_ : List Int, y_ = (t170.set (a2_1 : Int).toNat (wrap64 ((rd t170 a2_1) - (ji28)))) := ⟨_, rfl⟩
        replace H : (some (y177, 0)) = some (r1, r2) := by first | (rw [hy177]; with_reducible exact H) | (have H2_ := (Option.bind_some _ _).symm.trans H; rw [hy177]; with_reducible exact H2_) | (have H2_ := (Option.bind_some _ _).symm.trans H; with_reducible exact H2_) | with_reducible exact H | (rw [hy177]; exact H) | exact H
        have Ny177 := Aside0.mk hy177
        clear hy177
        simp only [Option.some.injEq, Prod.mk.injEq] at H
        obtain ⟨rfl, rfl⟩ := H
        try go_wp2
        have n0_ := Aside0.mk (rrD HO_10.out)
        have n1_ := Aside0.mk (kkD BK169.out)
        have n2_ := Aside0.mk (zzD HB.out)
        clear HO_10
        clear BK169
        clear HB
        have HO_10 := n0_
        have BK169 := n1_
        have HB := n2_
        clear n0_ n1_ n2_
        obtain ⟨Ao31, co31, eo31⟩ := Kd.R_slice HO_10.out
        (first | subst eo31 | (injection eo31 with f1_ f2_ f3_; have f4_ := f1_.symm; have f5_ := f3_.symm; clear f1_ f2_ f3_; subst f4_; subst f5_))
        have p176 : 0 ≤ (a2_1 : Int) := of_decide_eq_true (by first | (with_reducible assumption) | assumption)
        have q176 : a2_1 < (t170.length : Int) := of_decide_eq_true (by first | (with_reducible assumption) | assumption)
        obtain ⟨ad176, e176, hx176_0⟩ := Kd.at_int (Kd.R_reads' HO_10.out).2.2 a2_1 p176 q176
        cases e176
        replace p176 := eq_true p176
        replace q176 := eq_true q176
        have p29 : 0 ≤ (a2_1 : Int) := of_decide_eq_true (by first | (with_reducible assumption) | assumption)
        have q29 : (a2_1 : Int) < ((t170.length : Int) : Int) := of_decide_eq_true (by first | (with_reducible assumption) | assumption)
        obtain ⟨go29, co29, eo29, gb29, gl29, cl29, HG29⟩ := Kd.R_form HO_10.out (by omega)
        (first | cases eo29 | (injection eo29 with ea_ en_ ec_; (first | subst ea_ | (injection ea_ with ea_; subst ea_)); subst ec_; clear en_))
        have GB29 := Aside0.mk gb29
        have GG29 := Aside0.mk HG29
        clear gb29 gl29 HG29
        (first | simp only [add_plain] at hx176_0 | skip)
        obtain ⟨hx29_0, hf29_0⟩ := Kd.R_celln 0 HO_10.out (a2_1 : Int) p29 q29
        replace p29 := eq_true p29
        replace q29 := eq_true q29
        have HP32 := Kd.R_putn HO_10.out (a2_1 : Int) (wrap64 ((rd t170 a2_1) - (ji28)))
        rw [← Ny177.out] at HP32
        have HQ32 := Aside0.mk HP32
        clear HP32
        refine start_ (n := 10) (S := fun w' => w'.cell? ⟨gb169, 0, none⟩ = some (.slice A2_0 l2_0.length c2_0) ∧ w'.cell? ⟨gb169, 1, none⟩ = some (.int .i64 a2_1) ∧ w'.cell? ⟨go29, (a2_1).toNat, none⟩ = some (.int .i64 (rd t170 a2_1))) (ds := [9]) #[false, false, false, false, false, false, false, false, false, false] (by kernel_rfl) rfl rfl ⟨(blk_cell BK169.out 0).trans rfl, (blk_cell BK169.out 1).trans rfl, hx176_0⟩ (fun hHeld => ?_); refine with_tabW soft_OffP.tab6 soft_OffP.bits6 (fun HT_ HW_ => ?_)
        generalize wc.drew = w30 at HO_10 BK169 HB GG29 HQ32 hf29_0 hx176_0 hx29_0 hHeld ⊢
        refine pure_ (i := 0) (N := some 37) (v := ?_) (a' := ?_) #[true, false, false, false, false, false, false, false, false, false] rfl rfl (any_of HT_.out (by kernel_rfl)) (fun _ _ _ h => h) (Or.inl ⟨by rfl, ?_⟩) ?_ ?_
        rotate_left
        ·
         intro w'
         go_simp
         with_reducible rfl
        rotate_left
        ·
         simp only [Act.put, List.setIfInBounds_toArray, List.set_cons_zero, List.set_cons_succ, i64_w, i32_w]
         rfl
        refine pure_ (i := 1) (N := some 38) (v := ?_) (a' := ?_) #[true, true, false, false, false, false, false, false, false, false] rfl rfl (any_of HT_.out (by kernel_rfl)) (fun _ _ _ h => h) (Or.inl ⟨by rfl, ?_⟩) ?_ ?_
        rotate_left
        ·
         intro w'
         go_simp
         with_reducible rfl
        rotate_left
        ·
         simp only [Act.put, List.setIfInBounds_toArray, List.set_cons_zero, List.set_cons_succ, i64_w, i32_w]
         rfl
        refine pure_ (i := 5) (N := some 42) (v := ?_) (a' := ?_) #[true, true, false, false, false, true, false, false, false, false] rfl rfl (any_of HT_.out (by kernel_rfl)) (fun _ _ _ h => h) (Or.inl ⟨by rfl, ?_⟩) ?_ ?_
        rotate_left
        ·
         intro w'
         go_simp
         with_reducible rfl
        rotate_left
        ·
         simp only [Act.put, List.setIfInBounds_toArray, List.set_cons_zero, List.set_cons_succ, i64_w, i32_w]
         rfl
        refine pure_ (i := 6) (N := some 43) (v := ?_) (a' := ?_) #[true, true, false, false, false, true, true, false, false, false] rfl rfl (any_of HT_.out (by kernel_rfl)) (fun _ _ _ h => h) (Or.inl ⟨by rfl, ?_⟩) ?_ ?_
        rotate_left
        ·
         intro w'
         go_simp
         with_reducible rfl
        rotate_left
        ·
         simp only [Act.put, List.setIfInBounds_toArray, List.set_cons_zero, List.set_cons_succ, i64_w, i32_w]
         rfl
        refine take_ (i := 2) (N := some 39) (v := ?_) (a' := ?_) #[true, true, true, false, false, true, true, false, false, false] rfl rfl (take_ofW HT_.out HW_.out (by kernel_rfl)) (fun _ _ _ h => h) (Or.inl ⟨by rfl, ?_⟩) hHeld ?_ ?_
        rotate_left
        ·
         rintro w' ⟨s0, s1, s2⟩
         go_simp
         with_reducible rfl
        rotate_left
        ·
         simp only [Act.put, List.setIfInBounds_toArray, List.set_cons_zero, List.set_cons_succ, i64_w, i32_w]
         rfl
        refine pure_ (i := 3) (N := some 40) (v := ?_) (a' := ?_) #[true, true, true, true, false, true, true, false, false, false] rfl rfl (any_of HT_.out (by kernel_rfl)) (fun _ _ _ h => h) (Or.inl ⟨by rfl, ?_⟩) ?_ ?_
        rotate_left
        ·
         intro w'
         go_simp
         with_reducible rfl
        rotate_left
        ·
         simp only [Act.put, List.setIfInBounds_toArray, List.set_cons_zero, List.set_cons_succ, i64_w, i32_w]
         rfl
        refine take_ (i := 4) (N := some 41) (v := ?_) (a' := ?_) #[true, true, true, true, true, true, true, false, false, false] rfl rfl (take_ofW HT_.out HW_.out (by kernel_rfl)) (fun _ _ _ h => h) (Or.inl ⟨by rfl, ?_⟩) hHeld ?_ ?_
        rotate_left
        ·
         rintro w' ⟨s0, s1, s2⟩
         go_simp
         with_reducible rfl
        rotate_left
        ·
         simp only [Act.put, List.setIfInBounds_toArray, List.set_cons_zero, List.set_cons_succ, i64_w, i32_w]
         rfl
        refine pure_ (i := 7) (N := some 44) (v := ?_) (a' := ?_) #[true, true, true, true, true, true, true, true, false, false] rfl rfl (any_of HT_.out (by kernel_rfl)) (fun _ _ _ h => h) (Or.inl ⟨by rfl, ?_⟩) ?_ ?_
        rotate_left
        ·
         intro w'
         go_simp
         with_reducible rfl
        rotate_left
        ·
         simp only [Act.put, List.setIfInBounds_toArray, List.set_cons_zero, List.set_cons_succ, i64_w, i32_w]
         rfl
        refine pure_ (i := 8) (N := some 45) (v := ?_) (a' := ?_) #[true, true, true, true, true, true, true, true, true, false] rfl rfl (any_of HT_.out (by kernel_rfl)) (fun _ _ _ h => h) (Or.inl ⟨by rfl, ?_⟩) ?_ ?_
        rotate_left
        ·
         intro w'
         go_simp
         with_reducible rfl
        rotate_left
        ·
         simp only [Act.put, List.setIfInBounds_toArray, List.set_cons_zero, List.set_cons_succ, i64_w, i32_w]
         rfl
        refine last_ (i := 9) (N := none) #[true, true, true, true, true, true, true, true, true, true] rfl rfl (one_of HT_.out (by kernel_rfl)) (by decide) (fun K hK => ?_)
        refine skip_ (w1 := ?_) (by rfl) rfl ?_ ?_
        rotate_left
        ·
         go_simp
         rfl
        refine hK.out _ _ ?_
        clear hK K
        refine done_ (done_of HT_.out (by kernel_rfl)) ?_
        try go_wp2
        go_ret2
        exact ⟨_, by first | rfl | (simp [errW_none, errW_some] <;> rfl) | (simp only [← hji28]; first | rfl | (simp [errW_none, errW_some] <;> rfl)) | (simp [*, errW_none, errW_some] <;> rfl), by (with_reducible repeat (first | apply rrA | apply rrN | apply rrD)); exact HQ32.out, by repeat (first | (with_reducible first | exact HB.out | apply zzA | apply zzN | apply zzD | refine below_set ?_ GB29.out | refine below_set ?_ GE169.out) | exact HB.out)⟩
       ·
        rw [if_neg c27] at H
        exact absurd H (by simp)
      ·
       rw [if_neg c26] at H
       exact absurd H (by simp)
     ·
      rw [if_neg c25] at H
      exact absurd H (by simp)
    ·
     rw [if_neg c24] at H
     have c24b0 : (t171 == 0) = false := beq_eq_false_iff_ne.mpr c24
     have c24b1 : (t171 != 0) = true := bne_iff_ne.mpr c24
     simp only [Option.some.injEq, Prod.mk.injEq] at H
     obtain ⟨rfl, rfl⟩ := H
     go_wp2
     go_ret2
     exact ⟨_, by first | rfl | (simp [errW_none, errW_some] <;> rfl) | (simp [*, errW_none, errW_some] <;> rfl), by first | exact Kd.R_nil _ _ _ _ _ | exact Kd.N_nil _ _ _ _ _ | exact Kd.V_nil _ _ _ _ _ | exact Kd.Q_nil _ _ _ _ _ | exact Kd.S_nil _ _ _ _ _, by repeat (first | (with_reducible first | exact HB.out | apply zzA | apply zzN | apply zzD | refine below_set ?_ GE169.out) | exact HB.out)⟩

def soft_Off.f (a0 : Int) (l1 l2_0 : List Int) (a2_1 a3 : Int) : Option (List Int × Int) := if V64 l1 ∧ V64 l2_0 then some (offS a0 l1 l2_0 a2_1 a3) else none
theorem soft_Off.of (a0 : Int) (l1 l2_0 : List Int) (a2_1 a3 : Int)  (h_ : V64 l1 ∧ V64 l2_0) : soft_Off.f a0 l1 l2_0 a2_1 a3 = some (offS a0 l1 l2_0 a2_1 a3) := if_pos h_
theorem soft_OffP.is (o : Int) (w x : List Int) (y f : Int) (hw : V64 w) (hx : V64 x) : soft_OffP.f 1 o w x y f = some (offS o w x y f) := by
  unfold soft_OffP.f offS
  rw [soft_Tell.of _ _ _ _ ⟨hw, hx⟩, Option.bind_some]
  by_cases c : (tellS o w x f).2 = 0
  · rw [if_pos c, if_pos c]
    obtain ⟨-, -, -, hl, ho2, ho8, hf0, hf1⟩ := tellS_ok c
    by_cases c1 : y < 0
    · rw [if_pos c1, soft_OffP.j0, if_pos rfl, if_neg (by decide), if_pos (.inl c1)]
    · rw [if_neg c1, soft_OffP.j0]
      by_cases c2 : y ≥ o
      · rw [if_pos (decide_eq_true c2), if_neg (by decide), if_pos (.inr c2)]
      · rw [if_neg (by simpa using c2), if_pos c, if_pos (by omega), if_pos (by omega), if_pos hf0, if_neg (show ¬ (y < 0 ∨ y ≥ o) by omega), shl_i64 f (by omega)]
  · rw [if_neg c, if_neg c, soft_OffP.j0, if_neg (by decide), if_neg c]
theorem soft_Off.calls (a0 : Int) (A1 : Option Addr) (c1 : Nat) (l1 : List Int) (A2_0 : Option Addr) (c2_0 : Nat) (l2_0 : List Int) (a2_1 : Int) (a3 : Int) (r1 : List Int) (r2 : Int) (w : World) (hr1 : Kd.C (Kd.int .i64) w A1 l1.length l1) (hc1 : l1.length ≤ c1) (hr2_0 : Kd.C (Kd.int .i64) w A2_0 l2_0.length l2_0) (hc2_0 : l2_0.length ≤ c2_0) (h : soft_Off.f a0 l1 l2_0 a2_1 a3 = some (r1, r2)) :
    Calls Try.prog 80 #[.int .i64 a0, .slice A1 l1.length c1, .agg #[.slice A2_0 l2_0.length c2_0, .int .i64 a2_1], .int .i64 a3] w fun e w' => ∃ v0_ : Value, e = .returned (.tuple #[v0_, .int .i64 r2]) ∧ Kd.R (Kd.int .i64) 2 w' w.heap.size (fun _ => True) v0_ r1 ∧ Below w.heap.size w w' := by
  unfold soft_Off.f at h
  split at h
  case isFalse => cases h
  rename_i hv
  exact soft_OffP.calls 1 a0 A1 c1 l1 A2_0 c2_0 l2_0 a2_1 a3 r1 r2 w hr1 hc1 hr2_0 hc2_0 ((soft_OffP.is a0 l1 l2_0 a2_1 a3 hv.1 hv.2).trans h)


/-! ### soft_Dim: function 82 -/
def soft_Dim.f (a0 : Int) (a1 : Int) : Option (Int × Int) := (linear_Dim.f a0).bind fun bt178 => (if bt178.2 = 0 then ((soft_classes.f a1).bind fun t180 => (if t180 = true then (some (wrap64 (bt178.1 * a1), 0)) else (some (0, 1)))) else (some (0, 1)))
set_option maxHeartbeats 8000000 in
set_option maxRecDepth 100000 in
theorem soft_Dim.calls (a0 : Int) (a1 : Int) (r1 : Int) (r2 : Int) (w : World) (h : soft_Dim.f a0 a1 = some (r1, r2)) :
  Calls Try.prog 82 #[.int .i64 a0, .int .i64 a1] w fun e w' => e = .returned (.tuple #[.int .i64 r1, .int .i64 r2]) ∧ Drawn0 w w' := by
 have H : ((linear_Dim.f a0).bind fun bt178 => (if bt178.2 = 0 then ((soft_classes.f a1).bind fun t180 => (if t180 = true then (some (wrap64 (bt178.1 * a1), 0)) else (some (0, 1)))) else (some (0, 1)))) = some (r1, r2) := h
 clear h
 replace H := Option.bind_eq_some_iff.mp H
 obtain ⟨⟨t178, t179⟩, A30, H⟩ := H
 replace H : (if t179 = 0 then ((soft_classes.f a1).bind fun t180 => (if t180 = true then (some (wrap64 (t178 * a1), 0)) else (some (0, 1)))) else (some (0, 1))) = some (r1, r2) := H
 have A3 := Aside0.mk A30
 clear A30
 by_cases c4 : t179 = 0
 ·
  rw [if_pos c4] at H
  have c4b0 : (t179 == 0) = true := beq_iff_eq.mpr c4
  have c4b1 : (t179 != 0) = false := bne_eq_false_iff_eq.mpr c4
  clear c4
  replace H := Option.bind_eq_some_iff.mp H
  obtain ⟨t180, A50, H⟩ := H
  replace H : (if t180 = true then (some (wrap64 (t178 * a1), 0)) else (some (0, 1))) = some (r1, r2) := H
  have A5 := Aside0.mk A50
  clear A50
  by_cases c6 : t180 = true
  ·
   subst c6
   have H1 : (some (wrap64 (t178 * a1), 0)) = some (r1, r2) := by rw [if_pos rfl] at H; exact H
   clear H
   have H := H1
   clear H1
   simp only [Option.some.injEq, Prod.mk.injEq] at H
   obtain ⟨rfl, rfl⟩ := H
   go_enter Try.func82, Try.ntmps82
   go_wp2_with (first | ((with_reducible refine gate_callee (f := 67) rfl ?_); refine goesL_ (some 10) rfl rfl Try.func67 (by kernel_rfl) rfl #[.int .i64 a0] rfl (by (try simp only [List.map_toArray, List.map_cons, List.map_nil]); first | done | rfl | (simp only [List.length_drop, List.length_take]; rfl)) ?_; (with_reducible refine (linear_Dim.calls a0 t178 t179 _ A3.out).mono ?_); rintro e w' ⟨rfl, ⟨nd, rfl⟩⟩; refine ⟨_, rfl, ?_⟩) | (go_at_call 138; (with_reducible refine (soft_classes.calls a1 true _ A5.out).mono ?_); rintro e w' ⟨rfl, ⟨nd, rfl⟩⟩))
   go_ret2
   exact ⟨by first | rfl | (simp; done) | (simp [*]; done), by repeat (first | exact ddR _ | apply ddS)⟩
  ·
   replace c6 := Bool.eq_false_iff.mpr c6
   subst c6
   have H1 : (some (0, 1)) = some (r1, r2) := by rw [if_neg (show ¬ (false = true) by decide)] at H; exact H
   clear H
   have H := H1
   clear H1
   simp only [Option.some.injEq, Prod.mk.injEq] at H
   obtain ⟨rfl, rfl⟩ := H
   go_enter Try.func82, Try.ntmps82
   go_wp2_with (first | ((with_reducible refine gate_callee (f := 67) rfl ?_); refine goesL_ (some 10) rfl rfl Try.func67 (by kernel_rfl) rfl #[.int .i64 a0] rfl (by (try simp only [List.map_toArray, List.map_cons, List.map_nil]); first | done | rfl | (simp only [List.length_drop, List.length_take]; rfl)) ?_; (with_reducible refine (linear_Dim.calls a0 t178 t179 _ A3.out).mono ?_); rintro e w' ⟨rfl, ⟨nd, rfl⟩⟩; refine ⟨_, rfl, ?_⟩) | (go_at_call 138; (with_reducible refine (soft_classes.calls a1 false _ A5.out).mono ?_); rintro e w' ⟨rfl, ⟨nd, rfl⟩⟩))
   go_ret2
   exact ⟨by first | rfl | (simp; done) | (simp [*]; done), by repeat (first | exact ddR _ | apply ddS)⟩
 ·
  rw [if_neg c4] at H
  have c4b0 : (t179 == 0) = false := beq_eq_false_iff_ne.mpr c4
  have c4b1 : (t179 != 0) = true := bne_iff_ne.mpr c4
  simp only [Option.some.injEq, Prod.mk.injEq] at H
  obtain ⟨rfl, rfl⟩ := H
  go_enter Try.func82, Try.ntmps82
  go_wp2_with (first | ((with_reducible refine gate_callee (f := 67) rfl ?_); refine goesL_ (some 10) rfl rfl Try.func67 (by kernel_rfl) rfl #[.int .i64 a0] rfl (by (try simp only [List.map_toArray, List.map_cons, List.map_nil]); first | done | rfl | (simp only [List.length_drop, List.length_take]; rfl)) ?_; (with_reducible refine (linear_Dim.calls a0 t178 t179 _ A3.out).mono ?_); rintro e w' ⟨rfl, ⟨nd, rfl⟩⟩; refine ⟨_, rfl, ?_⟩))
  go_ret2
  exact ⟨by first | rfl | (simp; done) | (simp [*]; done), by repeat (first | exact ddR _ | apply ddS)⟩

-- NOT PRINTED: function 153 (api_Sample_153)

-- NOT PRINTED: function 111 (api_Sample_111)

-- NOT PRINTED: function 142 (soft_Check_1)

-- NOT PRINTED: function 143 (soft_Check_2)

end Go.Proofs.Ytfbdalnjijdknaa.HS
