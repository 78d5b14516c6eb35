/- What Go functions do, each as a plain Lean function with the same answers, and the proof of it, in every world: printed by the session's driver over the kit's print, with texts by hand. -/
import Derived.Test.YtgilbdpbfmpcpaaHSx0
import Derived.Test.YtgilbdpbfmpcpaaHSx1
import Derived.Test.YtgilbdpbfmpcpaaHSx8
import Derived.Test.YtgilbdpbfmpcpaaMini
namespace Go.Proofs.Ytgilbdpbfmpcpaa.HS
open Go.RowKit Go.Proofs.YtgilbdpbfmpcpaaW.PrintWords Go.Proofs.YtgilbdpbfmpcpaaW.PrintLast Go.Proofs.YtgilbdpbfmpcpaaW.PrintMore
attribute [local go_sem] max2_int min2_int max_two min_two max_three min_three max_four min_four   -- for this text's walks alone
open Go.Proofs.Ytgilbdpbfmpcpaa.Sp
attribute [local go_sem] Go.Proofs.Ytgilbdpbfmpcpaa.Sp.u64_not
set_option linter.unusedVariables false
set_option linter.unusedSimpArgs false

/-! ### thrumref15_RowsP: function 46 -/
mutual
def thrumref15_RowsP.j0 : Nat → Int → List Int → Bool → Option ((List (List Int)) × Int)
 | 0, _, _, _ => none
 | k + 1, x0, x1, x14 => if x14 = true then (some (([] : List (List Int)), 1)) else (if x0 = 0 then (none) else (if ((x1.length : Int) % x0) = 0 then (if (wrap64 ((x1.length : Int) / x0)) < 2 then (thrumref15_RowsP.j1 k x0 x1 (wrap64 ((x1.length : Int) / x0)) true) else (thrumref15_RowsP.j1 k x0 x1 (wrap64 ((x1.length : Int) / x0)) (decide ((wrap64 ((x1.length : Int) / x0)) > 17)))) else (thrumref15_RowsP.j1 k x0 x1 (wrap64 ((x1.length : Int) / x0)) true)))
def thrumref15_RowsP.j1 : Nat → Int → List Int → Int → Bool → Option ((List (List Int)) × Int)
 | 0, _, _, _, _ => none
 | k + 1, x0, x1, x6, x31 => if x31 = true then (some (([] : List (List Int)), 4)) else (thrumref15_RowsP.l0 k x1 x6 ([] : List (List Int)) x0 0)
def thrumref15_RowsP.l0 : Nat → List Int → Int → List (List Int) → Int → Int → Option ((List (List Int)) × Int)
 | 0, _, _, _, _, _ => none
 | k + 1, x1, x6, x7, x32, x33 => if x33 < x32 then (if 0 ≤ (wrap64 (x33 * x6)) then (if (wrap64 (x33 * x6)) ≤ (wrap64 ((wrap64 (x33 + 1)) * x6)) then (if (wrap64 ((wrap64 (x33 + 1)) * x6)) ≤ (x1.length : Int) then (if ([] : List Int).length + ((x1.take ((wrap64 ((wrap64 (x33 + 1)) * x6)) : Int).toNat).drop ((wrap64 (x33 * x6)) : Int).toNat).length < 17592186044416 then (if x7.length < 5864062014805 then (thrumref15_RowsP.l0 k x1 x6 (x7 ++ [(([] : List Int) ++ ((x1.take ((wrap64 ((wrap64 (x33 + 1)) * x6)) : Int).toNat).drop ((wrap64 (x33 * x6)) : Int).toNat))]) x32 (wrap64 (x33 + 1))) else (none)) else (none)) else (none)) else (none)) else (none)) else (some (x7, 0))
end
def thrumref15_RowsP.f (k : Nat) (a0 : Int) (l1 : List Int) : Option ((List (List Int)) × Int) := if a0 < 2 then (thrumref15_RowsP.j0 k a0 l1 true) else (thrumref15_RowsP.j0 k a0 l1 (decide (a0 > 8)))
theorem thrumref15_RowsP.mono_l : ∀ k, (∀ y0 y1 y2, LeO (thrumref15_RowsP.j0 k y0 y1 y2) (thrumref15_RowsP.j0 (k + 1) y0 y1 y2)) ∧ (∀ y0 y1 y2 y3, LeO (thrumref15_RowsP.j1 k y0 y1 y2 y3) (thrumref15_RowsP.j1 (k + 1) y0 y1 y2 y3)) ∧ (∀ y0 y1 y2 y3 y4, LeO (thrumref15_RowsP.l0 k y0 y1 y2 y3 y4) (thrumref15_RowsP.l0 (k + 1) y0 y1 y2 y3 y4))
 | 0 => ⟨fun _ _ _ r h => by simp [thrumref15_RowsP.j0] at h, fun _ _ _ _ r h => by simp [thrumref15_RowsP.j1] at h, fun _ _ _ _ _ r h => by simp [thrumref15_RowsP.l0] at h⟩
 | k + 1 => by
  obtain ⟨ih0, ih1, ih2⟩ := thrumref15_RowsP.mono_l k
  refine ⟨?_, ?_, ?_⟩
  ·
   intro y0 y1 y2
   unfold thrumref15_RowsP.j0
   repeat' first
   | (with_reducible exact ih0 _ _ _)
   | (with_reducible exact ih1 _ _ _ _)
   | (with_reducible exact ih2 _ _ _ _ _)
   | (with_reducible exact LeO.refl _)
   | (with_reducible exact LeO.none _)
   | (with_reducible refine LeO.ite ?_ ?_)
   | (with_reducible refine LeO.bind ?_ (fun _ => ?_))
  ·
   intro y0 y1 y2 y3
   unfold thrumref15_RowsP.j1
   repeat' first
   | (with_reducible exact ih0 _ _ _)
   | (with_reducible exact ih1 _ _ _ _)
   | (with_reducible exact ih2 _ _ _ _ _)
   | (with_reducible exact LeO.refl _)
   | (with_reducible exact LeO.none _)
   | (with_reducible refine LeO.ite ?_ ?_)
   | (with_reducible refine LeO.bind ?_ (fun _ => ?_))
  ·
   intro y0 y1 y2 y3 y4
   unfold thrumref15_RowsP.l0
   repeat' first
   | (with_reducible exact ih0 _ _ _)
   | (with_reducible exact ih1 _ _ _ _)
   | (with_reducible exact ih2 _ _ _ _ _)
   | (with_reducible exact LeO.refl _)
   | (with_reducible exact LeO.none _)
   | (with_reducible refine LeO.ite ?_ ?_)
   | (with_reducible refine LeO.bind ?_ (fun _ => ?_))
theorem thrumref15_RowsP.mono : ∀ a0 a1 k, LeO (thrumref15_RowsP.f k a0 a1) (thrumref15_RowsP.f (k + 1) a0 a1) := by
 intro a0 a1 k
 obtain ⟨ih0, ih1, ih2⟩ := thrumref15_RowsP.mono_l k
 unfold thrumref15_RowsP.f
 repeat' first
   | (with_reducible exact ih0 _ _ _)
   | (with_reducible exact ih1 _ _ _ _)
   | (with_reducible exact ih2 _ _ _ _ _)
   | (with_reducible exact LeO.refl _)
   | (with_reducible exact LeO.none _)
   | (with_reducible refine LeO.ite ?_ ?_)
   | (with_reducible refine LeO.bind ?_ (fun _ => ?_))
set_option maxHeartbeats 8000000 in
set_option maxRecDepth 100000 in
theorem thrumref15_RowsP.calls (k : Nat) (a0 : Int) (A1 : Option Addr) (c1 : Nat) (l1 : List Int) (r1 : List (List Int)) (r2 : Int) (w : World) (hr1 : Kd.C (Kd.int .i64) w A1 l1.length l1) (hc1 : l1.length ≤ c1) (h : thrumref15_RowsP.f k a0 l1 = some (r1, r2)) :
  Calls Try.prog 46 #[.int .i64 a0, .slice A1 l1.length c1] w fun e w' => ∃ v0_ : Value, e = .returned (.tuple #[v0_, .int .i64 r2]) ∧ Kd.S (Kd.slice 2 (Kd.int .i64)) 22 w' w.heap.size (fun _ => True) v0_ r1 ∧ Below w.heap.size w w' := by
 have HR1 := ZM hr1
 have HC1 := ZM hc1
 clear hr1 hc1
 have HB := ZM (Below.refl w.heap.size w)
 have H : (if a0 < 2 then (thrumref15_RowsP.j0 k a0 l1 true) else (thrumref15_RowsP.j0 k a0 l1 (decide (a0 > 8)))) = some (r1, r2) := h
 clear h
 have HC3 := ZM H
 clear H
 go_enter Try.func46, Try.ntmps46
 go_upto_region 1 with (fail)
 go_cut [14] (fun v14 wc => ∃ (kq : Nat) (x14_2 : Bool), v14 = .bool x14_2 ∧ Aside0 (thrumref15_RowsP.j0 kq a0 l1 x14_2 = some (r1, r2)) ∧ Aside0 (kq ≤ k) ∧ Aside0 (Below w.heap.size w wc))
 case first =>
  have H := HC3.out
  clear HC3
  by_cases c4 : a0 < 2
  case neg =>
   rw [if_neg c4] at H
   have c4b0 : decide (a0 < 2) = false := decide_eq_false c4
   clear c4
   (first | rw [c4b0] | (simp only [i64_w, i32_w]; rw [c4b0]) | skip)
   have H' := ZM H
   clear H
   go_wp2
   go_meet
   case rel => exact ⟨_, (decide (a0 > 8)), Z4, H', ⟨by first | omega | exact Nat.le_refl _⟩, ⟨by repeat (first | (with_reducible first | exact HB.out | apply zzA | apply zzN | apply zzD) | exact HB.out)⟩⟩
  rw [if_pos c4] at H
  have c4b0 : decide (a0 < 2) = true := decide_eq_true c4
  clear c4
  (first | rw [c4b0] | (simp only [i64_w, i32_w]; rw [c4b0]) | skip)
  have H' := ZM H
  clear H
  go_wp2
  go_meet
  case rel => exact ⟨_, (true), Z4, H', ⟨by first | omega | exact Nat.le_refl _⟩, ⟨by repeat (first | (with_reducible first | exact HB.out | apply zzA | apply zzN | apply zzD) | exact HB.out)⟩⟩
 clear HC3
 try clear c1
 try clear p2
 try clear c4
 try clear c4b0
 obtain ⟨kq, x14_2, rfl, HA, HJ2, HB⟩ := hcut
 cases kq with
 | zero => exact absurd HA.out (by simp [thrumref15_RowsP.j0])
 | succ kj2 =>
  have H := HA.out
  clear HA
  simp only [thrumref15_RowsP.j0] at H
  by_cases c5 : x14_2 = true
  ·
   subst c5
   have H1 : (some (([] : List (List Int)), 1)) = some (r1, r2) := by rw [if_pos rfl] at H; exact H
   clear H
   have H := H1
   clear H1
   simp only [Option.some.injEq, Prod.mk.injEq] at H
   obtain ⟨rfl, rfl⟩ := H
   go_wp2
   go_ret2
   exact ⟨_, by first | rfl | (simp [errW_none, errW_some] <;> rfl) | (simp [*, errW_none, errW_some] <;> rfl), by first | exact Kd.S_nil _ _ _ _ _ | exact Kd.N_nil _ _ _ _ _ | exact Kd.V_nil _ _ _ _ _ | exact Kd.Q_nil _ _ _ _ _ | exact Kd.R_nil _ _ _ _ _, by repeat (first | (with_reducible first | exact HB.out | apply zzA | apply zzN | apply zzD) | exact HB.out)⟩
  replace c5 := Bool.eq_false_iff.mpr c5
  subst c5
  have H1 : (if a0 = 0 then (none) else (if ((l1.length : Int) % a0) = 0 then (if (wrap64 ((l1.length : Int) / a0)) < 2 then (thrumref15_RowsP.j1 kj2 a0 l1 (wrap64 ((l1.length : Int) / a0)) true) else (thrumref15_RowsP.j1 kj2 a0 l1 (wrap64 ((l1.length : Int) / a0)) (decide ((wrap64 ((l1.length : Int) / a0)) > 17)))) else (thrumref15_RowsP.j1 kj2 a0 l1 (wrap64 ((l1.length : Int) / a0)) true))) = some (r1, r2) := by rw [if_neg (show ¬ (false = true) by decide)] at H; exact H
  clear H
  have H := H1
  clear H1
  by_cases c6 : a0 = 0
  ·
   rw [if_pos c6] at H
   exact absurd H (by simp)
  rw [if_neg c6] at H
  have c6b0 : (a0 == 0) = false := beq_eq_false_iff_ne.mpr c6
  have c6b1 : (a0 != 0) = true := bne_iff_ne.mpr c6
  have HC7 := ZM H
  clear H
  go_upto_region 4 with (fail)
  go_cut [31] (fun v31 wc => ∃ (kq : Nat) (x31_6 : Bool), v31 = .bool x31_6 ∧ Aside0 (thrumref15_RowsP.j1 kq a0 l1 (wrap64 ((l1.length : Int) / a0)) x31_6 = some (r1, r2)) ∧ Aside0 (kq ≤ kj2) ∧ Aside0 (Below w.heap.size w wc))
  case first =>
   have H := HC7.out
   clear HC7
   by_cases c8 : ((l1.length : Int) % a0) = 0
   case neg =>
    rw [if_neg c8] at H
    have c8b0 : (((l1.length : Int) % a0) == 0) = false := beq_eq_false_iff_ne.mpr c8
    have c8b1 : (((l1.length : Int) % a0) != 0) = true := bne_iff_ne.mpr c8
    (first | rw [c8b0] | (simp only [i64_w, i32_w]; rw [c8b0]) | skip)
    have H' := ZM H
    clear H
    go_wp2
    go_meet
    case rel => exact ⟨_, (true), Z4, H', ⟨by have := HJ2.out; first | omega | exact Nat.le_refl _⟩, ⟨by repeat (first | (with_reducible first | exact HB.out | apply zzA | apply zzN | apply zzD) | exact HB.out)⟩⟩
   rw [if_pos c8] at H
   have c8b0 : (((l1.length : Int) % a0) == 0) = true := beq_iff_eq.mpr c8
   have c8b1 : (((l1.length : Int) % a0) != 0) = false := bne_eq_false_iff_eq.mpr c8
   clear c8
   (first | rw [c8b0] | (simp only [i64_w, i32_w]; rw [c8b0]) | skip)
   by_cases c9 : (wrap64 ((l1.length : Int) / a0)) < 2
   case neg =>
    rw [if_neg c9] at H
    have c9b0 : decide ((wrap64 ((l1.length : Int) / a0)) < 2) = false := decide_eq_false c9
    clear c9
    have H' := ZM H
    clear H
    go_wp2
    go_meet
    case rel => exact ⟨_, (decide ((wrap64 ((l1.length : Int) / a0)) > 17)), Z4, H', ⟨by have := HJ2.out; first | omega | exact Nat.le_refl _⟩, ⟨by repeat (first | (with_reducible first | exact HB.out | apply zzA | apply zzN | apply zzD) | exact HB.out)⟩⟩
   rw [if_pos c9] at H
   have c9b0 : decide ((wrap64 ((l1.length : Int) / a0)) < 2) = true := decide_eq_true c9
   clear c9
   have H' := ZM H
   clear H
   go_wp2
   go_meet
   case rel => exact ⟨_, (true), Z4, H', ⟨by have := HJ2.out; first | omega | exact Nat.le_refl _⟩, ⟨by repeat (first | (with_reducible first | exact HB.out | apply zzA | apply zzN | apply zzD) | exact HB.out)⟩⟩
  clear HC7
  try clear c1
  try clear p2
  try clear c4
  try clear c4b0
  try clear c5
  try clear c6
  try clear c6b0
  try clear c6b1
  try clear p6
  try clear c8
  try clear c8b0
  try clear c8b1
  try clear c9
  try clear c9b0
  try clear p2
  obtain ⟨kq, x31_6, rfl, HA, HJ6, HB⟩ := hcut
  cases kq with
  | zero => exact absurd HA.out (by simp [thrumref15_RowsP.j1])
  | succ kj6 =>
   have H := HA.out
   clear HA
   simp only [thrumref15_RowsP.j1] at H
   by_cases c10 : x31_6 = true
   ·
    subst c10
    have H1 : (some (([] : List (List Int)), 4)) = some (r1, r2) := by rw [if_pos rfl] at H; exact H
    clear H
    have H := H1
    clear H1
    simp only [Option.some.injEq, Prod.mk.injEq] at H
    obtain ⟨rfl, rfl⟩ := H
    go_wp2
    go_ret2
    exact ⟨_, by first | rfl | (simp [errW_none, errW_some] <;> rfl) | (simp [*, errW_none, errW_some] <;> rfl), by first | exact Kd.S_nil _ _ _ _ _ | exact Kd.N_nil _ _ _ _ _ | exact Kd.V_nil _ _ _ _ _ | exact Kd.Q_nil _ _ _ _ _ | exact Kd.R_nil _ _ _ _ _, by repeat (first | (with_reducible first | exact HB.out | apply zzA | apply zzN | apply zzD) | exact HB.out)⟩
   replace c10 := Bool.eq_false_iff.mpr c10
   subst c10
   have H1 : (thrumref15_RowsP.l0 kj6 l1 (wrap64 ((l1.length : Int) / a0)) ([] : List (List Int)) a0 0) = some (r1, r2) := by rw [if_neg (show ¬ (false = true) by decide)] at H; exact H
   clear H
   have H := H1
   clear H1
   have H' := ZM H
   clear H
   go_wp2
   go_loopg [7, 33] kj6 (fun kq v7 v33 w' => ∃ (x7_3 : List (List Int)) (x33_3 : Int), v33 = .int .i64 x33_3 ∧ Aside0 (thrumref15_RowsP.l0 kq l1 (wrap64 ((l1.length : Int) / a0)) x7_3 a0 x33_3 = some (r1, r2)) ∧ Aside0 (kq ≤ kj6) ∧ Aside0 (Kd.S (Kd.slice 2 (Kd.int .i64)) 22 w' w.heap.size (fun _ => True) v7 x7_3) ∧ Aside0 (Below w.heap.size w w'))
   case atStart => exact ⟨(([] : List (List Int))), (0), Z4, H', ⟨Nat.le_refl _⟩, ⟨by first | exact Kd.S_nil _ _ _ _ _ | exact Kd.N_nil _ _ _ _ _ | exact Kd.V_nil _ _ _ _ _ | exact Kd.Q_nil _ _ _ _ _ | exact Kd.R_nil _ _ _ _ _⟩, ⟨by repeat (first | (with_reducible first | exact HB.out | apply zzA | apply zzN | apply zzD) | exact HB.out)⟩⟩
   case round =>
    clear H'
    try clear c1
    try clear p2
    try clear c4
    try clear c4b0
    try clear c5
    try clear c6
    try clear c6b0
    try clear c6b1
    try clear p6
    try clear c8
    try clear c8b0
    try clear c8b1
    try clear c9
    try clear c9b0
    try clear c10
    try clear p2
    try clear p6
    obtain ⟨x7_3, x33_3, rfl, HA, HK3, HO_7, HB⟩ := hrel
    cases gk with
    | zero => exact absurd HA.out (by simp [thrumref15_RowsP.l0])
    | succ k3 =>
     have H := HA.out
     clear HA
     simp only [thrumref15_RowsP.l0] at H
     by_cases c11 : x33_3 < a0
     case neg =>
      rw [if_neg c11] at H
      have c11b0 : decide (x33_3 < a0) = false := decide_eq_false c11
      clear c11
      simp only [Option.some.injEq, Prod.mk.injEq] at H
      obtain ⟨rfl, rfl⟩ := H
      go_wp2
      go_ret2
      exact ⟨_, by first | rfl | (simp [errW_none, errW_some] <;> rfl) | (simp [*, errW_none, errW_some] <;> rfl), by (with_reducible repeat (first | apply Kd.S_alloc | apply Kd.S_drewN | apply Kd.S_drew)); exact HO_7.out, by repeat (first | (with_reducible first | exact HB.out | apply zzA | apply zzN | apply zzD) | exact HB.out)⟩
     rw [if_pos c11] at H
     have c11b0 : decide (x33_3 < a0) = true := decide_eq_true c11
     clear c11
     obtain ⟨ji12, hji12⟩ : ∃ j_ : Int, (wrap64 (x33_3 * (wrap64 ((l1.length : Int) / a0)))) = j_ := ⟨_, rfl⟩
     replace H : (if 0 ≤ (ji12) then (if (ji12) ≤ (wrap64 ((wrap64 (x33_3 + 1)) * (wrap64 ((l1.length : Int) / a0)))) then (if (wrap64 ((wrap64 (x33_3 + 1)) * (wrap64 ((l1.length : Int) / a0)))) ≤ (l1.length : Int) then (if ([] : List Int).length + ((l1.take ((wrap64 ((wrap64 (x33_3 + 1)) * (wrap64 ((l1.length : Int) / a0)))) : Int).toNat).drop ((ji12) : Int).toNat).length < 17592186044416 then (if x7_3.length < 5864062014805 then (thrumref15_RowsP.l0 k3 l1 (wrap64 ((l1.length : Int) / a0)) (x7_3 ++ [(([] : List Int) ++ ((l1.take ((wrap64 ((wrap64 (x33_3 + 1)) * (wrap64 ((l1.length : Int) / a0)))) : Int).toNat).drop ((ji12) : Int).toNat))]) a0 (wrap64 (x33_3 + 1))) else (none)) else (none)) else (none)) else (none)) else (none)) = some (r1, r2) := by first | (rw [hji12] at H; exact H) | (simp only [hji12] at H ⊢; exact H)
     have hji12w : (IntKind.i64.wrap (x33_3 * (wrap64 ((l1.length : Int) / a0)))) = ji12 := (i64_w _).trans hji12
     by_cases c13 : 0 ≤ (ji12)
     case neg =>
      rw [if_neg c13] at H
      exact absurd H (by simp)
     rw [if_pos c13] at H
     have c13b0 := eq_true c13
     have c13b1 : decide (0 ≤ (ji12)) = true := decide_eq_true c13
     clear c13
     by_cases c14 : (ji12) ≤ (wrap64 ((wrap64 (x33_3 + 1)) * (wrap64 ((l1.length : Int) / a0))))
     case neg =>
      rw [if_neg c14] at H
      exact absurd H (by simp)
     rw [if_pos c14] at H
     have c14b0 := eq_true c14
     have c14b1 : decide ((ji12) ≤ (wrap64 ((wrap64 (x33_3 + 1)) * (wrap64 ((l1.length : Int) / a0))))) = true := decide_eq_true c14
     by_cases c15 : (wrap64 ((wrap64 (x33_3 + 1)) * (wrap64 ((l1.length : Int) / a0)))) ≤ (l1.length : Int)
     case neg =>
      rw [if_neg c15] at H
      exact absurd H (by simp)
     rw [if_pos c15] at H
     have c15b0 := eq_true c15
     have c15b1 : decide ((wrap64 ((wrap64 (x33_3 + 1)) * (wrap64 ((l1.length : Int) / a0)))) ≤ (l1.length : Int)) = true := decide_eq_true c15
     by_cases c16 : ([] : List Int).length + ((l1.take ((wrap64 ((wrap64 (x33_3 + 1)) * (wrap64 ((l1.length : Int) / a0)))) : Int).toNat).drop ((ji12) : Int).toNat).length < 17592186044416
     case neg =>
      rw [if_neg c16] at H
      exact absurd H (by simp)
     rw [if_pos c16] at H
     have LMc16 := ZM c16
     clear c16
     obtain ⟨y262, hy262⟩ : ∃ y_ : List Int, y_ = (([] : List Int) ++ ((l1.take ((wrap64 ((wrap64 (x33_3 + 1)) * (wrap64 ((l1.length : Int) / a0)))) : Int).toNat).drop ((ji12) : Int).toNat)) := ⟨_, rfl⟩
     replace H : (if x7_3.length < 5864062014805 then (thrumref15_RowsP.l0 k3 l1 (wrap64 ((l1.length : Int) / a0)) (x7_3 ++ [y262]) a0 (wrap64 (x33_3 + 1))) else (none)) = some (r1, r2) := by first | (rw [hy262]; with_reducible exact H) | (have H2_ := (Option.bind_some _ _).symm.trans H; rw [hy262]; with_reducible exact H2_) | (have H2_ := (Option.bind_some _ _).symm.trans H; with_reducible exact H2_) | with_reducible exact H | (rw [hy262]; exact H) | exact H
     have Ny262 := ZM hy262
     clear hy262
     by_cases c17 : x7_3.length < 5864062014805
     case neg =>
      rw [if_neg c17] at H
      exact absurd H (by simp)
     rw [if_pos c17] at H
     have LMc17 := ZM c17
     clear c17
     obtain ⟨y265, hy265⟩ : ∃ y_ : List (List Int), y_ = (x7_3 ++ [y262]) := ⟨_, rfl⟩
     replace H : (thrumref15_RowsP.l0 k3 l1 (wrap64 ((l1.length : Int) / a0)) y265 a0 (wrap64 (x33_3 + 1))) = some (r1, r2) := by first | (rw [hy265]; with_reducible exact H) | (have H2_ := (Option.bind_some _ _).symm.trans H; rw [hy265]; with_reducible exact H2_) | (have H2_ := (Option.bind_some _ _).symm.trans H; with_reducible exact H2_) | with_reducible exact H | (rw [hy265]; exact H) | exact H
     have Ny265 := ZM hy265
     clear hy265
     have H' := ZM H
     clear H
     obtain ⟨i018, hi018, _, hsz18, _⟩ := info_parts info2
     obtain ⟨A18, hcut18, hA18, hC18⟩ := print_mid_of (P := Try.prog) (Value.int .i64) 0 22 2 .i64 .i64 Try.underlying22 hi018 hsz18 A1 c1 l1 (ji12) (wrap64 ((wrap64 (x33_3 + 1)) * (wrap64 ((l1.length : Int) / a0)))) (of_decide_eq_true Z3) (by first | omega | exact of_decide_eq_true Z3) (of_decide_eq_true Z3) HC1.out
     have HR261 := ZM (Kd.C_of_reads (h1 := fun _ => rfl) (hA18 _ (Kd.reads_of_C HR1.out)))
     have HC261 := ZM hC18
     clear hA18 hC18 hi018 hsz18
     go_wp2_with (first | ((with_reducible refine gate_builtin (b := .append) (xs := #[.const (.slice none 0 0), .tmp 45]) rfl ?_); at_builtin; refine Kd.R_append_rows (Kd.int .i64) (w0 := w) w.heap.size rfl (.const (.slice none 0 0)) (.tmp 45) 22 2 (.int .i64 0) 8 rfl Try.underlying22 info2 rfl (by decide) (by omega) (.slice none 0 0) ([] : List Int) ((l1.take ((wrap64 ((wrap64 (x33_3 + 1)) * (wrap64 ((l1.length : Int) / a0)))) : Int).toNat).drop ((ji12) : Int).toNat) _ _ _ (fun _ => True) (fun _ => False) rfl rfl ?aO ?aR (fun _ _ h => h) (fun _ h => h.elim) ?aF ?aB ?aS ?aL ?_; (case aR => first | (rw [← show ((l1.take ((wrap64 ((wrap64 (x33_3 + 1)) * (wrap64 ((l1.length : Int) / a0)))) : Int).toNat).drop ((ji12) : Int).toNat).length = ((wrap64 ((wrap64 (x33_3 + 1)) * (wrap64 ((l1.length : Int) / a0)))).toNat - (ji12).toNat) from (by rw [List.length_drop, List.length_take]; have h_ : ((wrap64 ((wrap64 (x33_3 + 1)) * (wrap64 ((l1.length : Int) / a0)))) : Int) ≤ (l1.length : Int) := of_decide_eq_true Z3; omega)]; repeat (first | exact (Kd.C_below HR261.out HB.out) | (with_reducible refine ccA ?_ _) | (with_reducible refine ccN ?_ _) | (with_reducible refine ccD ?_))) | (repeat (first | exact (Kd.C_below HR261.out HB.out) | (with_reducible refine ccA ?_ _) | (with_reducible refine ccN ?_ _) | (with_reducible refine ccD ?_)))); (case aB => exact Z1); (case aF => exact (fun _ _ => trivial)); (case aO => exact ((Kd.R_nil _ _ _ _ (fun _ => True)))); (case aS => exact (zzS Z1)); (case aL => have := LMc16.out; have hlx_ := (show ((l1.take ((wrap64 ((wrap64 (x33_3 + 1)) * (wrap64 ((l1.length : Int) / a0)))) : Int).toNat).drop ((ji12) : Int).toNat).length = ((wrap64 ((wrap64 (x33_3 + 1)) * (wrap64 ((l1.length : Int) / a0)))).toNat - (ji12).toNat) from (by rw [List.length_drop, List.length_take]; have h_ : ((wrap64 ((wrap64 (x33_3 + 1)) * (wrap64 ((l1.length : Int) / a0)))) : Int) ≤ (l1.length : Int) := of_decide_eq_true Z3; omega)); omega); intro v263 w19 ho hb hg hat; rw [← Ny262.out] at ho; replace HO_7 := ZM (Kd.S_after (Kd.S_apart_nil (by (with_reducible repeat (first | apply Kd.S_alloc | apply Kd.S_drewN | apply Kd.S_drew)); exact HO_7.out)) hg hat); have HO264 := ZM (ho); replace HB := ZM (hb); clear ho hb hg hat; obtain ⟨Ao21, co21, eo21⟩ := Kd.R_slice HO264.out; subst eo21) | ((with_reducible refine gate_builtin (b := .append) (xs := #[.tmp 36, .tmp 47]) rfl ?_); at_builtin; refine Kd.S_append (Kd.slice 2 (Kd.int .i64)) (w0 := w) w.heap.size rfl (.tmp 36) (.tmp 47) 27 22 (.slice none 0 0) 24 rfl Try.underlying27 info22 rfl (by decide) (by omega) u7 x7_3 y262 [.slice Ao21 y262.length co21] (fun _ => True) (fun k_ => some k_ = (.slice Ao21 y262.length co21 : Value).ownBlock) rfl rfl ?aP (fun k_ hk_ => ((Kd.R_mono (ok' := fun k_ => ((fun _ => True)) k_ ∧ some k_ ≠ (u7 : Value).ownBlock) (Kd.R_apart' (HO264.out) (Kd.S_typed HO_7.out) (by decide)) (fun k_ hk => ⟨trivial, hk.2⟩))).1 k_ hk_.symm) ?aF ?aO ?aB ?aS ?aL ?_; (case aP => exact Kd.M_row (Kd.R_mono (Kd.R_tight rfl (Kd.R_mono (ok' := fun k_ => ((fun _ => True)) k_ ∧ some k_ ≠ (u7 : Value).ownBlock) (Kd.R_apart' (HO264.out) (Kd.S_typed HO_7.out) (by decide)) (fun k_ hk => ⟨trivial, hk.2⟩))) (fun _ h_ => h_))); (case aB => exact Z1); (case aF => exact (fun _ _ => trivial)); (case aO => exact (by (with_reducible repeat (first | apply Kd.S_alloc | apply Kd.S_drewN | apply Kd.S_drew)); exact Kd.S_mono HO_7.out (fun k_ hk => ⟨trivial, fun e_ => hk.2 e_⟩))); (case aS => exact (zzS Z1)); (case aL => have := LMc17.out; omega); intro v266 w20 ho hb hg hat; rw [← Ny265.out] at ho; have HO267 := ZM (ho); replace HB := ZM (hb); clear HO_7 HO264; clear ho hb hg hat))
     go_roundg k3
     case measure => have := HJ2.out; have := HJ6.out; have := HK3.out; omega
     case rel => exact ⟨(y265), (wrap64 (x33_3 + 1)), Z4, H', ⟨by have := HJ2.out; have := HJ6.out; have := HK3.out; omega⟩, ⟨by (with_reducible repeat (first | apply Kd.S_alloc | apply Kd.S_drewN | apply Kd.S_drew)); exact HO267.out⟩, ⟨by repeat (first | (with_reducible first | exact HB.out | apply zzA | apply zzN | apply zzD) | exact HB.out)⟩⟩
def thrumref15_Rows.f (a0 : Int) (l1 : List Int) : Option (List (List Int) × Int) := some (rowsS a0 l1)
theorem thrumref15_RowsP.loop (w : List Int) (m k : Nat) (hmk : m * k = w.length) (hm : m ≤ 17) (hk : k ≤ 8) : ∀ (d i : Nat) (acc : List (List Int)), d + i = k → acc.length ≤ i →
    thrumref15_RowsP.l0 (d + 1) w (m : Int) acc (k : Int) (i : Int) = some (acc ++ (chunksS m w k).drop i, 0) := by
  intro d
  induction d with
  | zero =>
    intro i acc hd ha
    rw [thrumref15_RowsP.l0, if_neg (by omega), List.drop_eq_nil_of_le (by rw [chunksS_length]; omega), List.append_nil]
  | succ d ih =>
    intro i acc hd ha
    have hi : i < k := by omega
    have p0 : (i : Int) < (k : Int) := Int.ofNat_lt.2 hi
    have p5 : acc.length < 5864062014805 := by omega
    have p6 : d + (i + 1) = k := by omega
    have p7 : acc.length + 1 ≤ i + 1 := by omega
    have h1 : (i + 1) * m ≤ k * m := Nat.mul_le_mul_right m hi
    have h2 : k * m ≤ 8 * 17 := Nat.mul_le_mul hk hm
    have h3 : (i + 1) * m = i * m + m := by rw [Nat.add_mul, Nat.one_mul]
    have e1 : wrap64 ((i : Int) * m) = ((i * m : Nat) : Int) := by
      have q : ((i * m : Nat) : Int) = (i : Int) * m := by push_cast; rfl
      rw [← q, wrap64_of (by unfold I64; omega)]
    have e2 : wrap64 ((i : Int) + 1) = ((i + 1 : Nat) : Int) := by rw [wrap64_of (by unfold I64; omega)]; omega
    have e3 : wrap64 (((i + 1 : Nat) : Int) * m) = (((i + 1) * m : Nat) : Int) := by
      have q : (((i + 1) * m : Nat) : Int) = ((i + 1 : Nat) : Int) * m := by push_cast; rfl
      rw [← q, wrap64_of (by unfold I64; omega)]
    have hget : (chunksS m w k)[i]'(by rw [chunksS_length]; exact hi) = (w.drop (i * m)).take m := by simp [chunksS]
    have hdt : (w.take ((i + 1) * m)).drop (i * m) = (w.drop (i * m)).take m := by rw [List.drop_take, h3, Nat.add_sub_cancel_left]
    have hcl := chunk_len hmk hi
    have p1 : (0 : Int) ≤ ((i * m : Nat) : Int) := Int.natCast_nonneg _
    have p2 : ((i * m : Nat) : Int) ≤ (((i + 1) * m : Nat) : Int) := Int.ofNat_le.2 (by rw [h3]; exact Nat.le_add_right _ _)
    have p3 : (((i + 1) * m : Nat) : Int) ≤ (w.length : Int) := Int.ofNat_le.2 (by rw [← hmk, Nat.mul_comm m k]; exact h1)
    have p4 : ([] : List Int).length + ((w.drop (i * m)).take m).length < 17592186044416 := by rw [hcl, List.length_nil]; clear h1 h3 e1 e2 e3 p1 p2 p3 hget hdt hcl; omega
    have hi2 : i < (chunksS m w k).length := by rw [chunksS_length]; exact hi
    rw [thrumref15_RowsP.l0, if_pos p0, e1, e2, e3, if_pos p1, if_pos p2, if_pos p3, Int.toNat_natCast, Int.toNat_natCast, hdt, if_pos p4, if_pos p5,
      ih (i + 1) _ p6 (by rw [List.length_append, List.length_singleton]; exact p7), List.drop_eq_getElem_cons hi2, hget, List.nil_append, List.append_assoc]
    rfl
theorem thrumref15_RowsP.is (a0 : Int) (l1 : List Int) (hb : l1.length ≤ 9223372036854775807) : thrumref15_RowsP.f (a0.toNat + 3) a0 l1 = some (rowsS a0 l1) := by
  unfold thrumref15_RowsP.f rowsS
  by_cases c : badOut a0
  · rw [if_pos c]
    unfold badOut at c
    by_cases c1 : a0 < 2
    · rw [if_pos c1, thrumref15_RowsP.j0, if_pos rfl]
    · rw [if_neg c1, thrumref15_RowsP.j0, if_pos (decide_eq_true (by omega))]
  · rw [if_neg c]
    unfold badOut at c
    obtain ⟨k, rfl⟩ : ∃ k : Nat, a0 = k := ⟨a0.toNat, by omega⟩
    rw [Int.toNat_natCast]
    have hgd : goodRow k l1 ↔ 2 ≤ l1.length / k ∧ l1.length / k ≤ 17 ∧ l1.length / k * k = l1.length := by unfold goodRow; rw [Int.toNat_natCast]
    have hq : wrap64 ((l1.length : Int) / (k : Int)) = ((l1.length / k : Nat) : Int) := by
      have q : (l1.length : Int) / (k : Int) = ((l1.length / k : Nat) : Int) := by push_cast; rfl
      have hI : I64 ((l1.length / k : Nat) : Int) := by
        have hle := Nat.div_le_self l1.length k
        clear q
        generalize l1.length / k = z at hle ⊢
        unfold I64; omega
      rw [q, wrap64_of hI]
    have hmod : ((l1.length : Int) % (k : Int) = 0) ↔ l1.length / k * k = l1.length := by
      have h1 := Nat.div_add_mod l1.length k
      rw [Nat.mul_comm] at h1
      have h2 : ((l1.length % k : Nat) : Int) = (l1.length : Int) % (k : Int) := by push_cast; rfl
      constructor
      · intro h
        have h3 : l1.length % k = 0 := Int.ofNat.inj (h2.trans h)
        rw [h3, Nat.add_zero] at h1; exact h1
      · intro h
        rw [h] at h1
        have h3 : l1.length % k = 0 := Nat.add_left_cancel (h1.trans (Nat.add_zero _).symm)
        rw [← h2, h3]; rfl
    rw [if_neg (show ¬ (k : Int) < 2 by omega), thrumref15_RowsP.j0, if_neg (by simp; omega), if_neg (show ¬ (k : Int) = 0 by omega), hq]
    generalize hm : l1.length / k = m at hgd hmod
    by_cases c2 : (l1.length : Int) % (k : Int) = 0
    · rw [if_pos c2]
      have hmk := hmod.1 c2
      by_cases c3 : (m : Int) < 2
      · rw [if_pos c3, thrumref15_RowsP.j1, if_pos rfl, if_neg (fun h => by have := (hgd.1 h).1; omega)]
      · rw [if_neg c3, thrumref15_RowsP.j1]
        by_cases c4 : (m : Int) > 17
        · rw [if_pos (decide_eq_true c4), if_neg (fun h => by have := (hgd.1 h).2.1; omega)]
        · rw [if_neg (by simpa using c4), if_pos (hgd.2 ⟨by omega, by omega, hmk⟩)]
          have := thrumref15_RowsP.loop l1 m k hmk (by omega) (by omega) k 0 [] (by omega) (by simp)
          rw [show ((0 : Nat) : Int) = 0 from rfl, List.drop_zero, List.nil_append] at this
          exact this
    · rw [if_neg c2, thrumref15_RowsP.j1, if_pos rfl, if_neg (fun h => c2 (hmod.2 (hgd.1 h).2.2))]
theorem thrumref15_Rows.calls (a0 : Int) (A1 : Option Addr) (c1 : Nat) (l1 : List Int) (r1 : List (List Int)) (r2 : Int) (w : World) (hr1 : Kd.C (Kd.int .i64) w A1 l1.length l1) (hc1 : l1.length ≤ c1) (h : thrumref15_Rows.f a0 l1 = some (r1, r2)) :
    Calls Try.prog 46 #[.int .i64 a0, .slice A1 l1.length c1] w fun e w' => ∃ v0_ : Value, e = .returned (.tuple #[v0_, .int .i64 r2]) ∧ Kd.S (Kd.slice 2 (Kd.int .i64)) 22 w' w.heap.size (fun _ => True) v0_ r1 ∧ Below w.heap.size w w' := by
  unfold thrumref15_Rows.f at h
  exact thrumref15_RowsP.calls (a0.toNat + 3) a0 A1 c1 l1 r1 r2 w hr1 hc1 ((thrumref15_RowsP.is a0 l1 (Kd.C_max hr1)).trans h)


/-! ### thrumref15_fitP: function 26 -/
def thrumref15_fitP.f (a0 : Int) (l1 : List Int) (l2 : List (S26)) : Option (Int) := (thrumref15_Rows.f a0 l1).bind fun bt268 => (if bt268.2 = 0 then (if 0 < (bt268.1.length : Int) then ((thrumref15_Check.f (wrap64 (((rd_L1 bt268.1 0).length : Int) - 1)) a0 l1 l2).bind fun t273 => (some t273)) else (none)) else (some bt268.2))
set_option maxHeartbeats 8000000 in
set_option maxRecDepth 100000 in
theorem thrumref15_fitP.calls (a0 : Int) (A1 : Option Addr) (c1 : Nat) (l1 : List Int) (A2 : Option Addr) (c2 : Nat) (l2 : List (S26)) (r : Int) (w : World) (hr1 : Kd.C (Kd.int .i64) w A1 l1.length l1) (hc1 : l1.length ≤ c1) (hr2 : Kd.C k26 w A2 l2.length l2) (hc2 : l2.length ≤ c2) (h : thrumref15_fitP.f a0 l1 l2 = some r) :
  Calls Try.prog 26 #[.int .i64 a0, .slice A1 l1.length c1, .slice A2 l2.length c2] w fun e w' => e = .returned (.int .i64 r) ∧ Below w.heap.size w w' := by
 have HR1 := ZM hr1
 have HC1 := ZM hc1
 clear hr1 hc1
 have HR2 := ZM hr2
 have HC2 := ZM hc2
 clear hr2 hc2
 have HB := ZM (Below.refl w.heap.size w)
 have H : ((thrumref15_Rows.f a0 l1).bind fun bt268 => (if bt268.2 = 0 then (if 0 < (bt268.1.length : Int) then ((thrumref15_Check.f (wrap64 (((rd_L1 bt268.1 0).length : Int) - 1)) a0 l1 l2).bind fun t273 => (some t273)) else (none)) else (some bt268.2))) = some r := h
 clear h
 replace H := Option.bind_eq_some_iff.mp H
 obtain ⟨⟨t268, t269⟩, A40, H⟩ := H
 replace H : (if t269 = 0 then (if 0 < (t268.length : Int) then ((thrumref15_Check.f (wrap64 (((rd_L1 t268 0).length : Int) - 1)) a0 l1 l2).bind fun t273 => (some t273)) else (none)) else (some t269)) = some r := H
 have A4 := ZM A40
 clear A40
 by_cases c5 : t269 = 0
 case neg =>
  rw [if_neg c5] at H
  have c5b0 : (t269 == 0) = false := beq_eq_false_iff_ne.mpr c5
  have c5b1 : (t269 != 0) = true := bne_iff_ne.mpr c5
  obtain rfl := Option.some.inj H
  go_enter Try.func26, Try.ntmps26
  go_wp2_with (first | ((with_reducible refine gate_callee (f := 46) rfl ?_); refine goesL_ (some 12) rfl rfl Try.func46 (by kernel_rfl) rfl #[.int .i64 a0, .slice A1 l1.length c1] rfl Z2 ?_; (with_reducible refine (thrumref15_Rows.calls a0 _ _ l1 t268 t269 _ ?side1 ?side2 A4.out).mono ?_); (case side1 => exact Z5); (case side2 => exact HC1.out); rintro e w11 ⟨v270, rfl, ho0, hb⟩; refine ⟨_, rfl, ?_⟩; have HO271 := ZM (Kd.S_lower ho0 (zzS Z1)); replace HB := ZM (zzT Z1 hb); (try clear hb); (try clear hb2); (try clear hk); (try clear hi); (try clear ho0)))
  go_ret
  exact ⟨by first | rfl | (simp [errW_none, errW_some] <;> rfl) | (simp [*, errW_none, errW_some] <;> rfl), by repeat (first | (with_reducible first | exact HB.out | apply zzA | apply zzN | apply zzD) | exact HB.out)⟩
 rw [if_pos c5] at H
 have c5b0 : (t269 == 0) = true := beq_iff_eq.mpr c5
 have c5b1 : (t269 != 0) = false := bne_eq_false_iff_eq.mpr c5
 clear c5
 by_cases c6 : 0 < (t268.length : Int)
 case neg =>
  rw [if_neg c6] at H
  exact absurd H (by simp)
 rw [if_pos c6] at H
 have c6b0 : decide (0 < (t268.length : Int)) = true := decide_eq_true c6
 have c6b1 : decide (0 < t268.length) = true := decide_eq_true (by omega)
 clear c6
 replace H := Option.bind_eq_some_iff.mp H
 obtain ⟨t273, A70, H⟩ := H
 replace H : (some t273) = some r := H
 have A7 := ZM A70
 clear A70
 obtain rfl := Option.some.inj H
 go_enter Try.func26, Try.ntmps26
 go_wp2_with (first | ((with_reducible refine gate_callee (f := 46) rfl ?_); refine goesL_ (some 12) rfl rfl Try.func46 (by kernel_rfl) rfl #[.int .i64 a0, .slice A1 l1.length c1] rfl Z2 ?_; (with_reducible refine (thrumref15_Rows.calls a0 _ _ l1 t268 t269 _ ?side1 ?side2 A4.out).mono ?_); (case side1 => exact Z5); (case side2 => exact HC1.out); rintro e w8 ⟨v270, rfl, ho0, hb⟩; refine ⟨_, rfl, ?_⟩; have HO271 := ZM (Kd.S_lower ho0 (zzS Z1)); replace HB := ZM (zzT Z1 hb); (try clear hb); (try clear hb2); (try clear hk); (try clear hi); (try clear ho0); obtain ⟨Ao9, co9, eo9⟩ := Kd.S_slice HO271.out; subst eo9; have p272 : 0 ≤ (0 : Int) := (by omega); have q272 : 0 < (t268.length : Int) := of_decide_eq_true Z3; obtain ⟨ad272, A272_0, c272_0, e272, hx272_0, hl272_0, hi272_0⟩ := at_L1 (Kd.S_reads' HO271.out).2.2 0 p272 q272; cases e272; obtain ⟨ce272, hce272, hMe272, hcc272⟩ := Kd.S_get HO271.out [] 0 p272 (by first | exact q272 | exact of_decide_eq_true Z3 | (have e_ := (Kd.S_reads' HO271.out).1; omega)); obtain ⟨ve272_0, rfl, ge272_0⟩ := hMe272; have hv272_0 := hcc272 0 _ rfl; rw [Nat.add_zero, show ((Kd.slice 2 (Kd.int .i64))).sz = 1 from rfl, Nat.mul_one] at hv272_0; replace hv272_0 := Option.some.inj (hv272_0.symm.trans hx272_0); rw [hv272_0] at ge272_0; have HL272_0 := ZM (show Kd.R (Kd.int .i64) 2 _ _ _ _ (rd_L1 t268 0) from ge272_0); clear hv272_0 ge272_0; clear hcc272 hce272; have qi272 : (0 < t268.length) = True := eq_true (by omega); (try rw [show ((0 : Int)).toNat = 0 from rfl] at hx272_0); (try rw [Addr.add_zero'] at hx272_0); have HR272_0 := ZM hi272_0; have HC272_0 := ZM hl272_0; clear hi272_0 hl272_0; replace p272 := eq_true p272; replace q272 := eq_true q272) | ((with_reducible refine gate_callee (f := 15) rfl ?_); refine goesL_ (some 26) rfl rfl Try.func15 (by kernel_rfl) rfl #[.int .i64 (wrap64 (((rd_L1 t268 0).length : Int) - 1)), .int .i64 a0, .slice A1 l1.length c1, .slice A2 l2.length c2] rfl Z2 ?_; (with_reducible refine (thrumref15_Check.calls (wrap64 (((rd_L1 t268 0).length : Int) - 1)) a0 _ _ l1 _ _ l2 t273 _ ?side1 ?side2 ?side3 ?side4 A7.out).mono ?_); (case side1 => exact Z20); (case side2 => exact HC1.out); (case side3 => exact Z10); (case side4 => exact HC2.out); rintro e w10 ⟨rfl, hb⟩; refine ⟨_, rfl, ?_⟩; replace HO271 := ZM (Kd.S_below (by (with_reducible repeat (first | apply Kd.S_alloc | apply Kd.S_drewN | apply Kd.S_drew)); exact HO271.out) hb); replace HL272_0 := ZM (Kd.R_below (Zr HL272_0) hb); replace HR272_0 := ZM (Kd.C_below (by repeat (first | (with_reducible exact HR272_0.out) | (with_reducible refine ccA ?_ _) | (with_reducible refine ccN ?_ _) | (with_reducible refine ccD ?_) | exact HR272_0.out)) hb); replace HB := ZM (zzT Z1 hb); (try clear hb); (try clear hb2); (try clear hk); (try clear hi)))
 go_ret
 exact ⟨by first | rfl | (simp [errW_none, errW_some] <;> rfl) | (simp [*, errW_none, errW_some] <;> rfl), by repeat (first | (with_reducible first | exact HB.out | apply zzA | apply zzN | apply zzD) | exact HB.out)⟩
def thrumref15_fit.f (a0 : Int) (l1 : List Int) (l2 : List S26) : Option Int := some (fitS a0 l1 (l2.map sm))
theorem thrumref15_fitP.is (a0 : Int) (l1 : List Int) (l2 : List S26) : thrumref15_fitP.f a0 l1 l2 = some (fitS a0 l1 (l2.map sm)) := by
  unfold thrumref15_fitP.f fitS thrumref15_Rows.f thrumref15_Check.f
  rw [Option.bind_some]
  by_cases c : (rowsS a0 l1).2 = 0
  · obtain ⟨k, m, rfl, hk2, hk8, hm2, hm17, hmk, hr⟩ := rowsS_good c
    have hlen : (rowsS (k : Int) l1).1.length = k := by rw [hr, chunksS_length]
    rw [if_pos c, if_neg (not_not_intro c), if_pos (by omega)]; rfl
  · rw [if_neg c, if_pos c]
theorem thrumref15_fit.calls (a0 : Int) (A1 : Option Addr) (c1 : Nat) (l1 : List Int) (A2 : Option Addr) (c2 : Nat) (l2 : List (S26)) (r : Int) (w : World) (hr1 : Kd.C (Kd.int .i64) w A1 l1.length l1) (hc1 : l1.length ≤ c1) (hr2 : Kd.C k26 w A2 l2.length l2) (hc2 : l2.length ≤ c2) (h : thrumref15_fit.f a0 l1 l2 = some r) :
    Calls Try.prog 26 #[.int .i64 a0, .slice A1 l1.length c1, .slice A2 l2.length c2] w fun e w' => e = .returned (.int .i64 r) ∧ Below w.heap.size w w' := by
  unfold thrumref15_fit.f at h
  exact thrumref15_fitP.calls a0 A1 c1 l1 A2 c2 l2 r w hr1 hc1 hr2 hc2 ((thrumref15_fitP.is a0 l1 l2).trans h)


/-! ### thrumref01_AddP: function 91 -/
def thrumref01_AddP.f (a0 : Int) (a1 : Int) : Option (Int × Int) := if a1 > 0 then (if a0 > (wrap64 (9223372036854775807 - a1)) then (some (0, 2)) else (if a1 < 0 then (if a0 < (wrap64 ((-9223372036854775808) - a1)) then (some (0, 2)) else (some (wrap64 (a0 + a1), 0))) else (some (wrap64 (a0 + a1), 0)))) else (if a1 < 0 then (if a0 < (wrap64 ((-9223372036854775808) - a1)) then (some (0, 2)) else (some (wrap64 (a0 + a1), 0))) else (some (wrap64 (a0 + a1), 0)))
set_option maxHeartbeats 8000000 in
set_option maxRecDepth 100000 in
theorem thrumref01_AddP.calls (a0 : Int) (a1 : Int) (r1 : Int) (r2 : Int) (w : World) (h : thrumref01_AddP.f a0 a1 = some (r1, r2)) :
  Calls Try.prog 91 #[.int .i64 a0, .int .i64 a1] w fun e w' => e = .returned (.tuple #[.int .i64 r1, .int .i64 r2]) ∧ Drawn0 w w' := by
 have H : (if a1 > 0 then (if a0 > (wrap64 (9223372036854775807 - a1)) then (some (0, 2)) else (if a1 < 0 then (if a0 < (wrap64 ((-9223372036854775808) - a1)) then (some (0, 2)) else (some (wrap64 (a0 + a1), 0))) else (some (wrap64 (a0 + a1), 0)))) else (if a1 < 0 then (if a0 < (wrap64 ((-9223372036854775808) - a1)) then (some (0, 2)) else (some (wrap64 (a0 + a1), 0))) else (some (wrap64 (a0 + a1), 0)))) = some (r1, r2) := h
 clear h
 by_cases c3 : a1 > 0
 case neg =>
  rw [if_neg c3] at H
  have c3b0 : decide (0 < a1) = false := decide_eq_false c3
  clear c3
  by_cases c7 : a1 < 0
  case neg =>
   rw [if_neg c7] at H
   have c7b0 : decide (a1 < 0) = false := decide_eq_false c7
   clear c7
   simp only [Option.some.injEq, Prod.mk.injEq] at H
   obtain ⟨rfl, rfl⟩ := H
   go_enter Try.func91, Try.ntmps91
   go_wp2
   go_ret2
   exact ⟨by first | rfl | (simp; done) | (simp [*]; done), by repeat (first | exact ddR _ | apply ddS)⟩
  rw [if_pos c7] at H
  have c7b0 : decide (a1 < 0) = true := decide_eq_true c7
  clear c7
  by_cases c8 : a0 < (wrap64 ((-9223372036854775808) - a1))
  case neg =>
   rw [if_neg c8] at H
   have c8b0 : decide (a0 < (wrap64 ((-9223372036854775808) - a1))) = false := decide_eq_false c8
   clear c8
   simp only [Option.some.injEq, Prod.mk.injEq] at H
   obtain ⟨rfl, rfl⟩ := H
   go_enter Try.func91, Try.ntmps91
   go_wp2
   go_ret2
   exact ⟨by first | rfl | (simp; done) | (simp [*]; done), by repeat (first | exact ddR _ | apply ddS)⟩
  rw [if_pos c8] at H
  have c8b0 : decide (a0 < (wrap64 ((-9223372036854775808) - a1))) = true := decide_eq_true c8
  clear c8
  simp only [Option.some.injEq, Prod.mk.injEq] at H
  obtain ⟨rfl, rfl⟩ := H
  go_enter Try.func91, Try.ntmps91
  go_wp2
  go_ret2
  exact ⟨by first | rfl | (simp; done) | (simp [*]; done), by repeat (first | exact ddR _ | apply ddS)⟩
 rw [if_pos c3] at H
 have c3b0 : decide (0 < a1) = true := decide_eq_true c3
 clear c3
 by_cases c4 : a0 > (wrap64 (9223372036854775807 - a1))
 ·
  rw [if_pos c4] at H
  have c4b0 : decide ((wrap64 (9223372036854775807 - a1)) < a0) = true := decide_eq_true c4
  clear c4
  simp only [Option.some.injEq, Prod.mk.injEq] at H
  obtain ⟨rfl, rfl⟩ := H
  go_enter Try.func91, Try.ntmps91
  go_wp2
  go_ret2
  exact ⟨by first | rfl | (simp; done) | (simp [*]; done), by repeat (first | exact ddR _ | apply ddS)⟩
 rw [if_neg c4] at H
 have c4b0 : decide ((wrap64 (9223372036854775807 - a1)) < a0) = false := decide_eq_false c4
 clear c4
 by_cases c5 : a1 < 0
 case neg =>
  rw [if_neg c5] at H
  have c5b0 : decide (a1 < 0) = false := decide_eq_false c5
  clear c5
  simp only [Option.some.injEq, Prod.mk.injEq] at H
  obtain ⟨rfl, rfl⟩ := H
  go_enter Try.func91, Try.ntmps91
  go_wp2
  go_ret2
  exact ⟨by first | rfl | (simp; done) | (simp [*]; done), by repeat (first | exact ddR _ | apply ddS)⟩
 rw [if_pos c5] at H
 have c5b0 : decide (a1 < 0) = true := decide_eq_true c5
 clear c5
 by_cases c6 : a0 < (wrap64 ((-9223372036854775808) - a1))
 case neg =>
  rw [if_neg c6] at H
  have c6b0 : decide (a0 < (wrap64 ((-9223372036854775808) - a1))) = false := decide_eq_false c6
  clear c6
  simp only [Option.some.injEq, Prod.mk.injEq] at H
  obtain ⟨rfl, rfl⟩ := H
  go_enter Try.func91, Try.ntmps91
  go_wp2
  go_ret2
  exact ⟨by first | rfl | (simp; done) | (simp [*]; done), by repeat (first | exact ddR _ | apply ddS)⟩
 rw [if_pos c6] at H
 have c6b0 : decide (a0 < (wrap64 ((-9223372036854775808) - a1))) = true := decide_eq_true c6
 clear c6
 simp only [Option.some.injEq, Prod.mk.injEq] at H
 obtain ⟨rfl, rfl⟩ := H
 go_enter Try.func91, Try.ntmps91
 go_wp2
 go_ret2
 exact ⟨by first | rfl | (simp; done) | (simp [*]; done), by repeat (first | exact ddR _ | apply ddS)⟩
def thrumref01_Add.f (a0 a1 : Int) : Option (Int × Int) := if I64 a0 ∧ I64 a1 then some (res (a0 + a1)) else none
theorem thrumref01_Add.of (a0 a1 : Int)  (h_ : I64 a0 ∧ I64 a1) : thrumref01_Add.f a0 a1 = some (res (a0 + a1)) := if_pos h_
theorem thrumref01_Add.calls (a0 : Int) (a1 : Int) (r1 : Int) (r2 : Int) (w : World) (h : thrumref01_Add.f a0 a1 = some (r1, r2)) :
    Calls Try.prog 91 #[.int .i64 a0, .int .i64 a1] w fun e w' => e = .returned (.tuple #[.int .i64 r1, .int .i64 r2]) ∧ Drawn0 w w' := by
  unfold thrumref01_Add.f at h
  split at h
  · rename_i hu
    refine thrumref01_AddP.calls a0 a1 r1 r2 w (Eq.trans ?_ h)
    unfold thrumref01_AddP.f
    obtain ⟨h0, h1⟩ := hu
    unfold I64 at h0 h1
    rcases Int.lt_trichotomy a1 0 with c | c | c
    · rw [if_neg (by omega), if_pos c, wrap64_of (show I64 (-9223372036854775808 - a1) by unfold I64; omega)]
      by_cases d : a0 < -9223372036854775808 - a1
      · rw [if_pos d, res_not (by unfold I64; omega)]
      · rw [if_neg d, res_of (by unfold I64; omega), wrap64_of (by unfold I64; omega)]
    · rw [if_neg (by omega), if_neg (by omega), res_of (by unfold I64; omega), wrap64_of (by unfold I64; omega)]
    · rw [if_pos (by omega), wrap64_of (show I64 (9223372036854775807 - a1) by unfold I64; omega)]
      by_cases d : a0 > 9223372036854775807 - a1
      · rw [if_pos d, res_not (by unfold I64; omega)]
      · rw [if_neg d, if_neg (by omega), res_of (by unfold I64; omega), wrap64_of (by unfold I64; omega)]
  · cases h


/-! ### thrumref14_Dim: function 99 -/
def thrumref14_Dim.f (a0 : Int) : Option (Int × Int) := if a0 < 1 then (some (0, 1)) else (if a0 > 16 then (some (0, 1)) else (some (wrap64 (a0 + 1), 0)))
set_option maxHeartbeats 8000000 in
set_option maxRecDepth 100000 in
theorem thrumref14_Dim.calls (a0 : Int) (r1 : Int) (r2 : Int) (w : World) (h : thrumref14_Dim.f a0 = some (r1, r2)) :
  Calls Try.prog 99 #[.int .i64 a0] w fun e w' => e = .returned (.tuple #[.int .i64 r1, .int .i64 r2]) ∧ Drawn0 w w' := by
 have H : (if a0 < 1 then (some (0, 1)) else (if a0 > 16 then (some (0, 1)) else (some (wrap64 (a0 + 1), 0)))) = some (r1, r2) := h
 clear h
 by_cases c2 : a0 < 1
 ·
  rw [if_pos c2] at H
  have c2b0 : decide (a0 < 1) = true := decide_eq_true c2
  clear c2
  simp only [Option.some.injEq, Prod.mk.injEq] at H
  obtain ⟨rfl, rfl⟩ := H
  go_enter Try.func99, Try.ntmps99
  go_wp2
  go_ret2
  exact ⟨by first | rfl | (simp; done) | (simp [*]; done), by repeat (first | exact ddR _ | apply ddS)⟩
 rw [if_neg c2] at H
 have c2b0 : decide (a0 < 1) = false := decide_eq_false c2
 clear c2
 by_cases c3 : a0 > 16
 case neg =>
  rw [if_neg c3] at H
  have c3b0 : decide (16 < a0) = false := decide_eq_false c3
  clear c3
  simp only [Option.some.injEq, Prod.mk.injEq] at H
  obtain ⟨rfl, rfl⟩ := H
  go_enter Try.func99, Try.ntmps99
  go_wp2
  go_ret2
  exact ⟨by first | rfl | (simp; done) | (simp [*]; done), by repeat (first | exact ddR _ | apply ddS)⟩
 rw [if_pos c3] at H
 have c3b0 : decide (16 < a0) = true := decide_eq_true c3
 clear c3
 simp only [Option.some.injEq, Prod.mk.injEq] at H
 obtain ⟨rfl, rfl⟩ := H
 go_enter Try.func99, Try.ntmps99
 go_wp2
 go_ret2
 exact ⟨by first | rfl | (simp; done) | (simp [*]; done), by repeat (first | exact ddR _ | apply ddS)⟩
/-! ### thrumref14_CheckP: function 93 -/
def thrumref14_CheckP.l0 : Nat → Int → List (S26) → List (S26) → Int → Int → Option (Int)
 | 0, _, _, _, _, _ => none
 | k + 1, x0, x2, x23, x24, x25 => if x25 < x24 then (if 0 ≤ x25 then (if x25 < (x23.length : Int) then (if (((rd_T26 x23 x25).f0).length : Int) = x0 then (thrumref14_CheckP.l0 k x0 x2 x23 x24 (wrap64 (x25 + 1))) else (some 4)) else (none)) else (none)) else (if (x2.length : Int) = 0 then (some 1) else (if (x2.length : Int) > 64 then (some 1) else (some 0)))
def thrumref14_CheckP.f (k : Nat) (a0 : Int) (l1 : List Int) (l2 : List (S26)) : Option (Int) := (thrumref14_Dim.f a0).bind fun bt274 => (if bt274.2 = 0 then (if (l1.length : Int) = bt274.1 then (thrumref14_CheckP.l0 k a0 l2 l2 (l2.length : Int) 0) else (some 4)) else (some bt274.2))
theorem thrumref14_CheckP.mono_l : ∀ k, (∀ y0 y1 y2 y3 y4, LeO (thrumref14_CheckP.l0 k y0 y1 y2 y3 y4) (thrumref14_CheckP.l0 (k + 1) y0 y1 y2 y3 y4))
 | 0 => fun _ _ _ _ _ r h => by simp [thrumref14_CheckP.l0] at h
 | k + 1 => by
  have ih0 := thrumref14_CheckP.mono_l k
  ·
   intro y0 y1 y2 y3 y4
   unfold thrumref14_CheckP.l0
   repeat' first
   | (with_reducible exact ih0 _ _ _ _ _)
   | (with_reducible exact LeO.refl _)
   | (with_reducible exact LeO.none _)
   | (with_reducible refine LeO.ite ?_ ?_)
   | (with_reducible refine LeO.bind ?_ (fun _ => ?_))
theorem thrumref14_CheckP.mono : ∀ a0 a1 a2 k, LeO (thrumref14_CheckP.f k a0 a1 a2) (thrumref14_CheckP.f (k + 1) a0 a1 a2) := by
 intro a0 a1 a2 k
 have ih0 := thrumref14_CheckP.mono_l k
 unfold thrumref14_CheckP.f
 repeat' first
   | (with_reducible exact ih0 _ _ _ _ _)
   | (with_reducible exact LeO.refl _)
   | (with_reducible exact LeO.none _)
   | (with_reducible refine LeO.ite ?_ ?_)
   | (with_reducible refine LeO.bind ?_ (fun _ => ?_))
set_option maxHeartbeats 8000000 in
set_option maxRecDepth 100000 in
theorem thrumref14_CheckP.calls (k : Nat) (a0 : Int) (A1 : Option Addr) (c1 : Nat) (l1 : List Int) (A2 : Option Addr) (c2 : Nat) (l2 : List (S26)) (r : Int) (w : World) (hr1 : Kd.C (Kd.int .i64) w A1 l1.length l1) (hc1 : l1.length ≤ c1) (hr2 : Kd.C k26 w A2 l2.length l2) (hc2 : l2.length ≤ c2) (h : thrumref14_CheckP.f k a0 l1 l2 = some r) :
  Calls Try.prog 93 #[.int .i64 a0, .slice A1 l1.length c1, .slice A2 l2.length c2] w fun e w' => e = .returned (.int .i64 r) ∧ Below w.heap.size w w' := by
 have hu26 := Try.underlying26
 have HR1 := ZM hr1
 have HC1 := ZM hc1
 clear hr1 hc1
 have HR2 := ZM hr2
 have HC2 := ZM hc2
 clear hr2 hc2
 have HB := ZM (Below.refl w.heap.size w)
 have H : ((thrumref14_Dim.f a0).bind fun bt274 => (if bt274.2 = 0 then (if (l1.length : Int) = bt274.1 then (thrumref14_CheckP.l0 k a0 l2 l2 (l2.length : Int) 0) else (some 4)) else (some bt274.2))) = some r := h
 clear h
 replace H := Option.bind_eq_some_iff.mp H
 obtain ⟨⟨t274, t275⟩, A40, H⟩ := H
 replace H : (if t275 = 0 then (if (l1.length : Int) = t274 then (thrumref14_CheckP.l0 k a0 l2 l2 (l2.length : Int) 0) else (some 4)) else (some t275)) = some r := H
 have A4 := ZM A40
 clear A40
 by_cases c5 : t275 = 0
 case neg =>
  rw [if_neg c5] at H
  have c5b0 : (t275 == 0) = false := beq_eq_false_iff_ne.mpr c5
  have c5b1 : (t275 != 0) = true := bne_iff_ne.mpr c5
  obtain rfl := Option.some.inj H
  go_enter Try.func93, Try.ntmps93
  go_wp2_with (first | ((with_reducible refine gate_callee (f := 99) rfl ?_); refine goesL_ (some 13) rfl rfl Try.func99 (by kernel_rfl) rfl #[.int .i64 a0] rfl Z2 ?_; (with_reducible refine (thrumref14_Dim.calls a0 t274 t275 _ A4.out).mono ?_); rintro e w' ⟨rfl, ⟨nd, rfl⟩⟩; refine ⟨_, rfl, ?_⟩))
  go_ret
  exact ⟨by first | rfl | (simp [errW_none, errW_some] <;> rfl) | (simp [*, errW_none, errW_some] <;> rfl), by repeat (first | (with_reducible first | exact HB.out | apply zzA | apply zzN | apply zzD) | exact HB.out)⟩
 rw [if_pos c5] at H
 have c5b0 : (t275 == 0) = true := beq_iff_eq.mpr c5
 have c5b1 : (t275 != 0) = false := bne_eq_false_iff_eq.mpr c5
 clear c5
 by_cases c6 : (l1.length : Int) = t274
 case neg =>
  rw [if_neg c6] at H
  have c6b0 : ((l1.length : Int) == t274) = false := beq_eq_false_iff_ne.mpr c6
  have c6b1 : ((l1.length : Int) != t274) = true := bne_iff_ne.mpr c6
  obtain rfl := Option.some.inj H
  go_enter Try.func93, Try.ntmps93
  go_wp2_with (first | ((with_reducible refine gate_callee (f := 99) rfl ?_); refine goesL_ (some 13) rfl rfl Try.func99 (by kernel_rfl) rfl #[.int .i64 a0] rfl Z2 ?_; (with_reducible refine (thrumref14_Dim.calls a0 t274 t275 _ A4.out).mono ?_); rintro e w' ⟨rfl, ⟨nd, rfl⟩⟩; refine ⟨_, rfl, ?_⟩))
  go_ret
  exact ⟨by first | rfl | (simp [errW_none, errW_some] <;> rfl) | (simp [*, errW_none, errW_some] <;> rfl), by repeat (first | (with_reducible first | exact HB.out | apply zzA | apply zzN | apply zzD) | exact HB.out)⟩
 rw [if_pos c6] at H
 have c6b0 : ((l1.length : Int) == t274) = true := beq_iff_eq.mpr c6
 have c6b1 : ((l1.length : Int) != t274) = false := bne_eq_false_iff_eq.mpr c6
 clear c6
 have H' := ZM H
 clear H
 go_enter Try.func93, Try.ntmps93
 go_wp2_with (first | ((with_reducible refine gate_callee (f := 99) rfl ?_); refine goesL_ (some 13) rfl rfl Try.func99 (by kernel_rfl) rfl #[.int .i64 a0] rfl Z2 ?_; (with_reducible refine (thrumref14_Dim.calls a0 t274 t275 _ A4.out).mono ?_); rintro e w' ⟨rfl, ⟨nd, rfl⟩⟩; refine ⟨_, rfl, ?_⟩))
 go_loopg [25] k (fun kq v25 w' => ∃ (x25_1 : Int), v25 = .int .i64 x25_1 ∧ Aside0 (thrumref14_CheckP.l0 kq a0 l2 l2 (l2.length : Int) x25_1 = some r) ∧ Aside0 (kq ≤ k) ∧ Aside0 (Below w.heap.size w w'))
 case atStart => exact ⟨(0), Z4, H', ⟨Nat.le_refl _⟩, ⟨by repeat (first | (with_reducible first | exact HB.out | apply zzA | apply zzN | apply zzD) | exact HB.out)⟩⟩
 case round =>
  clear H'
  try clear c1
  try clear c2
  try clear p2
  try clear c5
  try clear c5b0
  try clear c5b1
  try clear c6
  try clear c6b0
  try clear c6b1
  obtain ⟨x25_1, rfl, HA, HK1, HB⟩ := hrel
  cases gk with
  | zero => exact absurd HA.out (by simp [thrumref14_CheckP.l0])
  | succ k1 =>
   have H := HA.out
   clear HA
   simp only [thrumref14_CheckP.l0] at H
   by_cases c7 : x25_1 < (l2.length : Int)
   case neg =>
    rw [if_neg c7] at H
    have c7b0 : decide (x25_1 < (l2.length : Int)) = false := decide_eq_false c7
    clear c7
    by_cases c15 : (l2.length : Int) = 0
    ·
     rw [if_pos c15] at H
     have c15b0 : ((l2.length : Int) == 0) = true := beq_iff_eq.mpr c15
     have c15b1 : ((l2.length : Int) != 0) = false := bne_eq_false_iff_eq.mpr c15
     clear c15
     obtain rfl := Option.some.inj H
     go_wp2
     go_ret
     exact ⟨by first | rfl | (simp [errW_none, errW_some] <;> rfl) | (simp [*, errW_none, errW_some] <;> rfl), by repeat (first | (with_reducible first | exact HB.out | apply zzA | apply zzN | apply zzD) | exact HB.out)⟩
    rw [if_neg c15] at H
    have c15b0 : ((l2.length : Int) == 0) = false := beq_eq_false_iff_ne.mpr c15
    have c15b1 : ((l2.length : Int) != 0) = true := bne_iff_ne.mpr c15
    have c15b2 : ¬ (l2 = []) := fun h_ => c15 (by rw [h_]; rfl)
    by_cases c16 : (l2.length : Int) > 64
    case neg =>
     rw [if_neg c16] at H
     have c16b0 : decide (64 < (l2.length : Int)) = false := decide_eq_false c16
     have c16b1 : decide (64 < l2.length) = false := decide_eq_false (by omega)
     clear c16
     obtain rfl := Option.some.inj H
     go_wp2
     go_ret
     exact ⟨by first | rfl | (simp [errW_none, errW_some] <;> rfl) | (simp [*, errW_none, errW_some] <;> rfl), by repeat (first | (with_reducible first | exact HB.out | apply zzA | apply zzN | apply zzD) | exact HB.out)⟩
    rw [if_pos c16] at H
    have c16b0 : decide (64 < (l2.length : Int)) = true := decide_eq_true c16
    have c16b1 : decide (64 < l2.length) = true := decide_eq_true (by omega)
    clear c16
    obtain rfl := Option.some.inj H
    go_wp2
    go_ret
    exact ⟨by first | rfl | (simp [errW_none, errW_some] <;> rfl) | (simp [*, errW_none, errW_some] <;> rfl), by repeat (first | (with_reducible first | exact HB.out | apply zzA | apply zzN | apply zzD) | exact HB.out)⟩
   rw [if_pos c7] at H
   have c7b0 : decide (x25_1 < (l2.length : Int)) = true := decide_eq_true c7
   clear c7
   by_cases c8 : 0 ≤ x25_1
   case neg =>
    rw [if_neg c8] at H
    exact absurd H (by simp)
   rw [if_pos c8] at H
   have c8b0 : decide (0 ≤ x25_1) = true := decide_eq_true c8
   clear c8
   by_cases c9 : x25_1 < (l2.length : Int)
   case neg =>
    rw [if_neg c9] at H
    exact absurd H (by simp)
   rw [if_pos c9] at H
   have c9b0 : decide (x25_1 < (l2.length : Int)) = true := decide_eq_true c9
   clear c9
   by_cases c10 : (((rd_T26 l2 x25_1).f0).length : Int) = a0
   case neg =>
    rw [if_neg c10] at H
    have c10b0 : ((((rd_T26 l2 x25_1).f0).length : Int) == a0) = false := beq_eq_false_iff_ne.mpr c10
    have c10b1 : ((((rd_T26 l2 x25_1).f0).length : Int) != a0) = true := bne_iff_ne.mpr c10
    obtain rfl := Option.some.inj H
    have p276 : 0 ≤ (x25_1 : Int) := of_decide_eq_true Z3
    have q276 : x25_1 < (l2.length : Int) := of_decide_eq_true Z3
    obtain ⟨ad276, A276_0, c276_0, e276, hx276_0, hx276_1, hl276_0, hi276_0⟩ := at_T26 HR2.out x25_1 p276 q276
    cases e276
    replace hx276_0 := (HB.out.cell (World.block_lt_of_cell? w _ hx276_0)).trans hx276_0
    replace hx276_1 := (HB.out.cell (World.block_lt_of_cell? w _ hx276_1)).trans hx276_1
    have HR276_0 := ZM hi276_0
    have HC276_0 := ZM hl276_0
    clear hi276_0 hl276_0
    replace p276 := eq_true p276
    replace q276 := eq_true q276
    go_wp2_with (first | ((with_reducible refine gate_dst (N := 10) rfl ?_); (try (refine gate_guard (by rfl) ?_; dsimp only)); refine box_event ?hg (N := 10) ?hd (cs := #[.slice none 0 0, .int .i64 0]) (t := 26) ?hr ?_; (case hd => rfl); (case hg => rfl); (case hr => exact Z9); intro gb277 hg w13 hbox hb; have BK277 := ZM (hbox); have GW277 := ZM ((by rw [hg]; exact (zzS Z1) : w.heap.size ≤ gb277)); have GE277 := ZM ((by rw [hg]; exact (zzS Z1) : w.heap.size ≤ gb277)); replace HB := ZM (zzT Z1 hb); clear hb hbox hg; obtain ⟨hcz14_0, hcz14_1, hfz14_0, hfz14_1⟩ := Y2f BK277))
    go_ret
    exact ⟨by first | rfl | (simp [errW_none, errW_some] <;> rfl) | (simp [*, errW_none, errW_some] <;> rfl), by repeat (first | (with_reducible first | exact HB.out | apply zzA | apply zzN | apply zzD | refine below_set ?_ GE277.out) | exact HB.out)⟩
   rw [if_pos c10] at H
   have c10b0 : ((((rd_T26 l2 x25_1).f0).length : Int) == a0) = true := beq_iff_eq.mpr c10
   have c10b1 : ((((rd_T26 l2 x25_1).f0).length : Int) != a0) = false := bne_eq_false_iff_eq.mpr c10
   clear c10
   have H' := ZM H
   clear H
   have p276 : 0 ≤ (x25_1 : Int) := of_decide_eq_true Z3
   have q276 : x25_1 < (l2.length : Int) := of_decide_eq_true Z3
   obtain ⟨ad276, A276_0, c276_0, e276, hx276_0, hx276_1, hl276_0, hi276_0⟩ := at_T26 HR2.out x25_1 p276 q276
   cases e276
   replace hx276_0 := (HB.out.cell (World.block_lt_of_cell? w _ hx276_0)).trans hx276_0
   replace hx276_1 := (HB.out.cell (World.block_lt_of_cell? w _ hx276_1)).trans hx276_1
   have HR276_0 := ZM hi276_0
   have HC276_0 := ZM hl276_0
   clear hi276_0 hl276_0
   replace p276 := eq_true p276
   replace q276 := eq_true q276
   go_wp2_with (first | ((with_reducible refine gate_dst (N := 10) rfl ?_); (try (refine gate_guard (by rfl) ?_; dsimp only)); refine box_event ?hg (N := 10) ?hd (cs := #[.slice none 0 0, .int .i64 0]) (t := 26) ?hr ?_; (case hd => rfl); (case hg => rfl); (case hr => exact Z9); intro gb277 hg w11 hbox hb; have BK277 := ZM (hbox); have GW277 := ZM ((by rw [hg]; exact (zzS Z1) : w.heap.size ≤ gb277)); have GE277 := ZM ((by rw [hg]; exact (zzS Z1) : w.heap.size ≤ gb277)); replace HB := ZM (zzT Z1 hb); clear hb hbox hg; obtain ⟨hcz12_0, hcz12_1, hfz12_0, hfz12_1⟩ := Y2f BK277))
   go_roundg k1
   case measure => have := HK1.out; omega
   case rel => exact ⟨(wrap64 (x25_1 + 1)), Z4, H', ⟨by have := HK1.out; omega⟩, ⟨by repeat (first | (with_reducible first | exact HB.out | apply zzA | apply zzN | apply zzD | refine below_set ?_ GE277.out) | exact HB.out)⟩⟩
theorem thrumref14_CheckP.loop (x0 : Int) (x2 : List S26) (hb : x2.length ≤ 9223372036854775807) : ∀ (d i : Nat), d + i = x2.length →
    thrumref14_CheckP.l0 (d + 1) x0 x2 x2 (x2.length : Int) (i : Int) = some (fitsGo x0 (x2.drop i) x2.length true) := by
  intro d
  induction d with
  | zero =>
    intro i hd
    rw [thrumref14_CheckP.l0, if_neg (by omega), List.drop_eq_nil_of_le (by omega)]
    rw [fitsGo_nil]
    by_cases c2 : (x2.length : Int) = 0
    · rw [if_pos c2, if_pos (by omega)]
    · rw [if_neg c2]
      by_cases c3 : (x2.length : Int) > 64
      · rw [if_pos c3, if_pos (by omega)]
      · rw [if_neg c3, if_neg (by omega)]
  | succ d ih =>
    intro i hd
    have hi : i < x2.length := by omega
    rw [thrumref14_CheckP.l0, if_pos (by omega), if_pos (by omega), if_pos (by omega), rd_sm hi, List.drop_eq_getElem_cons hi, wrap64_of (by unfold I64; omega), show (i : Int) + 1 = ((i + 1 : Nat) : Int) by omega, ih (i + 1) (by omega), fitsGo_cons]
    by_cases c : (x2[i].f0.length : Int) = x0
    · rw [if_pos c, beq_iff_eq.2 c]
    · rw [if_neg c, beq_eq_false_iff_ne.2 c, fitsGo_false]
theorem thrumref14_Dim.of (a0 : Int) : thrumref14_Dim.f a0 = some (dimL a0) := linear_Dim.of a0
def thrumref14_Check.f (a0 : Int) (l1 : List Int) (l2 : List S26) : Option Int := some (checkL a0 l1 (l2.map sm))
theorem thrumref14_Check.calls (a0 : Int) (A1 : Option Addr) (c1 : Nat) (l1 : List Int) (A2 : Option Addr) (c2 : Nat) (l2 : List (S26)) (r : Int) (w : World) (hr1 : Kd.C (Kd.int .i64) w A1 l1.length l1) (hc1 : l1.length ≤ c1) (hr2 : Kd.C k26 w A2 l2.length l2) (hc2 : l2.length ≤ c2) (h : thrumref14_Check.f a0 l1 l2 = some r) :
    Calls Try.prog 93 #[.int .i64 a0, .slice A1 l1.length c1, .slice A2 l2.length c2] w fun e w' => e = .returned (.int .i64 r) ∧ Below w.heap.size w w' := by
  have hm := Kd.C_max hr2
  refine thrumref14_CheckP.calls (l2.length + 1) a0 A1 c1 l1 A2 c2 l2 r w hr1 hc1 hr2 hc2 (Eq.trans ?_ h)
  unfold thrumref14_CheckP.f thrumref14_Check.f
  rw [thrumref14_Dim.of, checkL_sm]
  unfold dimL
  simp only [Option.bind_some]
  by_cases c : a0 < 1 ∨ a0 > 16
  · rw [if_pos c, if_pos c]; rfl
  · rw [if_neg c, if_neg c]
    simp only [if_true]
    by_cases c2 : (l1.length : Int) = a0 + 1
    · rw [if_pos c2, beq_iff_eq.2 c2]
      exact thrumref14_CheckP.loop a0 l2 hm l2.length 0 (by omega)
    · rw [if_neg c2, beq_eq_false_iff_ne.2 c2]
      rw [fitsGo_false]


/-! ### thrumref01_TimesP: function 88 -/
def thrumref01_TimesP.f (a0 : Int) (a1 : Int) : Option (Int × Int) := some (IntKind.u64.wrap ((IntKind.u64.wrap ((IntKind.u64.wrap ((a0 / 4294967296) * (a1 / 4294967296))) + ((IntKind.u64.wrap ((IntKind.u64.wrap ((a0 / 4294967296) * (Go.bits .and .u64 a1 4294967295))) + ((IntKind.u64.wrap ((Go.bits .and .u64 a0 4294967295) * (Go.bits .and .u64 a1 4294967295))) / 4294967296))) / 4294967296))) + ((IntKind.u64.wrap ((IntKind.u64.wrap ((Go.bits .and .u64 a0 4294967295) * (a1 / 4294967296))) + (Go.bits .and .u64 (IntKind.u64.wrap ((IntKind.u64.wrap ((a0 / 4294967296) * (Go.bits .and .u64 a1 4294967295))) + ((IntKind.u64.wrap ((Go.bits .and .u64 a0 4294967295) * (Go.bits .and .u64 a1 4294967295))) / 4294967296))) 4294967295))) / 4294967296)), Go.bits .or .u64 (IntKind.u64.wrap ((IntKind.u64.wrap ((IntKind.u64.wrap ((Go.bits .and .u64 a0 4294967295) * (a1 / 4294967296))) + (Go.bits .and .u64 (IntKind.u64.wrap ((IntKind.u64.wrap ((a0 / 4294967296) * (Go.bits .and .u64 a1 4294967295))) + ((IntKind.u64.wrap ((Go.bits .and .u64 a0 4294967295) * (Go.bits .and .u64 a1 4294967295))) / 4294967296))) 4294967295))) * 4294967296)) (Go.bits .and .u64 (IntKind.u64.wrap ((Go.bits .and .u64 a0 4294967295) * (Go.bits .and .u64 a1 4294967295))) 4294967295))
set_option maxHeartbeats 8000000 in
set_option maxRecDepth 100000 in
theorem thrumref01_TimesP.calls (a0 : Int) (a1 : Int) (r1 : Int) (r2 : Int) (w : World) (h : thrumref01_TimesP.f a0 a1 = some (r1, r2)) :
  Calls Try.prog 88 #[.int .u64 a0, .int .u64 a1] w fun e w' => e = .returned (.tuple #[.int .u64 r1, .int .u64 r2]) ∧ Drawn0 w w' := by
 have H : (some (IntKind.u64.wrap ((IntKind.u64.wrap ((IntKind.u64.wrap ((a0 / 4294967296) * (a1 / 4294967296))) + ((IntKind.u64.wrap ((IntKind.u64.wrap ((a0 / 4294967296) * (Go.bits .and .u64 a1 4294967295))) + ((IntKind.u64.wrap ((Go.bits .and .u64 a0 4294967295) * (Go.bits .and .u64 a1 4294967295))) / 4294967296))) / 4294967296))) + ((IntKind.u64.wrap ((IntKind.u64.wrap ((Go.bits .and .u64 a0 4294967295) * (a1 / 4294967296))) + (Go.bits .and .u64 (IntKind.u64.wrap ((IntKind.u64.wrap ((a0 / 4294967296) * (Go.bits .and .u64 a1 4294967295))) + ((IntKind.u64.wrap ((Go.bits .and .u64 a0 4294967295) * (Go.bits .and .u64 a1 4294967295))) / 4294967296))) 4294967295))) / 4294967296)), Go.bits .or .u64 (IntKind.u64.wrap ((IntKind.u64.wrap ((IntKind.u64.wrap ((Go.bits .and .u64 a0 4294967295) * (a1 / 4294967296))) + (Go.bits .and .u64 (IntKind.u64.wrap ((IntKind.u64.wrap ((a0 / 4294967296) * (Go.bits .and .u64 a1 4294967295))) + ((IntKind.u64.wrap ((Go.bits .and .u64 a0 4294967295) * (Go.bits .and .u64 a1 4294967295))) / 4294967296))) 4294967295))) * 4294967296)) (Go.bits .and .u64 (IntKind.u64.wrap ((Go.bits .and .u64 a0 4294967295) * (Go.bits .and .u64 a1 4294967295))) 4294967295))) = some (r1, r2) := h
 clear h
 simp only [Option.some.injEq, Prod.mk.injEq] at H
 obtain ⟨rfl, rfl⟩ := H
 go_enter Try.func88, Try.ntmps88
 go_wp2
 go_ret2
 exact ⟨by first | rfl | (simp; done) | (simp [*]; done), by repeat (first | exact ddR _ | apply ddS)⟩
def thrumref01_Times.f (a0 a1 : Int) : Option (Int × Int) := if U64 a0 ∧ U64 a1 then some (a0 * a1 / 18446744073709551616, a0 * a1 % 18446744073709551616) else none
theorem thrumref01_Times.of (a0 a1 : Int)  (h_ : U64 a0 ∧ U64 a1) : thrumref01_Times.f a0 a1 = some (a0 * a1 / 18446744073709551616, a0 * a1 % 18446744073709551616) := if_pos h_
theorem thrumref01_TimesP.spec {a0 a1 : Int} (h0 : U64 a0) (h1 : U64 a1) : thrumref01_TimesP.f a0 a1 = some (a0 * a1 / 18446744073709551616, a0 * a1 % 18446744073709551616) := by
  unfold thrumref01_TimesP.f
  rw [and32 h0, and32 h1]
  unfold U64 at h0 h1
  obtain ⟨x, rfl⟩ := Int.eq_ofNat_of_zero_le h0.1
  obtain ⟨y, rfl⟩ := Int.eq_ofNat_of_zero_le h1.1
  have hx : x < 18446744073709551616 := by omega
  have hy : y < 18446744073709551616 := by omega
  have hm : ((x * y : Nat) : Int) = (x : Int) * y := by simp
  obtain ⟨k1, k2, k3, k4⟩ := Lib.mul64_hi x y hx hy
  have e1 : (x : Int) / 4294967296 * ((y : Int) / 4294967296) = ((x / 4294967296 * (y / 4294967296) : Nat) : Int) := by simp
  have e2 : (x : Int) / 4294967296 * ((y : Int) % 4294967296) = ((x / 4294967296 * (y % 4294967296) : Nat) : Int) := by simp
  have e3 : (x : Int) % 4294967296 * ((y : Int) % 4294967296) = ((x % 4294967296 * (y % 4294967296) : Nat) : Int) := by simp
  have e4 : (x : Int) % 4294967296 * ((y : Int) / 4294967296) = ((x % 4294967296 * (y / 4294967296) : Nat) : Int) := by simp
  have ha := Lib.half_mul_le (a := x / 4294967296) (b := y / 4294967296) (by omega) (by omega)
  have hb := Lib.half_mul_le (a := x / 4294967296) (b := y % 4294967296) (by omega) (by omega)
  have hc := Lib.half_mul_le (a := x % 4294967296) (b := y / 4294967296) (by omega) (by omega)
  have hd := Lib.half_mul_le (a := x % 4294967296) (b := y % 4294967296) (by omega) (by omega)
  have hsp : x * y = (x / 4294967296) * (y / 4294967296) * (4294967296 * 4294967296) + ((x / 4294967296) * (y % 4294967296) + (x % 4294967296) * (y / 4294967296)) * 4294967296 + (x % 4294967296) * (y % 4294967296) := by
    rw [← Lib.split_mul, Nat.div_add_mod' x 4294967296, Nat.div_add_mod' y 4294967296]
  rw [← hm]
  simp only [wu, and32m, e1, e2, e3, e4]
  clear e1 e2 e3 e4 hm
  generalize x / 4294967296 * (y / 4294967296) = a at *
  generalize x / 4294967296 * (y % 4294967296) = b at *
  generalize x % 4294967296 * (y / 4294967296) = c at *
  generalize x % 4294967296 * (y % 4294967296) = d at *
  generalize x * y = p at *
  rw [or_join 32 (by unfold U64; omega) Z41 (by omega) Z41 (by unfold U64; omega)]
  simp only [Option.some.injEq, Prod.mk.injEq]
  omega
theorem thrumref01_Times.calls (a0 : Int) (a1 : Int) (r1 : Int) (r2 : Int) (w : World) (h : thrumref01_Times.f a0 a1 = some (r1, r2)) :
    Calls Try.prog 88 #[.int .u64 a0, .int .u64 a1] w fun e w' => e = .returned (.tuple #[.int .u64 r1, .int .u64 r2]) ∧ Drawn0 w w' := by
  unfold thrumref01_Times.f at h
  split at h
  · rename_i hu
    exact thrumref01_TimesP.calls a0 a1 r1 r2 w ((thrumref01_TimesP.spec hu.1 hu.2).trans h)
  · cases h


/-! ### thrumref01_sizeP: function 89 -/
def thrumref01_sizeP.f (a0 : Int) : Option (Int) := if a0 < 0 then (some (IntKind.u64.wrap ((IntKind.u64.wrap (wrap64 (-(wrap64 (a0 + 1))))) + 1))) else (some (IntKind.u64.wrap (a0)))
set_option maxHeartbeats 8000000 in
set_option maxRecDepth 100000 in
theorem thrumref01_sizeP.calls (a0 : Int) (r : Int) (w : World) (h : thrumref01_sizeP.f a0 = some r) :
  Calls Try.prog 89 #[.int .i64 a0] w fun e w' => e = .returned (.int .u64 r) ∧ Drawn0 w w' := by
 have H : (if a0 < 0 then (some (IntKind.u64.wrap ((IntKind.u64.wrap (wrap64 (-(wrap64 (a0 + 1))))) + 1))) else (some (IntKind.u64.wrap (a0)))) = some r := h
 clear h
 by_cases c2 : a0 < 0
 case neg =>
  rw [if_neg c2] at H
  have c2b0 : decide (a0 < 0) = false := decide_eq_false c2
  clear c2
  obtain rfl := Option.some.inj H
  go_enter Try.func89, Try.ntmps89
  go_wp2
  go_ret
  exact ⟨by first | rfl | (simp; done) | (simp [*]; done), by repeat (first | exact ddR _ | apply ddS)⟩
 rw [if_pos c2] at H
 have c2b0 : decide (a0 < 0) = true := decide_eq_true c2
 clear c2
 obtain rfl := Option.some.inj H
 go_enter Try.func89, Try.ntmps89
 go_wp2
 go_ret
 exact ⟨by first | rfl | (simp; done) | (simp [*]; done), by repeat (first | exact ddR _ | apply ddS)⟩
def thrumref01_size.f (a0 : Int) : Option Int := if I64 a0 then some (a0.natAbs : Int) else none
theorem thrumref01_size.of (a0 : Int)  (h_ : I64 a0) : thrumref01_size.f a0 = some (a0.natAbs : Int) := if_pos h_
theorem thrumref01_size.calls (a0 : Int) (r : Int) (w : World) (h : thrumref01_size.f a0 = some r) :
    Calls Try.prog 89 #[.int .i64 a0] w fun e w' => e = .returned (.int .u64 r) ∧ Drawn0 w w' := by
  unfold thrumref01_size.f at h
  split at h
  · rename_i hu
    refine thrumref01_sizeP.calls a0 r w (Eq.trans ?_ h)
    unfold thrumref01_sizeP.f; unfold I64 at hu; simp only [wu, wrap64_def]
    split <;> simp only [Option.some.injEq] <;> omega
  · cases h


end Go.Proofs.Ytgilbdpbfmpcpaa.HS
