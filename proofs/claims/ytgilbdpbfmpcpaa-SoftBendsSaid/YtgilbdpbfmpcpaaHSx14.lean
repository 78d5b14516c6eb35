/- What Go functions do, each as a plain Lean function with the same answers, and the proof of it, in every world: printed by the session's driver over the kit's print, with texts by hand. -/
import Derived.Test.YtgilbdpbfmpcpaaHSx0
import Derived.Test.YtgilbdpbfmpcpaaHSx13
import Derived.Test.YtgilbdpbfmpcpaaMini
namespace Go.Proofs.Ytgilbdpbfmpcpaa.HS
open Go.RowKit Go.Proofs.YtgilbdpbfmpcpaaW.PrintWords Go.Proofs.YtgilbdpbfmpcpaaW.PrintLast Go.Proofs.YtgilbdpbfmpcpaaW.PrintMore
attribute [local go_sem] max2_int min2_int max_two min_two max_three min_three max_four min_four   -- for this text's walks alone
open Go.Proofs.Ytgilbdpbfmpcpaa.Sp
attribute [local go_sem] Go.Proofs.Ytgilbdpbfmpcpaa.Sp.u64_not
set_option linter.unusedVariables false
set_option linter.unusedSimpArgs false

/-! ### thrumref13_ExpP: function 87 -/
mutual
def thrumref13_ExpP.j0 : Nat → Int → Int → Bool → Option (Int × Int)
 | 0, _, _, _ => none
 | k + 1, x0, x1, x22 => if x22 = true then (some (0, 1)) else ((thrumref01_Neg.f x0).bind fun bt323 => (if bt323.2 = 0 then (if 0 ≤ x1 then (if (shl .i64 1 x1) = 0 then (none) else ((thrumref13_Rows.f).bind fun t325 => (if 0 ≤ (wrap64 (Int.tdiv (wrap64 ((Int.tmod bt323.1 (shl .i64 1 x1)) * 16)) (shl .i64 1 x1))) then (if (wrap64 (Int.tdiv (wrap64 ((Int.tmod bt323.1 (shl .i64 1 x1)) * 16)) (shl .i64 1 x1))) < (t325.length : Int) then (thrumref13_ExpP.l0 k (wrap64 (Int.tdiv bt323.1 (shl .i64 1 x1))) (rd t325 (wrap64 (Int.tdiv (wrap64 ((Int.tmod bt323.1 (shl .i64 1 x1)) * 16)) (shl .i64 1 x1)))) (wrap64 (30 - x1)) 0) else (none)) else (none)))) else (none)) else (some (0, bt323.2))))
def thrumref13_ExpP.l0 : Nat → Int → Int → Int → Int → Option (Int × Int)
 | 0, _, _, _, _ => none
 | k + 1, x9, x11, x47, x48 => if x48 < x47 then (thrumref13_ExpP.l0 k x9 (IntKind.u64.wrap (Int.tdiv x11 2)) x47 (wrap64 (x48 + 1))) else (thrumref13_ExpP.l1 k x9 x11 0)
def thrumref13_ExpP.l1 : Nat → Int → Int → Int → Option (Int × Int)
 | 0, _, _, _ => none
 | k + 1, x9, x11, x12 => if x12 < x9 then (if x11 > 0 then (thrumref13_ExpP.l1 k x9 (IntKind.u64.wrap (Int.tdiv x11 2)) (wrap64 (x12 + 1))) else (some (wrap64 (x11), 0))) else (some (wrap64 (x11), 0))
end
def thrumref13_ExpP.f (k : Nat) (a0 : Int) (a1 : Int) : Option (Int × Int) := if a1 < 0 then (thrumref13_ExpP.j0 k a0 a1 true) else (if a1 > 30 then (thrumref13_ExpP.j0 k a0 a1 true) else (thrumref13_ExpP.j0 k a0 a1 (decide (a0 > 0))))
theorem thrumref13_ExpP.mono_l : ∀ k, (∀ y0 y1 y2, LeO (thrumref13_ExpP.j0 k y0 y1 y2) (thrumref13_ExpP.j0 (k + 1) y0 y1 y2)) ∧ (∀ y0 y1 y2 y3, LeO (thrumref13_ExpP.l0 k y0 y1 y2 y3) (thrumref13_ExpP.l0 (k + 1) y0 y1 y2 y3)) ∧ (∀ y0 y1 y2, LeO (thrumref13_ExpP.l1 k y0 y1 y2) (thrumref13_ExpP.l1 (k + 1) y0 y1 y2))
 | 0 => ⟨fun _ _ _ r h => by simp [thrumref13_ExpP.j0] at h, fun _ _ _ _ r h => by simp [thrumref13_ExpP.l0] at h, fun _ _ _ r h => by simp [thrumref13_ExpP.l1] at h⟩
 | k + 1 => by
  obtain ⟨ih0, ih1, ih2⟩ := thrumref13_ExpP.mono_l k
  refine ⟨?_, ?_, ?_⟩
  ·
   intro y0 y1 y2
   unfold thrumref13_ExpP.j0
   repeat' first
   | (with_reducible exact ih0 _ _ _)
   | (with_reducible exact ih1 _ _ _ _)
   | (with_reducible exact ih2 _ _ _)
   | (with_reducible exact LeO.refl _)
   | (with_reducible exact LeO.none _)
   | (with_reducible refine LeO.ite ?_ ?_)
   | (with_reducible refine LeO.bind ?_ (fun _ => ?_))
  ·
   intro y0 y1 y2 y3
   unfold thrumref13_ExpP.l0
   repeat' first
   | (with_reducible exact ih0 _ _ _)
   | (with_reducible exact ih1 _ _ _ _)
   | (with_reducible exact ih2 _ _ _)
   | (with_reducible exact LeO.refl _)
   | (with_reducible exact LeO.none _)
   | (with_reducible refine LeO.ite ?_ ?_)
   | (with_reducible refine LeO.bind ?_ (fun _ => ?_))
  ·
   intro y0 y1 y2
   unfold thrumref13_ExpP.l1
   repeat' first
   | (with_reducible exact ih0 _ _ _)
   | (with_reducible exact ih1 _ _ _ _)
   | (with_reducible exact ih2 _ _ _)
   | (with_reducible exact LeO.refl _)
   | (with_reducible exact LeO.none _)
   | (with_reducible refine LeO.ite ?_ ?_)
   | (with_reducible refine LeO.bind ?_ (fun _ => ?_))
theorem thrumref13_ExpP.mono : ∀ a0 a1 k, LeO (thrumref13_ExpP.f k a0 a1) (thrumref13_ExpP.f (k + 1) a0 a1) := by
 intro a0 a1 k
 obtain ⟨ih0, ih1, ih2⟩ := thrumref13_ExpP.mono_l k
 unfold thrumref13_ExpP.f
 repeat' first
   | (with_reducible exact ih0 _ _ _)
   | (with_reducible exact ih1 _ _ _ _)
   | (with_reducible exact ih2 _ _ _)
   | (with_reducible exact LeO.refl _)
   | (with_reducible exact LeO.none _)
   | (with_reducible refine LeO.ite ?_ ?_)
   | (with_reducible refine LeO.bind ?_ (fun _ => ?_))
def thrumref13_ExpP.T9 : Bool × List (List Nat × List Nat) := (true, [([], []), ([], []), ([1], [1]), ([], []), ([2, 3], [2, 3]), ([0, 4], [0, 4]), ([5], [5]), ([6, 0, 0, 1, 2, 3, 4, 5, 6], [6])])
def thrumref13_ExpP.B9 : List Nat := [0, 0, 2, 0, 14, 31, 63, 127]
theorem thrumref13_ExpP.tab9 : rtab .any (opsOf Try.f87 9) = thrumref13_ExpP.T9 := by kernel_rfl
theorem thrumref13_ExpP.bits9 : waitsOk thrumref13_ExpP.T9.2 thrumref13_ExpP.B9 = true := by kernel_rfl
set_option maxHeartbeats 8000000 in
set_option maxRecDepth 100000 in
theorem thrumref13_ExpP.calls (k : Nat) (a0 : Int) (a1 : Int) (r1 : Int) (r2 : Int) (w : World) (h : thrumref13_ExpP.f k a0 a1 = some (r1, r2)) :
  Calls Try.prog 87 #[.int .i64 a0, .int .i64 a1] w fun e w' => e = .returned (.tuple #[.int .i64 r1, .int .i64 r2]) ∧ Below w.heap.size w w' := by
 have HB := ZM (Below.refl w.heap.size w)
 have H : (if a1 < 0 then (thrumref13_ExpP.j0 k a0 a1 true) else (if a1 > 30 then (thrumref13_ExpP.j0 k a0 a1 true) else (thrumref13_ExpP.j0 k a0 a1 (decide (a0 > 0))))) = some (r1, r2) := h
 clear h
 have HC3 := ZM H
 clear H
 go_enter Try.func87, Try.ntmps87
 go_upto_region 1 with (fail)
 go_cut [22] (fun v22 wc => ∃ (kq : Nat) (x22_2 : Bool), v22 = .bool x22_2 ∧ Aside0 (thrumref13_ExpP.j0 kq a0 a1 x22_2 = some (r1, r2)) ∧ Aside0 (kq ≤ k) ∧ Aside0 (Below w.heap.size w wc))
 case first =>
  have H := HC3.out
  clear HC3
  by_cases c4 : a1 < 0
  ·
   rw [if_pos c4] at H
   have c4b0 : decide (a1 < 0) = true := decide_eq_true c4
   clear c4
   (first | rw [c4b0] | (simp only [i64_w, i32_w]; rw [c4b0]) | skip)
   have H' := ZM H
   clear H
   go_wp2
   go_meet
   case rel => exact ⟨_, (true), Z4, H', ⟨by first | omega | exact Nat.le_refl _⟩, ⟨by repeat (first | (with_reducible first | exact HB.out | apply zzA | apply zzN | apply zzD) | exact HB.out)⟩⟩
  rw [if_neg c4] at H
  have c4b0 : decide (a1 < 0) = false := decide_eq_false c4
  clear c4
  (first | rw [c4b0] | (simp only [i64_w, i32_w]; rw [c4b0]) | skip)
  by_cases c5 : a1 > 30
  case neg =>
   rw [if_neg c5] at H
   have c5b0 : decide (30 < a1) = false := decide_eq_false c5
   clear c5
   have H' := ZM H
   clear H
   go_wp2
   go_meet
   case rel => exact ⟨_, (decide (a0 > 0)), Z4, H', ⟨by first | omega | exact Nat.le_refl _⟩, ⟨by repeat (first | (with_reducible first | exact HB.out | apply zzA | apply zzN | apply zzD) | exact HB.out)⟩⟩
  rw [if_pos c5] at H
  have c5b0 : decide (30 < a1) = true := decide_eq_true c5
  clear c5
  have H' := ZM H
  clear H
  go_wp2
  go_meet
  case rel => exact ⟨_, (true), Z4, H', ⟨by first | omega | exact Nat.le_refl _⟩, ⟨by repeat (first | (with_reducible first | exact HB.out | apply zzA | apply zzN | apply zzD) | exact HB.out)⟩⟩
 clear HC3
 try clear p2
 try clear c4
 try clear c4b0
 try clear c5
 try clear c5b0
 obtain ⟨kq, x22_2, rfl, HA, HJ2, HB⟩ := hcut
 cases kq with
 | zero => exact absurd HA.out (by simp [thrumref13_ExpP.j0])
 | succ kj2 =>
  have H := HA.out
  clear HA
  simp only [thrumref13_ExpP.j0] at H
  by_cases c6 : x22_2 = true
  ·
   subst c6
   have H1 : (some (0, 1)) = some (r1, r2) := by rw [if_pos rfl] at H; exact H
   clear H
   have H := H1
   clear H1
   simp only [Option.some.injEq, Prod.mk.injEq] at H
   obtain ⟨rfl, rfl⟩ := H
   go_wp2
   go_ret2
   exact ⟨by first | rfl | (simp [errW_none, errW_some] <;> rfl) | (simp [*, errW_none, errW_some] <;> rfl), by repeat (first | (with_reducible first | exact HB.out | apply zzA | apply zzN | apply zzD) | exact HB.out)⟩
  replace c6 := Bool.eq_false_iff.mpr c6
  subst c6
  have H1 : ((thrumref01_Neg.f a0).bind fun bt323 => (if bt323.2 = 0 then (if 0 ≤ a1 then (if (shl .i64 1 a1) = 0 then (none) else ((thrumref13_Rows.f).bind fun t325 => (if 0 ≤ (wrap64 (Int.tdiv (wrap64 ((Int.tmod bt323.1 (shl .i64 1 a1)) * 16)) (shl .i64 1 a1))) then (if (wrap64 (Int.tdiv (wrap64 ((Int.tmod bt323.1 (shl .i64 1 a1)) * 16)) (shl .i64 1 a1))) < (t325.length : Int) then (thrumref13_ExpP.l0 kj2 (wrap64 (Int.tdiv bt323.1 (shl .i64 1 a1))) (rd t325 (wrap64 (Int.tdiv (wrap64 ((Int.tmod bt323.1 (shl .i64 1 a1)) * 16)) (shl .i64 1 a1)))) (wrap64 (30 - a1)) 0) else (none)) else (none)))) else (none)) else (some (0, bt323.2)))) = some (r1, r2) := by rw [if_neg (show ¬ (false = true) by decide)] at H; exact H
  clear H
  have H := H1
  clear H1
  replace H := Option.bind_eq_some_iff.mp H
  obtain ⟨⟨t323, t324⟩, A70, H⟩ := H
  replace H : (if t324 = 0 then (if 0 ≤ a1 then (if (shl .i64 1 a1) = 0 then (none) else ((thrumref13_Rows.f).bind fun t325 => (if 0 ≤ (wrap64 (Int.tdiv (wrap64 ((Int.tmod t323 (shl .i64 1 a1)) * 16)) (shl .i64 1 a1))) then (if (wrap64 (Int.tdiv (wrap64 ((Int.tmod t323 (shl .i64 1 a1)) * 16)) (shl .i64 1 a1))) < (t325.length : Int) then (thrumref13_ExpP.l0 kj2 (wrap64 (Int.tdiv t323 (shl .i64 1 a1))) (rd t325 (wrap64 (Int.tdiv (wrap64 ((Int.tmod t323 (shl .i64 1 a1)) * 16)) (shl .i64 1 a1)))) (wrap64 (30 - a1)) 0) else (none)) else (none)))) else (none)) else (some (0, t324))) = some (r1, r2) := H
  have A7 := ZM A70
  clear A70
  by_cases c8 : t324 = 0
  case neg =>
   rw [if_neg c8] at H
   have c8b0 : (t324 == 0) = false := beq_eq_false_iff_ne.mpr c8
   have c8b1 : (t324 != 0) = true := bne_iff_ne.mpr c8
   simp only [Option.some.injEq, Prod.mk.injEq] at H
   obtain ⟨rfl, rfl⟩ := H
   go_wp2_with (first | ((with_reducible refine gate_callee (f := 97) rfl ?_); refine goesL_ (some 25) rfl rfl Try.func97 (by kernel_rfl) rfl #[.int .i64 a0] rfl Z2 ?_; (with_reducible refine (thrumref01_Neg.calls a0 t323 t324 _ A7.out).mono ?_); rintro e w' ⟨rfl, ⟨nd, rfl⟩⟩; refine ⟨_, rfl, ?_⟩))
   go_ret2
   exact ⟨by first | rfl | (simp [errW_none, errW_some] <;> rfl) | (simp [*, errW_none, errW_some] <;> rfl), by repeat (first | (with_reducible first | exact HB.out | apply zzA | apply zzN | apply zzD) | exact HB.out)⟩
  rw [if_pos c8] at H
  have c8b0 : (t324 == 0) = true := beq_iff_eq.mpr c8
  have c8b1 : (t324 != 0) = false := bne_eq_false_iff_eq.mpr c8
  clear c8
  by_cases c9 : 0 ≤ a1
  case neg =>
   rw [if_neg c9] at H
   exact absurd H (by simp)
  rw [if_pos c9] at H
  have c9b0 := eq_true c9
  have c9b1 : decide (0 ≤ a1) = true := decide_eq_true c9
  clear c9
  obtain ⟨ji10, hji10⟩ : ∃ j_ : Int, (shl .i64 1 a1) = j_ := ⟨_, rfl⟩
  replace H : (if (ji10) = 0 then (none) else ((thrumref13_Rows.f).bind fun t325 => (if 0 ≤ (wrap64 (Int.tdiv (wrap64 ((Int.tmod t323 (ji10)) * 16)) (ji10))) then (if (wrap64 (Int.tdiv (wrap64 ((Int.tmod t323 (ji10)) * 16)) (ji10))) < (t325.length : Int) then (thrumref13_ExpP.l0 kj2 (wrap64 (Int.tdiv t323 (ji10))) (rd t325 (wrap64 (Int.tdiv (wrap64 ((Int.tmod t323 (ji10)) * 16)) (ji10)))) (wrap64 (30 - a1)) 0) else (none)) else (none)))) = some (r1, r2) := by first | (rw [hji10] at H; exact H) | (simp only [hji10] at H ⊢; exact H)
  (try rw [hji10] at A7)
  have hji10_ : (IntKind.i64.wrap (1 * 2 ^ min a1.toNat 64)) = ji10 := hji10
  have hji10z : a1 ≤ 64 → (IntKind.i64.wrap (1 * 2 ^ a1.toNat)) = ji10 := shl_small hji10
  have hji10u : (IntKind.i64.wrap (2 ^ min a1.toNat 64)) = ji10 := by have h_ := hji10_; rw [Int.one_mul] at h_; exact h_
  have hji10v : a1 ≤ 64 → (IntKind.i64.wrap (2 ^ a1.toNat)) = ji10 := fun hle_ => by have h_ := hji10z hle_; rw [Int.one_mul] at h_; exact h_
  have hji10y : (wrap64 (1 * 2 ^ min a1.toNat 64)) = ji10 := (i64_w _).symm.trans hji10_
  have hji10x : a1 ≤ 64 → (wrap64 (1 * 2 ^ a1.toNat)) = ji10 := fun h_ => (i64_w _).symm.trans (hji10z h_)
  by_cases c11 : (ji10) = 0
  ·
   rw [if_pos c11] at H
   exact absurd H (by simp)
  rw [if_neg c11] at H
  have c11b0 : ((ji10) == 0) = false := beq_eq_false_iff_ne.mpr c11
  have c11b1 : ((ji10) != 0) = true := bne_iff_ne.mpr c11
  replace H := Option.bind_eq_some_iff.mp H
  obtain ⟨t325, A120, H⟩ := H
  replace H : (if 0 ≤ (wrap64 (Int.tdiv (wrap64 ((Int.tmod t323 (ji10)) * 16)) (ji10))) then (if (wrap64 (Int.tdiv (wrap64 ((Int.tmod t323 (ji10)) * 16)) (ji10))) < (t325.length : Int) then (thrumref13_ExpP.l0 kj2 (wrap64 (Int.tdiv t323 (ji10))) (rd t325 (wrap64 (Int.tdiv (wrap64 ((Int.tmod t323 (ji10)) * 16)) (ji10)))) (wrap64 (30 - a1)) 0) else (none)) else (none)) = some (r1, r2) := H
  have A12 := ZM A120
  clear A120
  obtain ⟨ji13, hji13⟩ : ∃ j_ : Int, (wrap64 (Int.tdiv (wrap64 ((Int.tmod t323 (ji10)) * 16)) (ji10))) = j_ := ⟨_, rfl⟩
  replace H : (if 0 ≤ (ji13) then (if (ji13) < (t325.length : Int) then (thrumref13_ExpP.l0 kj2 (wrap64 (Int.tdiv t323 (ji10))) (rd t325 (ji13)) (wrap64 (30 - a1)) 0) else (none)) else (none)) = some (r1, r2) := by first | (rw [hji13] at H; exact H) | (simp only [hji13] at H ⊢; exact H)
  (try rw [hji13] at A7)
  (try rw [hji13] at A12)
  have hji13w : (IntKind.i64.wrap (Int.tdiv (wrap64 ((Int.tmod t323 (ji10)) * 16)) (ji10))) = ji13 := (i64_w _).trans hji13
  by_cases c14 : 0 ≤ (ji13)
  case neg =>
   rw [if_neg c14] at H
   exact absurd H (by simp)
  rw [if_pos c14] at H
  have c14b0 : decide (0 ≤ (ji13)) = true := decide_eq_true c14
  clear c14
  by_cases c15 : (ji13) < (t325.length : Int)
  case neg =>
   rw [if_neg c15] at H
   exact absurd H (by simp)
  rw [if_pos c15] at H
  have c15b0 : decide ((ji13) < (t325.length : Int)) = true := decide_eq_true c15
  clear c15
  have H' := ZM H
  clear H
  try go_wp2_with (first | ((with_reducible refine gate_callee (f := 97) rfl ?_); refine goesL_ (some 25) rfl rfl Try.func97 (by kernel_rfl) rfl #[.int .i64 a0] rfl Z2 ?_; (with_reducible refine (thrumref01_Neg.calls a0 t323 t324 _ A7.out).mono ?_); rintro e w' ⟨rfl, ⟨nd, rfl⟩⟩; refine ⟨_, rfl, ?_⟩))
  (try (rw [drewN_self wc]; generalize hq_ : World.drewN wc _ = wc; have n0_ : Aside0 (Below w.heap.size w wc) := ⟨by rw [← hq_]; exact Z1⟩; clear HB hq_; have HB := n0_; clear n0_))
  have n0_ := ZM (zzD HB.out)
  clear HB
  have HB := n0_
  clear n0_
  refine start_ (n := 8) (S := fun _ => True) (ds := []) #[false, false, false, false, false, false, false, false] (by kernel_rfl) rfl rfl trivial (fun hHeld => ?_); refine with_tabW thrumref13_ExpP.tab9 thrumref13_ExpP.bits9 (fun HT_ HW_ => ?_)
  generalize wc.drew = w16 at HB hHeld ⊢
  refine pure_ (i := 1) (N := some 40) (v := ?_) (a' := ?_) #[false, true, false, false, false, false, false, false] rfl rfl (any_of HT_.out (by kernel_rfl)) (fun _ _ _ h => h) (Or.inl ⟨by rfl, ?_⟩) ?_ ?_
  rotate_left
  ·
   intro w'
   go_simp
   with_reducible rfl
  rotate_left
  ·
   simp only [Act.put, Zs]
   rfl
  refine pure_ (i := 2) (N := some 41) (v := ?_) (a' := ?_) #[false, true, true, false, false, false, false, false] rfl rfl (any_of HT_.out (by kernel_rfl)) (fun _ _ _ h => h) (Or.inl ⟨by rfl, ?_⟩) ?_ ?_
  rotate_left
  ·
   intro w'
   go_simp
   with_reducible rfl
  rotate_left
  ·
   simp only [Act.put, Zs]
   rfl
  refine pure_ (i := 3) (N := some 42) (v := ?_) (a' := ?_) #[false, true, true, true, false, false, false, false] rfl rfl (any_of HT_.out (by kernel_rfl)) (fun _ _ _ h => h) (Or.inl ⟨by rfl, ?_⟩) ?_ ?_
  rotate_left
  ·
   intro w'
   go_simp
   with_reducible rfl
  rotate_left
  ·
   simp only [Act.put, Zs]
   rfl
  refine pure_ (i := 4) (N := some 43) (v := ?_) (a' := ?_) #[false, true, true, true, true, false, false, false] rfl rfl (any_of HT_.out (by kernel_rfl)) (fun _ _ _ h => h) (Or.inl ⟨by rfl, ?_⟩) ?_ ?_
  rotate_left
  ·
   intro w'
   go_simp
   with_reducible rfl
  rotate_left
  ·
   simp only [Act.put, Zs]
   rfl
  refine one_ (i := 0) (N := some 39) #[true, true, true, true, true, false, false, false] rfl rfl (one_of HT_.out (by kernel_rfl)) (by decide) (fun K hK => ?_)
  refine goes_ Try.func98 (by kernel_rfl) rfl #[] (by rfl) rfl rfl Z2 ?_
  with_reducible refine (thrumref13_Rows.calls  t325 _ A12.out).mono ?_
  rintro e w17 ⟨v326, rfl, ho0, hb⟩
  have HS0_ : True := trivial
  refine ⟨_, rfl, ?_⟩
  have n0_ := ZM (Kd.R_lower ho0 (zzS Z1))
  have n1_ := ZM (zzT Z1 hb)
  clear HB
  have HO327 := n0_
  have HB := n1_
  clear n0_ n1_
  (try clear hb)
  (try clear hb2)
  (try clear hk)
  (try clear hi)
  (try clear ho0)
  obtain ⟨Ao18, co18, eo18⟩ := Kd.R_slice HO327.out
  (first | subst eo18 | (injection eo18 with f1_ f2_ f3_; have f4_ := f1_.symm; have f5_ := f3_.symm; clear f1_ f2_ f3_; subst f4_; subst f5_))
  have p328 : 0 ≤ ((ji13) : Int) := of_decide_eq_true Z3
  have q328 : (ji13) < (t325.length : Int) := of_decide_eq_true Z3
  obtain ⟨ad328, e328, hx328_0⟩ := Kd.at_int (Kd.R_reads' HO327.out).2.2 (ji13) p328 q328
  cases e328
  replace p328 := eq_true p328
  replace q328 := eq_true q328
  refine hK.out _ _ (HS0_) (fun hHeld => ?_)
  clear hK K
  refine norm_ (a' := ?_) ?_ ?_
  rotate_left
  ·
   show Act.put _ (some 39) _ = _
   simp only [Act.put, Zs]
   rfl
  refine pure_ (i := 5) (N := some 44) (v := ?_) (a' := ?_) #[true, true, true, true, true, true, false, false] rfl rfl (any_of HT_.out (by kernel_rfl)) (fun _ _ _ h => h) (Or.inl ⟨by rfl, ?_⟩) ?_ ?_
  rotate_left
  ·
   intro w'
   go_simp
   with_reducible rfl
  rotate_left
  ·
   simp only [Act.put, Zs]
   rfl
  refine one_ (i := 6) (N := some 45) #[true, true, true, true, true, true, true, false] rfl rfl (one_of HT_.out (by kernel_rfl)) (by decide) (fun K hK => ?_)
  refine value_ (v := ?_) (w1 := ?_) rfl rfl ?_ ?_
  rotate_left 2
  ·
   go_simp
   first | (refine And.intro ?_ ?_ <;> rfl) | rfl
  refine hK.out _ _ trivial (fun hHeld => ?_)
  clear hK K
  refine norm_ (a' := ?_) ?_ ?_
  rotate_left
  ·
   show Act.put _ (some 45) _ = _
   simp only [Act.put, Zs]
   rfl
  refine pure_ (i := 7) (N := some 11) (v := ?_) (a' := ?_) #[true, true, true, true, true, true, true, true] rfl rfl (any_of HT_.out (by kernel_rfl)) (fun _ _ _ h => h) (Or.inl ⟨by rfl, ?_⟩) ?_ ?_
  rotate_left
  ·
   intro w'
   go_simp
   with_reducible rfl
  rotate_left
  ·
   simp only [Act.put, Zs]
   rfl
  refine done_ (done_of HT_.out (by kernel_rfl)) ?_
  try go_wp2
  go_loopg [11, 48] kj2 (fun kq v11 v48 w' => ∃ (x11_2 : Int) (x48_2 : Int), v11 = .int .u64 x11_2 ∧ v48 = .int .i64 x48_2 ∧ Aside0 (thrumref13_ExpP.l0 kq (wrap64 (Int.tdiv t323 (ji10))) x11_2 (wrap64 (30 - a1)) x48_2 = some (r1, r2)) ∧ Aside0 (kq ≤ kj2) ∧ Aside0 (Below w.heap.size w w'))
  case atStart => exact ⟨(rd t325 (ji13)), (0), (by first | rfl | (simp; done) | (simp only [← hji13] <;> (first | rfl | simp)) | (simp [*]; done)), Z4, H', ⟨Nat.le_refl _⟩, ⟨by repeat (first | (with_reducible first | exact HB.out | apply zzA | apply zzN | apply zzD) | exact HB.out)⟩⟩
  case round =>
   clear H'
   try clear c1
   try clear p2
   try clear p3
   try clear q3
   try clear hx3
   try clear c4
   try clear c4b0
   try clear c5
   try clear c5b0
   try clear c6
   try clear p6
   try clear c8
   try clear c8b0
   try clear c8b1
   try clear c9
   try clear c9b0
   try clear c9b1
   try clear c11
   try clear c11b0
   try clear c11b1
   try clear c14
   try clear c14b0
   try clear c15
   try clear c15b0
   try clear hx328_0
   try clear p2
   try clear p328
   try clear q328
   obtain ⟨x11_2, x48_2, rfl, rfl, HA, HK2, HB⟩ := hrel
   cases gk with
   | zero => exact absurd HA.out (by simp [thrumref13_ExpP.l0])
   | succ k2 =>
    have H := HA.out
    clear HA
    simp only [thrumref13_ExpP.l0] at H
    by_cases c19 : x48_2 < (wrap64 (30 - a1))
    ·
     rw [if_pos c19] at H
     have c19b0 : decide (x48_2 < (wrap64 (30 - a1))) = true := decide_eq_true c19
     clear c19
     have H' := ZM H
     clear H
     go_wp2
     go_roundg k2
     case measure => have := HJ2.out; have := HK2.out; omega
     case rel => exact ⟨(IntKind.u64.wrap (Int.tdiv x11_2 2)), (wrap64 (x48_2 + 1)), Z4, Z4, H', ⟨by have := HJ2.out; have := HK2.out; omega⟩, ⟨by repeat (first | (with_reducible first | exact HB.out | apply zzA | apply zzN | apply zzD) | exact HB.out)⟩⟩
    rw [if_neg c19] at H
    have c19b0 : decide (x48_2 < (wrap64 (30 - a1))) = false := decide_eq_false c19
    clear c19
    have H' := ZM H
    clear H
    go_wp2
    go_loopg [11, 12] k2 (fun kq v11 v12 w' => ∃ (x11_3 : Int) (x12_3 : Int), v11 = .int .u64 x11_3 ∧ v12 = .int .i64 x12_3 ∧ Aside0 (thrumref13_ExpP.l1 kq (wrap64 (Int.tdiv t323 (ji10))) x11_3 x12_3 = some (r1, r2)) ∧ Aside0 (kq ≤ k2) ∧ Aside0 (Below w.heap.size w w'))
    case atStart => exact ⟨(x11_2), (0), Z4, Z4, H', ⟨Nat.le_refl _⟩, ⟨by repeat (first | (with_reducible first | exact HB.out | apply zzA | apply zzN | apply zzD) | exact HB.out)⟩⟩
    case round =>
     clear H'
     try clear c1
     try clear p2
     try clear p3
     try clear q3
     try clear hx3
     try clear c4
     try clear c4b0
     try clear c5
     try clear c5b0
     try clear c6
     try clear p6
     try clear c8
     try clear c8b0
     try clear c8b1
     try clear c9
     try clear c9b0
     try clear c9b1
     try clear c11
     try clear c11b0
     try clear c11b1
     try clear c14
     try clear c14b0
     try clear c15
     try clear c15b0
     try clear c19
     try clear c19b0
     try clear hx328_0
     try clear p2
     try clear p3
     try clear p328
     try clear p6
     try clear q3
     try clear q328
     obtain ⟨x11_3, x12_3, rfl, rfl, HA, HK3, HB⟩ := hrel
     cases gk with
     | zero => exact absurd HA.out (by simp [thrumref13_ExpP.l1])
     | succ k3 =>
      have H := HA.out
      clear HA
      simp only [thrumref13_ExpP.l1] at H
      by_cases c20 : x12_3 < (wrap64 (Int.tdiv t323 (ji10)))
      case neg =>
       rw [if_neg c20] at H
       have c20b0 : decide (x12_3 < (wrap64 (Int.tdiv t323 (ji10)))) = false := decide_eq_false c20
       clear c20
       simp only [Option.some.injEq, Prod.mk.injEq] at H
       obtain ⟨rfl, rfl⟩ := H
       go_wp2
       go_ret2
       exact ⟨by first | rfl | (simp [errW_none, errW_some] <;> rfl) | (simp only [← hji10, ← hji13]; first | rfl | (simp [errW_none, errW_some] <;> rfl)) | (simp [*, errW_none, errW_some] <;> rfl), by repeat (first | (with_reducible first | exact HB.out | apply zzA | apply zzN | apply zzD) | exact HB.out)⟩
      rw [if_pos c20] at H
      have c20b0 : decide (x12_3 < (wrap64 (Int.tdiv t323 (ji10)))) = true := decide_eq_true c20
      clear c20
      by_cases c21 : x11_3 > 0
      case neg =>
       rw [if_neg c21] at H
       have c21b0 : decide (0 < x11_3) = false := decide_eq_false c21
       clear c21
       simp only [Option.some.injEq, Prod.mk.injEq] at H
       obtain ⟨rfl, rfl⟩ := H
       go_wp2
       go_ret2
       exact ⟨by first | rfl | (simp [errW_none, errW_some] <;> rfl) | (simp only [← hji10, ← hji13]; first | rfl | (simp [errW_none, errW_some] <;> rfl)) | (simp [*, errW_none, errW_some] <;> rfl), by repeat (first | (with_reducible first | exact HB.out | apply zzA | apply zzN | apply zzD) | exact HB.out)⟩
      rw [if_pos c21] at H
      have c21b0 : decide (0 < x11_3) = true := decide_eq_true c21
      clear c21
      have H' := ZM H
      clear H
      go_wp2
      go_roundg k3
      case measure => have := HJ2.out; have := HK2.out; have := HK3.out; omega
      case rel => exact ⟨(IntKind.u64.wrap (Int.tdiv x11_3 2)), (wrap64 (x12_3 + 1)), Z4, Z4, H', ⟨by have := HJ2.out; have := HK2.out; have := HK3.out; omega⟩, ⟨by repeat (first | (with_reducible first | exact HB.out | apply zzA | apply zzN | apply zzD) | exact HB.out)⟩⟩
theorem thrumref13_ExpP.loop1 (x9 : Int) (h9 : 0 ≤ x9 ∧ x9 ≤ 9223372036854775807) : ∀ (k : Nat) (x11 x12 : Int), 0 ≤ x11 → x11 < 2 ^ k → x11 ≤ 18446744073709551615 → 0 ≤ x12 → x12 ≤ x9 →
    thrumref13_ExpP.l1 (k + 1) x9 x11 x12 = some (wrap64 (x11 / 2 ^ (x9 - x12).toNat), 0) := by
  intro k
  induction k with
  | zero =>
    intro x11 x12 h0 h1 h2 h3 h4
    have : x11 = 0 := by simp at h1; omega
    subst this
    rw [thrumref13_ExpP.l1]
    by_cases c : x12 < x9
    · rw [if_pos c, if_neg (by omega)]; simp
    · rw [if_neg c]; simp
  | succ k ih =>
    intro x11 x12 h0 h1 h2 h3 h4
    rw [thrumref13_ExpP.l1]
    by_cases c : x12 < x9
    · rw [if_pos c]
      by_cases c2 : x11 > 0
      · have h1' := h1
        rw [Int.pow_succ] at h1'
        rw [if_pos c2, Int.tdiv_eq_ediv_of_nonneg h0, wu, Int.emod_eq_of_lt (by omega) (by omega), wrap64_of (by unfold I64; omega), ih (x11 / 2) (x12 + 1) (by omega) (by generalize (2 : Int) ^ k = q at *; omega) (by omega) (by omega) (by omega)]
        obtain ⟨n, hn⟩ : ∃ n : Nat, (x9 - x12).toNat = n + 1 := ⟨(x9 - x12).toNat - 1, by omega⟩
        rw [show (x9 - (x12 + 1)).toNat = n by omega, hn, show (2 : Int) ^ (n + 1) = 2 * 2 ^ n by rw [Int.pow_succ]; omega, ← Int.ediv_ediv_of_nonneg (show (0 : Int) ≤ 2 by decide)]
      · have : x11 = 0 := by omega
        subst this
        rw [if_neg c2]; simp
    · rw [if_neg c, show (x9 - x12).toNat = 0 by omega]; simp
theorem thrumref13_ExpP.loop0 (x9 : Int) (h9 : 0 ≤ x9 ∧ x9 ≤ 9223372036854775807) (t : Int) (ht : 0 ≤ t ∧ t ≤ 30) : ∀ (d : Nat) (x11 x48 : Int), 0 ≤ x11 → x11 ≤ 1073741824 → 0 ≤ x48 → d = (t - x48).toNat → x48 ≤ t →
    thrumref13_ExpP.l0 (d + 1 + 32) x9 x11 t x48 = some (wrap64 (x11 / 2 ^ (t - x48).toNat / 2 ^ x9.toNat), 0) := by
  intro d
  induction d with
  | zero =>
    intro x11 x48 h0 h1 h2 h3 h4
    rw [show 0 + 1 + 32 = 31 + 1 + 1 from rfl, thrumref13_ExpP.l0, if_neg (by omega), ← h3]
    have := thrumref13_ExpP.loop1 x9 h9 31 x11 0 h0 Z41 (by omega) (by omega) (by omega)
    rw [this]; simp
  | succ d ih =>
    intro x11 x48 h0 h1 h2 h3 h4
    rw [show d + 1 + 1 + 32 = (d + 1 + 32) + 1 by omega, thrumref13_ExpP.l0, if_pos (by omega), Int.tdiv_eq_ediv_of_nonneg h0, wu, Int.emod_eq_of_lt (by omega) (by omega), wrap64_of (by unfold I64; omega), ih (x11 / 2) (x48 + 1) (by omega) (by omega) (by omega) (by omega) (by omega)]
    rw [show (t - (x48 + 1)).toNat = d by omega, ← h3, show (2 : Int) ^ (d + 1) = 2 * 2 ^ d by rw [Int.pow_succ]; omega, ← Int.ediv_ediv_of_nonneg (show (0 : Int) ≤ 2 by decide)]
def thrumref13_Exp.f (a0 a1 : Int) : Option (Int × Int) := if I64 a0 ∧ I64 a1 then some (expF a0 a1) else none
theorem thrumref13_Exp.of (a0 a1 : Int)  (h_ : I64 a0 ∧ I64 a1) : thrumref13_Exp.f a0 a1 = some (expF a0 a1) := if_pos h_
theorem thrumref13_Exp.calls (a0 : Int) (a1 : Int) (r1 : Int) (r2 : Int) (w : World) (h : thrumref13_Exp.f a0 a1 = some (r1, r2)) :
    Calls Try.prog 87 #[.int .i64 a0, .int .i64 a1] w fun e w' => e = .returned (.tuple #[.int .i64 r1, .int .i64 r2]) ∧ Below w.heap.size w w' := by
  unfold thrumref13_Exp.f at h
  split at h
  case isFalse => cases h
  rename_i hv
  refine thrumref13_ExpP.calls 100 a0 a1 r1 r2 w (Eq.trans ?_ h)
  unfold thrumref13_ExpP.f expF
  have hI := hv.1
  unfold I64 at hv
  by_cases c1 : a1 < 0
  · rw [if_pos c1, thrumref13_ExpP.j0, if_pos rfl, if_pos (Or.inl c1)]
  · rw [if_neg c1]
    by_cases c2 : a1 > 30
    · rw [if_pos c2, thrumref13_ExpP.j0, if_pos rfl, if_pos (Or.inr (Or.inl c2))]
    · rw [if_neg c2, thrumref13_ExpP.j0]
      by_cases c3 : a0 > 0
      · rw [if_pos (decide_eq_true c3), if_pos (Or.inr (Or.inr c3))]
      · rw [if_neg (by simpa using c3), if_neg (by omega), thrumref01_Neg.of a0 hI]
        simp only [Option.bind_some]
        by_cases c4 : I64 (-a0)
        · have hp := pow_pos_ a1.toNat
          have hp30 := pow_le30_ (f := a1) (by omega)
          have hs : shl .i64 1 a1 = 2 ^ a1.toNat := by
            unfold shl
            rw [show min a1.toNat IntKind.i64.bits = a1.toNat from by show min a1.toNat 64 = _; omega]
            rw [iwrap, wrap64_of (by unfold I64; omega)]; omega
          rw [res_of c4, if_pos c4]
          simp only [if_true]
          rw [if_pos (by omega), hs, if_neg (by omega)]
          unfold thrumref13_Rows.f
          simp only [Option.bind_some]
          unfold I64 at c4
          have hrow := row_lt_ (-a0) (f := a1)
          have hm0 := Int.emod_nonneg (-a0) (show (2 : Int) ^ a1.toNat ≠ 0 by omega)
          have hm1 := Int.emod_lt_of_pos (-a0) hp
          rw [Int.tmod_eq_emod_of_nonneg (by omega), wrap64_of (x := -a0 % 2 ^ a1.toNat * 16) (by unfold I64; omega), Int.tdiv_eq_ediv_of_nonneg (by omega), wrap64_of (x := -a0 % 2 ^ a1.toNat * 16 / 2 ^ a1.toNat) (by unfold I64; omega), if_pos (by omega), if_pos (by rw [tabL_len]; omega), Int.tdiv_eq_ediv_of_nonneg (by omega)]
          have hq0 : 0 ≤ -a0 / 2 ^ a1.toNat := Int.ediv_nonneg (by omega) (by omega)
          have hq1 : -a0 / 2 ^ a1.toNat ≤ -a0 := Int.ediv_le_self _ (by omega)
          rw [wrap64_of (x := -a0 / 2 ^ a1.toNat) (by unfold I64; omega), wrap64_of (x := 30 - a1) (by unfold I64; omega)]
          obtain ⟨t0, t1⟩ := tab_bd_ (-a0 % 2 ^ a1.toNat * 16 / 2 ^ a1.toNat) hrow
          have hl := thrumref13_ExpP.loop0 (-a0 / 2 ^ a1.toNat) ⟨hq0, by omega⟩ (30 - a1) (by omega) (30 - a1 - 0).toNat (rd tabL (-a0 % 2 ^ a1.toNat * 16 / 2 ^ a1.toNat)) 0 t0 t1 (by omega) rfl (by omega)
          have hle : (30 - a1 - 0).toNat + 1 + 32 ≤ 99 := by omega
          refine Eq.trans (leO_mono (fun k => thrumref13_ExpP.mono_l k |>.2.1 _ _ _ _) hle hl) ?_
          rw [Int.ediv_ediv_of_nonneg (by have := pow_pos_ (30 - a1 - 0).toNat; omega), ← Int.pow_add, show (30 - a1 - 0).toNat + (-a0 / 2 ^ a1.toNat).toNat = (-a0 / 2 ^ a1.toNat + (30 - a1)).toNat by omega]
          rw [wrap64_of]
          have hpp := pow_pos_ (-a0 / 2 ^ a1.toNat + (30 - a1)).toNat
          have q0 := Int.ediv_nonneg t0 (Int.le_of_lt hpp)
          have q1 := Int.ediv_le_self (2 ^ (-a0 / 2 ^ a1.toNat + (30 - a1)).toNat) t0
          unfold I64; omega
        · rw [res_not c4, if_neg c4, if_neg (by decide)]


end Go.Proofs.Ytgilbdpbfmpcpaa.HS
