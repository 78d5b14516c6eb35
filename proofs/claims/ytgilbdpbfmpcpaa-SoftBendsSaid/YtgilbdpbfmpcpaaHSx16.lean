/- What Go functions do, each as a plain Lean function with the same answers, and the proof of it, in every world: printed by the session's driver over the kit's print, with texts by hand. -/
import Derived.Test.YtgilbdpbfmpcpaaHSx0
import Derived.Test.YtgilbdpbfmpcpaaHSx9
import Derived.Test.YtgilbdpbfmpcpaaHSx10
import Derived.Test.YtgilbdpbfmpcpaaHSx12
import Derived.Test.YtgilbdpbfmpcpaaMini
namespace Go.Proofs.Ytgilbdpbfmpcpaa.HS
open Go.RowKit Go.Proofs.YtgilbdpbfmpcpaaW.PrintWords Go.Proofs.YtgilbdpbfmpcpaaW.PrintLast Go.Proofs.YtgilbdpbfmpcpaaW.PrintMore
attribute [local go_sem] max2_int min2_int max_two min_two max_three min_three max_four min_four   -- for this text's walks alone
open Go.Proofs.Ytgilbdpbfmpcpaa.Sp
attribute [local go_sem] Go.Proofs.Ytgilbdpbfmpcpaa.Sp.u64_not
set_option linter.unusedVariables false
set_option linter.unusedSimpArgs false

/-! ### thrumref02_ScaleP: function 28 -/
mutual
def thrumref02_ScaleP.j0 : Nat → List Int → Int → Int → Bool → Option (List Int × Int)
 | 0, _, _, _, _ => none
 | k + 1, x0, x1, x2, x21 => if x21 = true then (some (([] : List Int), 1)) else (thrumref02_ScaleP.l0 k x1 x2 ([] : List Int) x0 (x0.length : Int) 0)
def thrumref02_ScaleP.l0 : Nat → Int → Int → List Int → List Int → Int → Int → Option (List Int × Int)
 | 0, _, _, _, _, _, _ => none
 | k + 1, x1, x2, x8, x22, x23, x24 => if x24 < x23 then (if 0 ≤ x24 then (if x24 < (x22.length : Int) then ((thrumref01_Mul.f (rd x22 x24) x1 x2).bind fun bt362 => (if bt362.2 = 0 then (if x8.length < 17592186044416 then (thrumref02_ScaleP.l0 k x1 x2 (x8 ++ [bt362.1]) x22 x23 (wrap64 (x24 + 1))) else (none)) else (some (([] : List Int), bt362.2)))) else (none)) else (none)) else (some (x8, 0))
end
def thrumref02_ScaleP.f (k : Nat) (l0 : List Int) (a1 : Int) (a2 : Int) : Option (List Int × Int) := if (l0.length : Int) > 4096 then (some (([] : List Int), 3)) else (if a2 < 0 then (thrumref02_ScaleP.j0 k l0 a1 a2 true) else (thrumref02_ScaleP.j0 k l0 a1 a2 (decide (a2 > 30))))
theorem thrumref02_ScaleP.mono_l : ∀ k, (∀ y0 y1 y2 y3, LeO (thrumref02_ScaleP.j0 k y0 y1 y2 y3) (thrumref02_ScaleP.j0 (k + 1) y0 y1 y2 y3)) ∧ (∀ y0 y1 y2 y3 y4 y5, LeO (thrumref02_ScaleP.l0 k y0 y1 y2 y3 y4 y5) (thrumref02_ScaleP.l0 (k + 1) y0 y1 y2 y3 y4 y5))
 | 0 => ⟨fun _ _ _ _ r h => by simp [thrumref02_ScaleP.j0] at h, fun _ _ _ _ _ _ r h => by simp [thrumref02_ScaleP.l0] at h⟩
 | k + 1 => by
  obtain ⟨ih0, ih1⟩ := thrumref02_ScaleP.mono_l k
  refine ⟨?_, ?_⟩
  ·
   intro y0 y1 y2 y3
   unfold thrumref02_ScaleP.j0
   repeat' first
   | (with_reducible exact ih0 _ _ _ _)
   | (with_reducible exact ih1 _ _ _ _ _ _)
   | (with_reducible exact LeO.refl _)
   | (with_reducible exact LeO.none _)
   | (with_reducible refine LeO.ite ?_ ?_)
   | (with_reducible refine LeO.bind ?_ (fun _ => ?_))
  ·
   intro y0 y1 y2 y3 y4 y5
   unfold thrumref02_ScaleP.l0
   repeat' first
   | (with_reducible exact ih0 _ _ _ _)
   | (with_reducible exact ih1 _ _ _ _ _ _)
   | (with_reducible exact LeO.refl _)
   | (with_reducible exact LeO.none _)
   | (with_reducible refine LeO.ite ?_ ?_)
   | (with_reducible refine LeO.bind ?_ (fun _ => ?_))
theorem thrumref02_ScaleP.mono : ∀ a0 a1 a2 k, LeO (thrumref02_ScaleP.f k a0 a1 a2) (thrumref02_ScaleP.f (k + 1) a0 a1 a2) := by
 intro a0 a1 a2 k
 obtain ⟨ih0, ih1⟩ := thrumref02_ScaleP.mono_l k
 unfold thrumref02_ScaleP.f
 repeat' first
   | (with_reducible exact ih0 _ _ _ _)
   | (with_reducible exact ih1 _ _ _ _ _ _)
   | (with_reducible exact LeO.refl _)
   | (with_reducible exact LeO.none _)
   | (with_reducible refine LeO.ite ?_ ?_)
   | (with_reducible refine LeO.bind ?_ (fun _ => ?_))
set_option maxHeartbeats 8000000 in
set_option maxRecDepth 100000 in
theorem thrumref02_ScaleP.calls (k : Nat) (A0 : Option Addr) (c0 : Nat) (l0 : List Int) (a1 : Int) (a2 : Int) (r1 : List Int) (r2 : Int) (w : World) (hr0 : Kd.C (Kd.int .i64) w A0 l0.length l0) (hc0 : l0.length ≤ c0) (h : thrumref02_ScaleP.f k l0 a1 a2 = some (r1, r2)) :
  Calls Try.prog 28 #[.slice A0 l0.length c0, .int .i64 a1, .int .i64 a2] w fun e w' => ∃ v0_ : Value, e = .returned (.tuple #[v0_, .int .i64 r2]) ∧ Kd.R (Kd.int .i64) 2 w' w.heap.size (fun _ => True) v0_ r1 ∧ Below w.heap.size w w' := by
 have HR0 := ZM hr0
 have HC0 := ZM hc0
 clear hr0 hc0
 have HB := ZM (Below.refl w.heap.size w)
 have H : (if (l0.length : Int) > 4096 then (some (([] : List Int), 3)) else (if a2 < 0 then (thrumref02_ScaleP.j0 k l0 a1 a2 true) else (thrumref02_ScaleP.j0 k l0 a1 a2 (decide (a2 > 30))))) = some (r1, r2) := h
 clear h
 by_cases c4 : (l0.length : Int) > 4096
 ·
  rw [if_pos c4] at H
  have c4b0 : decide (4096 < (l0.length : Int)) = true := decide_eq_true c4
  have c4b1 : decide (4096 < l0.length) = true := decide_eq_true (by omega)
  clear c4
  simp only [Option.some.injEq, Prod.mk.injEq] at H
  obtain ⟨rfl, rfl⟩ := H
  go_enter Try.func28, Try.ntmps28
  go_wp2
  go_ret2
  exact ⟨_, by first | rfl | (simp [errW_none, errW_some] <;> rfl) | (simp [*, errW_none, errW_some] <;> rfl), by first | exact Kd.R_nil _ _ _ _ _ | exact Kd.N_nil _ _ _ _ _ | exact Kd.V_nil _ _ _ _ _ | exact Kd.Q_nil _ _ _ _ _ | exact Kd.S_nil _ _ _ _ _, by repeat (first | (with_reducible first | exact HB.out | apply zzA | apply zzN | apply zzD) | exact HB.out)⟩
 rw [if_neg c4] at H
 have c4b0 : decide (4096 < (l0.length : Int)) = false := decide_eq_false c4
 have c4b1 : decide (4096 < l0.length) = false := decide_eq_false (by omega)
 clear c4
 have HC5 := ZM H
 clear H
 go_enter Try.func28, Try.ntmps28
 go_upto_region 3 with (fail)
 go_cut [21] (fun v21 wc => ∃ (kq : Nat) (x21_4 : Bool), v21 = .bool x21_4 ∧ Aside0 (thrumref02_ScaleP.j0 kq l0 a1 a2 x21_4 = some (r1, r2)) ∧ Aside0 (kq ≤ k) ∧ Aside0 (Below w.heap.size w wc))
 case first =>
  have H := HC5.out
  clear HC5
  by_cases c6 : a2 < 0
  case neg =>
   rw [if_neg c6] at H
   have c6b0 : decide (a2 < 0) = false := decide_eq_false c6
   clear c6
   (first | rw [c6b0] | (simp only [i64_w, i32_w]; rw [c6b0]) | skip)
   have H' := ZM H
   clear H
   go_wp2
   go_meet
   case rel => exact ⟨_, (decide (a2 > 30)), Z4, H', ⟨by first | omega | exact Nat.le_refl _⟩, ⟨by repeat (first | (with_reducible first | exact HB.out | apply zzA | apply zzN | apply zzD) | exact HB.out)⟩⟩
  rw [if_pos c6] at H
  have c6b0 : decide (a2 < 0) = true := decide_eq_true c6
  clear c6
  (first | rw [c6b0] | (simp only [i64_w, i32_w]; rw [c6b0]) | skip)
  have H' := ZM H
  clear H
  go_wp2
  go_meet
  case rel => exact ⟨_, (true), Z4, H', ⟨by first | omega | exact Nat.le_refl _⟩, ⟨by repeat (first | (with_reducible first | exact HB.out | apply zzA | apply zzN | apply zzD) | exact HB.out)⟩⟩
 clear HC5
 try clear c2
 try clear p2
 try clear c4
 try clear c4b0
 try clear c4b1
 try clear c6
 try clear c6b0
 obtain ⟨kq, x21_4, rfl, HA, HJ4, HB⟩ := hcut
 cases kq with
 | zero => exact absurd HA.out (by simp [thrumref02_ScaleP.j0])
 | succ kj4 =>
  have H := HA.out
  clear HA
  simp only [thrumref02_ScaleP.j0] at H
  by_cases c7 : x21_4 = true
  ·
   subst c7
   have H1 : (some (([] : List Int), 1)) = some (r1, r2) := by rw [if_pos rfl] at H; exact H
   clear H
   have H := H1
   clear H1
   simp only [Option.some.injEq, Prod.mk.injEq] at H
   obtain ⟨rfl, rfl⟩ := H
   go_wp2
   go_ret2
   exact ⟨_, by first | rfl | (simp [errW_none, errW_some] <;> rfl) | (simp [*, errW_none, errW_some] <;> rfl), by first | exact Kd.R_nil _ _ _ _ _ | exact Kd.N_nil _ _ _ _ _ | exact Kd.V_nil _ _ _ _ _ | exact Kd.Q_nil _ _ _ _ _ | exact Kd.S_nil _ _ _ _ _, by repeat (first | (with_reducible first | exact HB.out | apply zzA | apply zzN | apply zzD) | exact HB.out)⟩
  replace c7 := Bool.eq_false_iff.mpr c7
  subst c7
  have H1 : (thrumref02_ScaleP.l0 kj4 a1 a2 ([] : List Int) l0 (l0.length : Int) 0) = some (r1, r2) := by rw [if_neg (show ¬ (false = true) by decide)] at H; exact H
  clear H
  have H := H1
  clear H1
  have H' := ZM H
  clear H
  go_wp2
  go_loopg [8, 24] kj4 (fun kq v8 v24 w' => ∃ (x8_2 : List Int) (x24_2 : Int), v24 = .int .i64 x24_2 ∧ Aside0 (thrumref02_ScaleP.l0 kq a1 a2 x8_2 l0 (l0.length : Int) x24_2 = some (r1, r2)) ∧ Aside0 (kq ≤ kj4) ∧ Aside0 (Kd.R (Kd.int .i64) 2 w' w.heap.size (fun _ => True) v8 x8_2) ∧ Aside0 (Below w.heap.size w w'))
  case atStart => exact ⟨(([] : List Int)), (0), Z4, H', ⟨Nat.le_refl _⟩, ⟨by first | exact Kd.R_nil _ _ _ _ _ | exact Kd.N_nil _ _ _ _ _ | exact Kd.V_nil _ _ _ _ _ | exact Kd.Q_nil _ _ _ _ _ | exact Kd.S_nil _ _ _ _ _⟩, ⟨by repeat (first | (with_reducible first | exact HB.out | apply zzA | apply zzN | apply zzD) | exact HB.out)⟩⟩
  case round =>
   clear H'
   try clear c2
   try clear p2
   try clear c4
   try clear c4b0
   try clear c4b1
   try clear c6
   try clear c6b0
   try clear c7
   try clear p2
   obtain ⟨x8_2, x24_2, rfl, HA, HK2, HO_8, HB⟩ := hrel
   cases gk with
   | zero => exact absurd HA.out (by simp [thrumref02_ScaleP.l0])
   | succ k2 =>
    have H := HA.out
    clear HA
    simp only [thrumref02_ScaleP.l0] at H
    by_cases c8 : x24_2 < (l0.length : Int)
    case neg =>
     rw [if_neg c8] at H
     have c8b0 : decide (x24_2 < (l0.length : Int)) = false := decide_eq_false c8
     clear c8
     simp only [Option.some.injEq, Prod.mk.injEq] at H
     obtain ⟨rfl, rfl⟩ := H
     go_wp2
     go_ret2
     exact ⟨_, by first | rfl | (simp [errW_none, errW_some] <;> rfl) | (simp [*, errW_none, errW_some] <;> rfl), by (with_reducible repeat (first | apply rrA | apply rrN | apply rrD)); exact HO_8.out, by repeat (first | (with_reducible first | exact HB.out | apply zzA | apply zzN | apply zzD) | exact HB.out)⟩
    rw [if_pos c8] at H
    have c8b0 : decide (x24_2 < (l0.length : Int)) = true := decide_eq_true c8
    clear c8
    by_cases c9 : 0 ≤ x24_2
    case neg =>
     rw [if_neg c9] at H
     exact absurd H (by simp)
    rw [if_pos c9] at H
    have c9b0 : decide (0 ≤ x24_2) = true := decide_eq_true c9
    clear c9
    by_cases c10 : x24_2 < (l0.length : Int)
    case neg =>
     rw [if_neg c10] at H
     exact absurd H (by simp)
    rw [if_pos c10] at H
    have c10b0 : decide (x24_2 < (l0.length : Int)) = true := decide_eq_true c10
    clear c10
    replace H := Option.bind_eq_some_iff.mp H
    obtain ⟨⟨t362, t363⟩, A110, H⟩ := H
    replace H : (if t363 = 0 then (if x8_2.length < 17592186044416 then (thrumref02_ScaleP.l0 k2 a1 a2 (x8_2 ++ [t362]) l0 (l0.length : Int) (wrap64 (x24_2 + 1))) else (none)) else (some (([] : List Int), t363))) = some (r1, r2) := H
    have A11 := ZM A110
    clear A110
    by_cases c12 : t363 = 0
    case neg =>
     rw [if_neg c12] at H
     have c12b0 : (t363 == 0) = false := beq_eq_false_iff_ne.mpr c12
     have c12b1 : (t363 != 0) = true := bne_iff_ne.mpr c12
     simp only [Option.some.injEq, Prod.mk.injEq] at H
     obtain ⟨rfl, rfl⟩ := H
     have p361 : 0 ≤ (x24_2 : Int) := of_decide_eq_true Z3
     have q361 : x24_2 < (l0.length : Int) := of_decide_eq_true Z3
     obtain ⟨ad361, e361, hx361_0⟩ := Kd.at_int HR0.out x24_2 p361 q361
     cases e361
     replace hx361_0 := (HB.out.cell (World.block_lt_of_cell? w _ hx361_0)).trans hx361_0
     replace p361 := eq_true p361
     replace q361 := eq_true q361
     go_wp2_with (first | ((with_reducible refine gate_callee (f := 48) rfl ?_); refine goesL_ (some 32) rfl rfl Try.func48 (by kernel_rfl) rfl #[.int .i64 (rd l0 x24_2), .int .i64 a1, .int .i64 a2] rfl Z2 ?_; (with_reducible refine (thrumref01_Mul.calls (rd l0 x24_2) a1 a2 t362 t363 _ A11.out).mono ?_); rintro e w' ⟨rfl, ⟨nd, rfl⟩⟩; refine ⟨_, rfl, ?_⟩))
     go_ret2
     exact ⟨_, by first | rfl | (simp [errW_none, errW_some] <;> rfl) | (simp [*, errW_none, errW_some] <;> rfl), by first | exact Kd.R_nil _ _ _ _ _ | exact Kd.N_nil _ _ _ _ _ | exact Kd.V_nil _ _ _ _ _ | exact Kd.Q_nil _ _ _ _ _ | exact Kd.S_nil _ _ _ _ _, by repeat (first | (with_reducible first | exact HB.out | apply zzA | apply zzN | apply zzD) | exact HB.out)⟩
    rw [if_pos c12] at H
    have c12b0 : (t363 == 0) = true := beq_iff_eq.mpr c12
    have c12b1 : (t363 != 0) = false := bne_eq_false_iff_eq.mpr c12
    clear c12
    by_cases c13 : x8_2.length < 17592186044416
    case neg =>
     rw [if_neg c13] at H
     exact absurd H (by simp)
    rw [if_pos c13] at H
    have LMc13 := ZM c13
    clear c13
    obtain ⟨y364, hy364⟩ : ∃ y_ : List Int, y_ = (x8_2 ++ [t362]) := ⟨_, rfl⟩
    replace H : (thrumref02_ScaleP.l0 k2 a1 a2 y364 l0 (l0.length : Int) (wrap64 (x24_2 + 1))) = some (r1, r2) := by first | (rw [hy364]; with_reducible exact H) | (have H2_ := (Option.bind_some _ _).symm.trans H; rw [hy364]; with_reducible exact H2_) | (have H2_ := (Option.bind_some _ _).symm.trans H; with_reducible exact H2_) | with_reducible exact H | (rw [hy364]; exact H) | exact H
    have Ny364 := ZM hy364
    clear hy364
    have H' := ZM H
    clear H
    have p361 : 0 ≤ (x24_2 : Int) := of_decide_eq_true Z3
    have q361 : x24_2 < (l0.length : Int) := of_decide_eq_true Z3
    obtain ⟨ad361, e361, hx361_0⟩ := Kd.at_int HR0.out x24_2 p361 q361
    cases e361
    replace hx361_0 := (HB.out.cell (World.block_lt_of_cell? w _ hx361_0)).trans hx361_0
    replace p361 := eq_true p361
    replace q361 := eq_true q361
    go_wp2_with (first | ((with_reducible refine gate_callee (f := 48) rfl ?_); refine goesL_ (some 32) rfl rfl Try.func48 (by kernel_rfl) rfl #[.int .i64 (rd l0 x24_2), .int .i64 a1, .int .i64 a2] rfl Z2 ?_; (with_reducible refine (thrumref01_Mul.calls (rd l0 x24_2) a1 a2 t362 t363 _ A11.out).mono ?_); rintro e w' ⟨rfl, ⟨nd, rfl⟩⟩; refine ⟨_, rfl, ?_⟩) | ((with_reducible refine gate_builtin (b := .append) (xs := #[.tmp 38, .tmp 40]) rfl ?_); at_builtin; refine Kd.R_append (Kd.int .i64) (w0 := w) w.heap.size rfl (.tmp 38) (.tmp 40) 22 2 (.int .i64 0) 8 rfl Try.underlying22 info2 rfl (by decide) (by omega) u8 x8_2 t362 [.int .i64 t362] (fun _ => True) (fun _ => False) rfl rfl ?aP (fun _ hk => hk.elim) ?aF ?aO ?aB ?aS ?aL ?_; (case aP => exact rfl); (case aB => exact Z1); (case aF => exact (fun _ _ => trivial)); (case aO => exact (Zr HO_8)); (case aS => exact (zzS Z1)); (case aL => have := LMc13.out; omega); intro v365 w14 ho hb hg hat; rw [← Ny364.out] at ho; have HO366 := ZM (ho); replace HB := ZM (hb); clear HO_8; clear ho hb hg hat))
    go_roundg k2
    case measure => have := HJ4.out; have := HK2.out; omega
    case rel => exact ⟨(y364), (wrap64 (x24_2 + 1)), Z4, H', ⟨by have := HJ4.out; have := HK2.out; omega⟩, ⟨by (with_reducible repeat (first | apply rrA | apply rrN | apply rrD)); exact HO366.out⟩, ⟨by repeat (first | (with_reducible first | exact HB.out | apply zzA | apply zzN | apply zzD) | exact HB.out)⟩⟩
theorem thrumref02_ScaleP.loop (x1 x2 : Int) (x0 : List Int) (hb : x0.length ≤ 4096) : ∀ (d i : Nat) (acc : List Int), d + i = x0.length → acc.length ≤ i →
    thrumref02_ScaleP.l0 (d + 1) x1 x2 acc x0 (x0.length : Int) (i : Int) = eachGo (fun i : Nat => thrumref01_Mul.f (rd x0 i) x1 x2) d i acc := by
  intro d
  induction d with
  | zero =>
    intro i acc hd ha
    rw [thrumref02_ScaleP.l0, if_neg (by omega)]; rfl
  | succ d ih =>
    intro i acc hd ha
    rw [thrumref02_ScaleP.l0, if_pos (by omega), if_pos (by omega), if_pos (by omega), eachGo]
    congr 1; funext p
    by_cases c : p.2 = 0
    · rw [if_pos c, if_pos c, if_pos (by omega), wrap64_of (by unfold I64; omega), show (i : Int) + 1 = ((i + 1 : Nat) : Int) by omega]
      exact ih (i + 1) _ (by omega) (by simp; omega)
    · rw [if_neg c, if_neg c]
def thrumref02_Scale.f (l0 : List Int) (a1 a2 : Int) : Option (List Int × Int) := if V64 l0 ∧ I64 a1 then some (scaleV l0 a1 a2) else none
theorem thrumref02_Scale.of (l0 : List Int) (a1 a2 : Int)  (h_ : V64 l0 ∧ I64 a1) : thrumref02_Scale.f l0 a1 a2 = some (scaleV l0 a1 a2) := if_pos h_
theorem thrumref02_Scale.calls (A0 : Option Addr) (c0 : Nat) (l0 : List Int) (a1 : Int) (a2 : Int) (r1 : List Int) (r2 : Int) (w : World) (hr0 : Kd.C (Kd.int .i64) w A0 l0.length l0) (hc0 : l0.length ≤ c0) (h : thrumref02_Scale.f l0 a1 a2 = some (r1, r2)) :
    Calls Try.prog 28 #[.slice A0 l0.length c0, .int .i64 a1, .int .i64 a2] w fun e w' => ∃ v0_ : Value, e = .returned (.tuple #[v0_, .int .i64 r2]) ∧ Kd.R (Kd.int .i64) 2 w' w.heap.size (fun _ => True) v0_ r1 ∧ Below w.heap.size w w' := by
  unfold thrumref02_Scale.f at h
  split at h
  case isFalse => cases h
  rename_i hv
  refine thrumref02_ScaleP.calls (l0.length + 2) A0 c0 l0 a1 a2 r1 r2 w hr0 hc0 (Eq.trans ?_ h)
  unfold thrumref02_ScaleP.f scaleV checkE fracE
  by_cases c : l0.length > 4096
  · rw [if_pos (by omega), if_pos c, if_neg (by omega)]
  · rw [if_neg (by omega), if_neg c, if_pos rfl]
    by_cases c2 : 0 ≤ a2 ∧ a2 ≤ 30
    · rw [if_neg (by omega), thrumref02_ScaleP.j0, if_neg (by simp; omega), if_pos c2, if_pos rfl]
      refine (thrumref02_ScaleP.loop a1 a2 l0 (by omega) l0.length 0 [] (by omega) (by simp)).trans ?_
      exact each_spec (ps := l0.map fun x => mulF x a1 a2) (List.length_map _) (fun j h => by rw [map_get _ j h]; exact thrumref01_Mul.of _ _ _ ⟨hv.1.rd _, hv.2⟩)
    · rw [if_neg c2, if_neg (show ¬ (1 : Int) = 0 by decide)]
      by_cases c3 : a2 < 0
      · rw [if_pos c3, thrumref02_ScaleP.j0, if_pos rfl]
      · rw [if_neg c3, thrumref02_ScaleP.j0, if_pos (decide_eq_true (by omega))]


/-! ### thrumref02_Check: function 73 -/
def thrumref02_Check.f (l0 : List Int) : Option (Int) := if (l0.length : Int) > 4096 then (some 3) else (some 0)
set_option maxHeartbeats 8000000 in
set_option maxRecDepth 100000 in
theorem thrumref02_Check.calls (A0 : Option Addr) (c0 : Nat) (l0 : List Int) (r : Int) (w : World) (hr0 : Kd.C (Kd.int .i64) w A0 l0.length l0) (hc0 : l0.length ≤ c0) (h : thrumref02_Check.f l0 = some r) :
  Calls Try.prog 73 #[.slice A0 l0.length c0] w fun e w' => e = .returned (.int .i64 r) ∧ Drawn0 w w' := by
 have HR0 := ZM hr0
 have HC0 := ZM hc0
 clear hr0 hc0
 have H : (if (l0.length : Int) > 4096 then (some 3) else (some 0)) = some r := h
 clear h
 by_cases c2 : (l0.length : Int) > 4096
 case neg =>
  rw [if_neg c2] at H
  have c2b0 : decide (4096 < (l0.length : Int)) = false := decide_eq_false c2
  have c2b1 : decide (4096 < l0.length) = false := decide_eq_false (by omega)
  clear c2
  obtain rfl := Option.some.inj H
  go_enter Try.func73, Try.ntmps73
  go_wp2
  go_ret
  exact ⟨by first | rfl | (simp; done) | (simp [*]; done), by repeat (first | exact ddR _ | apply ddS)⟩
 rw [if_pos c2] at H
 have c2b0 : decide (4096 < (l0.length : Int)) = true := decide_eq_true c2
 have c2b1 : decide (4096 < l0.length) = true := decide_eq_true (by omega)
 clear c2
 obtain rfl := Option.some.inj H
 go_enter Try.func73, Try.ntmps73
 go_wp2
 go_ret
 exact ⟨by first | rfl | (simp; done) | (simp [*]; done), by repeat (first | exact ddR _ | apply ddS)⟩
/-! ### thrumref02_AddP: function 74 -/
def thrumref02_AddP.l0 : Nat → List Int → List Int → List Int → Int → Int → Option (List Int × Int)
 | 0, _, _, _, _, _ => none
 | k + 1, x0, x1, x7, x18, x19 => if x19 < x18 then (if 0 ≤ x19 then (if x19 < (x0.length : Int) then (if x19 < (x1.length : Int) then ((thrumref01_Add.f (rd x0 x19) (rd x1 x19)).bind fun bt370 => (if bt370.2 = 0 then (if x7.length < 17592186044416 then (thrumref02_AddP.l0 k x0 x1 (x7 ++ [bt370.1]) x18 (wrap64 (x19 + 1))) else (none)) else (some (([] : List Int), bt370.2)))) else (none)) else (none)) else (none)) else (some (x7, 0))
def thrumref02_AddP.f (k : Nat) (l0 : List Int) (l1 : List Int) : Option (List Int × Int) := (thrumref02_two.f l0 l1).bind fun t367 => (if t367 = 0 then (thrumref02_AddP.l0 k l0 l1 ([] : List Int) (l0.length : Int) 0) else (some (([] : List Int), t367)))
theorem thrumref02_AddP.mono_l : ∀ k, (∀ y0 y1 y2 y3 y4, LeO (thrumref02_AddP.l0 k y0 y1 y2 y3 y4) (thrumref02_AddP.l0 (k + 1) y0 y1 y2 y3 y4))
 | 0 => fun _ _ _ _ _ r h => by simp [thrumref02_AddP.l0] at h
 | k + 1 => by
  have ih0 := thrumref02_AddP.mono_l k
  ·
   intro y0 y1 y2 y3 y4
   unfold thrumref02_AddP.l0
   repeat' first
   | (with_reducible exact ih0 _ _ _ _ _)
   | (with_reducible exact LeO.refl _)
   | (with_reducible exact LeO.none _)
   | (with_reducible refine LeO.ite ?_ ?_)
   | (with_reducible refine LeO.bind ?_ (fun _ => ?_))
theorem thrumref02_AddP.mono : ∀ a0 a1 k, LeO (thrumref02_AddP.f k a0 a1) (thrumref02_AddP.f (k + 1) a0 a1) := by
 intro a0 a1 k
 have ih0 := thrumref02_AddP.mono_l k
 unfold thrumref02_AddP.f
 repeat' first
   | (with_reducible exact ih0 _ _ _ _ _)
   | (with_reducible exact LeO.refl _)
   | (with_reducible exact LeO.none _)
   | (with_reducible refine LeO.ite ?_ ?_)
   | (with_reducible refine LeO.bind ?_ (fun _ => ?_))
set_option maxHeartbeats 8000000 in
set_option maxRecDepth 100000 in
theorem thrumref02_AddP.calls (k : Nat) (A0 : Option Addr) (c0 : Nat) (l0 : List Int) (A1 : Option Addr) (c1 : Nat) (l1 : List Int) (r1 : List Int) (r2 : Int) (w : World) (hr0 : Kd.C (Kd.int .i64) w A0 l0.length l0) (hc0 : l0.length ≤ c0) (hr1 : Kd.C (Kd.int .i64) w A1 l1.length l1) (hc1 : l1.length ≤ c1) (h : thrumref02_AddP.f k l0 l1 = some (r1, r2)) :
  Calls Try.prog 74 #[.slice A0 l0.length c0, .slice A1 l1.length c1] w fun e w' => ∃ v0_ : Value, e = .returned (.tuple #[v0_, .int .i64 r2]) ∧ Kd.R (Kd.int .i64) 2 w' w.heap.size (fun _ => True) v0_ r1 ∧ Below w.heap.size w w' := by
 have HR0 := ZM hr0
 have HC0 := ZM hc0
 clear hr0 hc0
 have HR1 := ZM hr1
 have HC1 := ZM hc1
 clear hr1 hc1
 have HB := ZM (Below.refl w.heap.size w)
 have H : ((thrumref02_two.f l0 l1).bind fun t367 => (if t367 = 0 then (thrumref02_AddP.l0 k l0 l1 ([] : List Int) (l0.length : Int) 0) else (some (([] : List Int), t367)))) = some (r1, r2) := h
 clear h
 replace H := Option.bind_eq_some_iff.mp H
 obtain ⟨t367, A30, H⟩ := H
 replace H : (if t367 = 0 then (thrumref02_AddP.l0 k l0 l1 ([] : List Int) (l0.length : Int) 0) else (some (([] : List Int), t367))) = some (r1, r2) := H
 have A3 := ZM A30
 clear A30
 by_cases c4 : t367 = 0
 case neg =>
  rw [if_neg c4] at H
  have c4b0 : (t367 == 0) = false := beq_eq_false_iff_ne.mpr c4
  have c4b1 : (t367 != 0) = true := bne_iff_ne.mpr c4
  simp only [Option.some.injEq, Prod.mk.injEq] at H
  obtain ⟨rfl, rfl⟩ := H
  go_enter Try.func74, Try.ntmps74
  go_wp2_with (first | (go_at_call 90; (with_reducible refine (thrumref02_two.calls _ _ l0 _ _ l1 t367 _ ?side1 ?side2 ?side3 ?side4 A3.out).mono ?_); (case side1 => exact Z8); (case side2 => exact HC0.out); (case side3 => exact Z5); (case side4 => exact HC1.out); rintro e w' ⟨rfl, ⟨nd, rfl⟩⟩; (try first | exact ⟨rfl, _, wwN _ _ _⟩ | exact ⟨rfl, _, ww3 _ _ _ _⟩)))
  repeat (go_quiet (first | (go_at_call 90; (with_reducible refine (thrumref02_two.calls _ _ l0 _ _ l1 t367 _ ?side1 ?side2 ?side3 ?side4 A3.out).mono ?_); (case side1 => exact Z8); (case side2 => exact HC0.out); (case side3 => exact Z5); (case side4 => exact HC1.out); rintro e w' ⟨rfl, ⟨nd, rfl⟩⟩; (try first | exact ⟨rfl, _, wwN _ _ _⟩ | exact ⟨rfl, _, ww3 _ _ _ _⟩))); try go_wp2_with (first | (go_at_call 90; (with_reducible refine (thrumref02_two.calls _ _ l0 _ _ l1 t367 _ ?side1 ?side2 ?side3 ?side4 A3.out).mono ?_); (case side1 => exact Z8); (case side2 => exact HC0.out); (case side3 => exact Z5); (case side4 => exact HC1.out); rintro e w' ⟨rfl, ⟨nd, rfl⟩⟩; (try first | exact ⟨rfl, _, wwN _ _ _⟩ | exact ⟨rfl, _, ww3 _ _ _ _⟩))))
  go_ret2
  exact ⟨_, by first | rfl | (simp [errW_none, errW_some] <;> rfl) | (simp [*, errW_none, errW_some] <;> rfl), by first | exact Kd.R_nil _ _ _ _ _ | exact Kd.N_nil _ _ _ _ _ | exact Kd.V_nil _ _ _ _ _ | exact Kd.Q_nil _ _ _ _ _ | exact Kd.S_nil _ _ _ _ _, by repeat (first | (with_reducible first | exact HB.out | apply zzA | apply zzN | apply zzD) | exact HB.out)⟩
 rw [if_pos c4] at H
 have c4b0 : (t367 == 0) = true := beq_iff_eq.mpr c4
 have c4b1 : (t367 != 0) = false := bne_eq_false_iff_eq.mpr c4
 clear c4
 have H' := ZM H
 clear H
 go_enter Try.func74, Try.ntmps74
 go_wp2_with (first | (go_at_call 90; (with_reducible refine (thrumref02_two.calls _ _ l0 _ _ l1 t367 _ ?side1 ?side2 ?side3 ?side4 A3.out).mono ?_); (case side1 => exact Z8); (case side2 => exact HC0.out); (case side3 => exact Z5); (case side4 => exact HC1.out); rintro e w' ⟨rfl, ⟨nd, rfl⟩⟩; (try first | exact ⟨rfl, _, wwN _ _ _⟩ | exact ⟨rfl, _, ww3 _ _ _ _⟩)))
 repeat (go_quiet (first | (go_at_call 90; (with_reducible refine (thrumref02_two.calls _ _ l0 _ _ l1 t367 _ ?side1 ?side2 ?side3 ?side4 A3.out).mono ?_); (case side1 => exact Z8); (case side2 => exact HC0.out); (case side3 => exact Z5); (case side4 => exact HC1.out); rintro e w' ⟨rfl, ⟨nd, rfl⟩⟩; (try first | exact ⟨rfl, _, wwN _ _ _⟩ | exact ⟨rfl, _, ww3 _ _ _ _⟩))); try go_wp2_with (first | (go_at_call 90; (with_reducible refine (thrumref02_two.calls _ _ l0 _ _ l1 t367 _ ?side1 ?side2 ?side3 ?side4 A3.out).mono ?_); (case side1 => exact Z8); (case side2 => exact HC0.out); (case side3 => exact Z5); (case side4 => exact HC1.out); rintro e w' ⟨rfl, ⟨nd, rfl⟩⟩; (try first | exact ⟨rfl, _, wwN _ _ _⟩ | exact ⟨rfl, _, ww3 _ _ _ _⟩))))
 go_loopg [7, 19] k (fun kq v7 v19 w' => ∃ (x7_1 : List Int) (x19_1 : Int), v19 = .int .i64 x19_1 ∧ Aside0 (thrumref02_AddP.l0 kq l0 l1 x7_1 (l0.length : Int) x19_1 = some (r1, r2)) ∧ Aside0 (kq ≤ k) ∧ Aside0 (Kd.R (Kd.int .i64) 2 w' w.heap.size (fun _ => True) v7 x7_1) ∧ Aside0 (Below w.heap.size w w'))
 case atStart => exact ⟨(([] : List Int)), (0), Z4, H', ⟨Nat.le_refl _⟩, ⟨by first | exact Kd.R_nil _ _ _ _ _ | exact Kd.N_nil _ _ _ _ _ | exact Kd.V_nil _ _ _ _ _ | exact Kd.Q_nil _ _ _ _ _ | exact Kd.S_nil _ _ _ _ _⟩, ⟨by repeat (first | (with_reducible first | exact HB.out | apply zzA | apply zzN | apply zzD) | exact HB.out)⟩⟩
 case round =>
  clear H'
  try clear c1
  try clear p2
  try clear c4
  try clear c4b0
  try clear c4b1
  obtain ⟨x7_1, x19_1, rfl, HA, HK1, HO_7, HB⟩ := hrel
  cases gk with
  | zero => exact absurd HA.out (by simp [thrumref02_AddP.l0])
  | succ k1 =>
   have H := HA.out
   clear HA
   simp only [thrumref02_AddP.l0] at H
   by_cases c5 : x19_1 < (l0.length : Int)
   case neg =>
    rw [if_neg c5] at H
    have c5b0 : decide (x19_1 < (l0.length : Int)) = false := decide_eq_false c5
    clear c5
    simp only [Option.some.injEq, Prod.mk.injEq] at H
    obtain ⟨rfl, rfl⟩ := H
    go_wp2
    repeat (go_quiet (fail); try go_wp2)
    go_ret2
    exact ⟨_, by first | rfl | (simp [errW_none, errW_some] <;> rfl) | (simp [*, errW_none, errW_some] <;> rfl), by (with_reducible repeat (first | apply rrA | apply rrN | apply rrD)); exact HO_7.out, by repeat (first | (with_reducible first | exact HB.out | apply zzA | apply zzN | apply zzD) | exact HB.out)⟩
   rw [if_pos c5] at H
   have c5b0 : decide (x19_1 < (l0.length : Int)) = true := decide_eq_true c5
   clear c5
   by_cases c6 : 0 ≤ x19_1
   case neg =>
    rw [if_neg c6] at H
    exact absurd H (by simp)
   rw [if_pos c6] at H
   have c6b0 : decide (0 ≤ x19_1) = true := decide_eq_true c6
   clear c6
   by_cases c7 : x19_1 < (l0.length : Int)
   case neg =>
    rw [if_neg c7] at H
    exact absurd H (by simp)
   rw [if_pos c7] at H
   have c7b0 : decide (x19_1 < (l0.length : Int)) = true := decide_eq_true c7
   clear c7
   by_cases c8 : x19_1 < (l1.length : Int)
   case neg =>
    rw [if_neg c8] at H
    exact absurd H (by simp)
   rw [if_pos c8] at H
   have c8b0 : decide (x19_1 < (l1.length : Int)) = true := decide_eq_true c8
   clear c8
   replace H := Option.bind_eq_some_iff.mp H
   obtain ⟨⟨t370, t371⟩, A90, H⟩ := H
   replace H : (if t371 = 0 then (if x7_1.length < 17592186044416 then (thrumref02_AddP.l0 k1 l0 l1 (x7_1 ++ [t370]) (l0.length : Int) (wrap64 (x19_1 + 1))) else (none)) else (some (([] : List Int), t371))) = some (r1, r2) := H
   have A9 := ZM A90
   clear A90
   by_cases c10 : t371 = 0
   case neg =>
    rw [if_neg c10] at H
    have c10b0 : (t371 == 0) = false := beq_eq_false_iff_ne.mpr c10
    have c10b1 : (t371 != 0) = true := bne_iff_ne.mpr c10
    simp only [Option.some.injEq, Prod.mk.injEq] at H
    obtain ⟨rfl, rfl⟩ := H
    have p368 : 0 ≤ (x19_1 : Int) := of_decide_eq_true Z3
    have q368 : x19_1 < (l0.length : Int) := of_decide_eq_true Z3
    obtain ⟨ad368, e368, hx368_0⟩ := Kd.at_int HR0.out x19_1 p368 q368
    cases e368
    replace hx368_0 := (HB.out.cell (World.block_lt_of_cell? w _ hx368_0)).trans hx368_0
    replace p368 := eq_true p368
    replace q368 := eq_true q368
    have p369 : 0 ≤ (x19_1 : Int) := of_decide_eq_true Z3
    have q369 : x19_1 < (l1.length : Int) := of_decide_eq_true Z3
    obtain ⟨ad369, e369, hx369_0⟩ := Kd.at_int HR1.out x19_1 p369 q369
    cases e369
    replace hx369_0 := (HB.out.cell (World.block_lt_of_cell? w _ hx369_0)).trans hx369_0
    replace p369 := eq_true p369
    replace q369 := eq_true q369
    go_wp2_with (first | (go_at_call 91; (with_reducible refine (thrumref01_Add.calls (rd l0 x19_1) (rd l1 x19_1) t370 t371 _ A9.out).mono ?_); rintro e w' ⟨rfl, ⟨nd, rfl⟩⟩; (try first | exact ⟨rfl, _, wwN _ _ _⟩ | exact ⟨rfl, _, ww3 _ _ _ _⟩)))
    repeat (go_quiet (first | (go_at_call 91; (with_reducible refine (thrumref01_Add.calls (rd l0 x19_1) (rd l1 x19_1) t370 t371 _ A9.out).mono ?_); rintro e w' ⟨rfl, ⟨nd, rfl⟩⟩; (try first | exact ⟨rfl, _, wwN _ _ _⟩ | exact ⟨rfl, _, ww3 _ _ _ _⟩))); try go_wp2_with (first | (go_at_call 91; (with_reducible refine (thrumref01_Add.calls (rd l0 x19_1) (rd l1 x19_1) t370 t371 _ A9.out).mono ?_); rintro e w' ⟨rfl, ⟨nd, rfl⟩⟩; (try first | exact ⟨rfl, _, wwN _ _ _⟩ | exact ⟨rfl, _, ww3 _ _ _ _⟩))))
    go_ret2
    exact ⟨_, by first | rfl | (simp [errW_none, errW_some] <;> rfl) | (simp [*, errW_none, errW_some] <;> rfl), by first | exact Kd.R_nil _ _ _ _ _ | exact Kd.N_nil _ _ _ _ _ | exact Kd.V_nil _ _ _ _ _ | exact Kd.Q_nil _ _ _ _ _ | exact Kd.S_nil _ _ _ _ _, by repeat (first | (with_reducible first | exact HB.out | apply zzA | apply zzN | apply zzD) | exact HB.out)⟩
   rw [if_pos c10] at H
   have c10b0 : (t371 == 0) = true := beq_iff_eq.mpr c10
   have c10b1 : (t371 != 0) = false := bne_eq_false_iff_eq.mpr c10
   clear c10
   by_cases c11 : x7_1.length < 17592186044416
   case neg =>
    rw [if_neg c11] at H
    exact absurd H (by simp)
   rw [if_pos c11] at H
   have LMc11 := ZM c11
   clear c11
   obtain ⟨y372, hy372⟩ : ∃ y_ : List Int, y_ = (x7_1 ++ [t370]) := ⟨_, rfl⟩
   replace H : (thrumref02_AddP.l0 k1 l0 l1 y372 (l0.length : Int) (wrap64 (x19_1 + 1))) = some (r1, r2) := by first | (rw [hy372]; with_reducible exact H) | (have H2_ := (Option.bind_some _ _).symm.trans H; rw [hy372]; with_reducible exact H2_) | (have H2_ := (Option.bind_some _ _).symm.trans H; with_reducible exact H2_) | with_reducible exact H | (rw [hy372]; exact H) | exact H
   have Ny372 := ZM hy372
   clear hy372
   have H' := ZM H
   clear H
   have p368 : 0 ≤ (x19_1 : Int) := of_decide_eq_true Z3
   have q368 : x19_1 < (l0.length : Int) := of_decide_eq_true Z3
   obtain ⟨ad368, e368, hx368_0⟩ := Kd.at_int HR0.out x19_1 p368 q368
   cases e368
   replace hx368_0 := (HB.out.cell (World.block_lt_of_cell? w _ hx368_0)).trans hx368_0
   replace p368 := eq_true p368
   replace q368 := eq_true q368
   have p369 : 0 ≤ (x19_1 : Int) := of_decide_eq_true Z3
   have q369 : x19_1 < (l1.length : Int) := of_decide_eq_true Z3
   obtain ⟨ad369, e369, hx369_0⟩ := Kd.at_int HR1.out x19_1 p369 q369
   cases e369
   replace hx369_0 := (HB.out.cell (World.block_lt_of_cell? w _ hx369_0)).trans hx369_0
   replace p369 := eq_true p369
   replace q369 := eq_true q369
   go_wp2_with (first | (go_at_call 91; (with_reducible refine (thrumref01_Add.calls (rd l0 x19_1) (rd l1 x19_1) t370 t371 _ A9.out).mono ?_); rintro e w' ⟨rfl, ⟨nd, rfl⟩⟩; (try first | exact ⟨rfl, _, wwN _ _ _⟩ | exact ⟨rfl, _, ww3 _ _ _ _⟩)) | ((with_reducible refine gate_builtin (b := .append) (xs := #[.tmp 37, .tmp 39]) rfl ?_); at_builtin; refine Kd.R_append (Kd.int .i64) (w0 := w) w.heap.size rfl (.tmp 37) (.tmp 39) 22 2 (.int .i64 0) 8 rfl Try.underlying22 info2 rfl (by decide) (by omega) u7 x7_1 t370 [.int .i64 t370] (fun _ => True) (fun _ => False) rfl rfl ?aP (fun _ hk => hk.elim) ?aF ?aO ?aB ?aS ?aL ?_; (case aP => exact rfl); (case aB => exact Z1); (case aF => exact (fun _ _ => trivial)); (case aO => exact (Zr HO_7)); (case aS => exact (zzS Z1)); (case aL => have := LMc11.out; omega); intro v373 w12 ho hb hg hat; rw [← Ny372.out] at ho; have HO374 := ZM (ho); replace HB := ZM (hb); clear HO_7; clear ho hb hg hat))
   repeat (go_quiet (first | (go_at_call 91; (with_reducible refine (thrumref01_Add.calls (rd l0 x19_1) (rd l1 x19_1) t370 t371 _ A9.out).mono ?_); rintro e w' ⟨rfl, ⟨nd, rfl⟩⟩; (try first | exact ⟨rfl, _, wwN _ _ _⟩ | exact ⟨rfl, _, ww3 _ _ _ _⟩)) | ((with_reducible refine gate_builtin (b := .append) (xs := #[.tmp 37, .tmp 39]) rfl ?_); at_builtin; refine Kd.R_append (Kd.int .i64) (w0 := w) w.heap.size rfl (.tmp 37) (.tmp 39) 22 2 (.int .i64 0) 8 rfl Try.underlying22 info2 rfl (by decide) (by omega) u7 x7_1 t370 [.int .i64 t370] (fun _ => True) (fun _ => False) rfl rfl ?aP (fun _ hk => hk.elim) ?aF ?aO ?aB ?aS ?aL ?_; (case aP => exact rfl); (case aB => exact Z1); (case aF => exact (fun _ _ => trivial)); (case aO => exact (Zr HO_7)); (case aS => exact (zzS Z1)); (case aL => have := LMc11.out; omega); intro v373 w12 ho hb hg hat; rw [← Ny372.out] at ho; have HO374 := ZM (ho); replace HB := ZM (hb); clear HO_7; clear ho hb hg hat)); try go_wp2_with (first | (go_at_call 91; (with_reducible refine (thrumref01_Add.calls (rd l0 x19_1) (rd l1 x19_1) t370 t371 _ A9.out).mono ?_); rintro e w' ⟨rfl, ⟨nd, rfl⟩⟩; (try first | exact ⟨rfl, _, wwN _ _ _⟩ | exact ⟨rfl, _, ww3 _ _ _ _⟩)) | ((with_reducible refine gate_builtin (b := .append) (xs := #[.tmp 37, .tmp 39]) rfl ?_); at_builtin; refine Kd.R_append (Kd.int .i64) (w0 := w) w.heap.size rfl (.tmp 37) (.tmp 39) 22 2 (.int .i64 0) 8 rfl Try.underlying22 info2 rfl (by decide) (by omega) u7 x7_1 t370 [.int .i64 t370] (fun _ => True) (fun _ => False) rfl rfl ?aP (fun _ hk => hk.elim) ?aF ?aO ?aB ?aS ?aL ?_; (case aP => exact rfl); (case aB => exact Z1); (case aF => exact (fun _ _ => trivial)); (case aO => exact (Zr HO_7)); (case aS => exact (zzS Z1)); (case aL => have := LMc11.out; omega); intro v373 w12 ho hb hg hat; rw [← Ny372.out] at ho; have HO374 := ZM (ho); replace HB := ZM (hb); clear HO_7; clear ho hb hg hat)))
   go_roundg k1
   case measure => have := HK1.out; omega
   case rel => exact ⟨(y372), (wrap64 (x19_1 + 1)), Z4, H', ⟨by have := HK1.out; omega⟩, ⟨by (with_reducible repeat (first | apply rrA | apply rrN | apply rrD)); exact HO374.out⟩, ⟨by repeat (first | (with_reducible first | exact HB.out | apply zzA | apply zzN | apply zzD) | exact HB.out)⟩⟩
theorem thrumref02_AddP.loop (x0 x1 : List Int) (hl : x0.length = x1.length) (hb : x0.length ≤ 4096) : ∀ (d i : Nat) (acc : List Int), d + i = x0.length → acc.length ≤ i →
    thrumref02_AddP.l0 (d + 1) x0 x1 acc (x0.length : Int) (i : Int) = eachGo (fun i : Nat => thrumref01_Add.f (rd x0 i) (rd x1 i)) d i acc := by
  intro d
  induction d with
  | zero =>
    intro i acc hd ha
    rw [thrumref02_AddP.l0, if_neg (by omega)]; rfl
  | succ d ih =>
    intro i acc hd ha
    rw [thrumref02_AddP.l0, if_pos (by omega), if_pos (by omega), if_pos (by omega), if_pos (by omega), eachGo]
    congr 1; funext p
    by_cases c : p.2 = 0
    · rw [if_pos c, if_pos c, if_pos (by omega), wrap64_of (by unfold I64; omega), show (i : Int) + 1 = ((i + 1 : Nat) : Int) by omega]
      exact ih (i + 1) _ (by omega) (by simp; omega)
    · rw [if_neg c, if_neg c]
def thrumref02_Add.f (l0 l1 : List Int) : Option (List Int × Int) := if V64 l0 ∧ V64 l1 then some (addV l0 l1) else none
theorem thrumref02_Add.of (l0 l1 : List Int)  (h_ : V64 l0 ∧ V64 l1) : thrumref02_Add.f l0 l1 = some (addV l0 l1) := if_pos h_
theorem thrumref02_Add.calls (A0 : Option Addr) (c0 : Nat) (l0 : List Int) (A1 : Option Addr) (c1 : Nat) (l1 : List Int) (r1 : List Int) (r2 : Int) (w : World) (hr0 : Kd.C (Kd.int .i64) w A0 l0.length l0) (hc0 : l0.length ≤ c0) (hr1 : Kd.C (Kd.int .i64) w A1 l1.length l1) (hc1 : l1.length ≤ c1) (h : thrumref02_Add.f l0 l1 = some (r1, r2)) :
    Calls Try.prog 74 #[.slice A0 l0.length c0, .slice A1 l1.length c1] w fun e w' => ∃ v0_ : Value, e = .returned (.tuple #[v0_, .int .i64 r2]) ∧ Kd.R (Kd.int .i64) 2 w' w.heap.size (fun _ => True) v0_ r1 ∧ Below w.heap.size w w' := by
  unfold thrumref02_Add.f at h
  split at h
  case isFalse => cases h
  rename_i hv
  refine thrumref02_AddP.calls (l0.length + 1) A0 c0 l0 A1 c1 l1 r1 r2 w hr0 hc0 hr1 hc1 (Eq.trans ?_ h)
  unfold thrumref02_AddP.f thrumref02_two.f addV
  simp only [Option.bind_some]
  by_cases c : pairE l0 l1 = 0
  · rw [if_pos c, if_pos c]
    refine (thrumref02_AddP.loop l0 l1 (pairE_len c) (pairE_le c) l0.length 0 [] (by omega) (by simp)).trans ?_
    have hl := pairE_len c
    exact each_spec (ps := List.zipWith (fun x y => res (x + y)) l0 l1) (by rw [List.length_zipWith]; omega) (fun j h => by rw [zip_get _ _ hl j h]; exact thrumref01_Add.of _ _ ⟨hv.1.rd _, hv.2.rd _⟩)
  · rw [if_neg c, if_neg c]


/-! ### thrumref02_SumP: function 49 -/
def thrumref02_SumP.l0 : Nat → List Int → List (List Int) → Int → Int → Option (List Int × Int)
 | 0, _, _, _, _ => none
 | k + 1, x4, x10, x11, x12 => if x12 < x11 then (if 0 ≤ x12 then (if x12 < (x10.length : Int) then (if x12 = 0 then ((thrumref02_Check.f (rd_L1 x10 x12)).bind fun t376 => (if t376 = 0 then (if x4.length + (rd_L1 x10 x12).length < 17592186044416 then (thrumref02_SumP.l0 k (x4 ++ (rd_L1 x10 x12)) x10 x11 (wrap64 (x12 + 1))) else (none)) else (some (([] : List Int), t376)))) else ((thrumref02_Add.f x4 (rd_L1 x10 x12)).bind fun bt380 => (if bt380.2 = 0 then (thrumref02_SumP.l0 k bt380.1 x10 x11 (wrap64 (x12 + 1))) else (some (([] : List Int), bt380.2))))) else (none)) else (none)) else (some (x4, 0))
def thrumref02_SumP.f (k : Nat) (l0 : List (List Int)) : Option (List Int × Int) := thrumref02_SumP.l0 k ([] : List Int) l0 (l0.length : Int) 0
theorem thrumref02_SumP.mono_l : ∀ k, (∀ y0 y1 y2 y3, LeO (thrumref02_SumP.l0 k y0 y1 y2 y3) (thrumref02_SumP.l0 (k + 1) y0 y1 y2 y3))
 | 0 => fun _ _ _ _ r h => by simp [thrumref02_SumP.l0] at h
 | k + 1 => by
  have ih0 := thrumref02_SumP.mono_l k
  ·
   intro y0 y1 y2 y3
   unfold thrumref02_SumP.l0
   repeat' first
   | (with_reducible exact ih0 _ _ _ _)
   | (with_reducible exact LeO.refl _)
   | (with_reducible exact LeO.none _)
   | (with_reducible refine LeO.ite ?_ ?_)
   | (with_reducible refine LeO.bind ?_ (fun _ => ?_))
theorem thrumref02_SumP.mono : ∀ a0 k, LeO (thrumref02_SumP.f k a0) (thrumref02_SumP.f (k + 1) a0) := by
 intro a0 k
 have ih0 := thrumref02_SumP.mono_l k
 unfold thrumref02_SumP.f
 repeat' first
   | (with_reducible exact ih0 _ _ _ _)
   | (with_reducible exact LeO.refl _)
   | (with_reducible exact LeO.none _)
   | (with_reducible refine LeO.ite ?_ ?_)
   | (with_reducible refine LeO.bind ?_ (fun _ => ?_))
set_option maxHeartbeats 8000000 in
set_option maxRecDepth 100000 in
theorem thrumref02_SumP.calls (k : Nat) (A0 : Option Addr) (c0 : Nat) (l0 : List (List Int)) (r1 : List Int) (r2 : Int) (w : World) (hr0 : Kd.C (Kd.slice 2 (Kd.int .i64)) w A0 l0.length l0) (hc0 : l0.length ≤ c0) (h : thrumref02_SumP.f k l0 = some (r1, r2)) :
  Calls Try.prog 49 #[.slice A0 l0.length c0] w fun e w' => ∃ v0_ : Value, e = .returned (.tuple #[v0_, .int .i64 r2]) ∧ Kd.R (Kd.int .i64) 2 w' w.heap.size (fun _ => True) v0_ r1 ∧ Below w.heap.size w w' := by
 have HR0 := ZM hr0
 have HC0 := ZM hc0
 clear hr0 hc0
 have HB := ZM (Below.refl w.heap.size w)
 have H : (thrumref02_SumP.l0 k ([] : List Int) l0 (l0.length : Int) 0) = some (r1, r2) := h
 clear h
 have H' := ZM H
 clear H
 go_enter Try.func49, Try.ntmps49
 go_wp2
 go_loopg [4, 12] k (fun kq v4 v12 w' => ∃ (x4_1 : List Int) (x12_1 : Int), v12 = .int .i64 x12_1 ∧ Aside0 (thrumref02_SumP.l0 kq x4_1 l0 (l0.length : Int) x12_1 = some (r1, r2)) ∧ Aside0 (kq ≤ k) ∧ Aside0 (Kd.R (Kd.int .i64) 2 w' w.heap.size (fun _ => True) v4 x4_1) ∧ Aside0 (Below w.heap.size w w'))
 case atStart => exact ⟨(([] : List Int)), (0), Z4, H', ⟨Nat.le_refl _⟩, ⟨by first | exact Kd.R_nil _ _ _ _ _ | exact Kd.N_nil _ _ _ _ _ | exact Kd.V_nil _ _ _ _ _ | exact Kd.Q_nil _ _ _ _ _ | exact Kd.S_nil _ _ _ _ _⟩, ⟨by repeat (first | (with_reducible first | exact HB.out | apply zzA | apply zzN | apply zzD) | exact HB.out)⟩⟩
 case round =>
  clear H'
  obtain ⟨x4_1, x12_1, rfl, HA, HK1, HO_4, HB⟩ := hrel
  cases gk with
  | zero => exact absurd HA.out (by simp [thrumref02_SumP.l0])
  | succ k1 =>
   have H := HA.out
   clear HA
   simp only [thrumref02_SumP.l0] at H
   by_cases c2 : x12_1 < (l0.length : Int)
   case neg =>
    rw [if_neg c2] at H
    have c2b0 : decide (x12_1 < (l0.length : Int)) = false := decide_eq_false c2
    clear c2
    simp only [Option.some.injEq, Prod.mk.injEq] at H
    obtain ⟨rfl, rfl⟩ := H
    go_wp2
    go_ret2
    exact ⟨_, by first | rfl | (simp [errW_none, errW_some] <;> rfl) | (simp [*, errW_none, errW_some] <;> rfl), by (with_reducible repeat (first | apply rrA | apply rrN | apply rrD)); exact HO_4.out, by repeat (first | (with_reducible first | exact HB.out | apply zzA | apply zzN | apply zzD) | exact HB.out)⟩
   rw [if_pos c2] at H
   have c2b0 : decide (x12_1 < (l0.length : Int)) = true := decide_eq_true c2
   clear c2
   by_cases c3 : 0 ≤ x12_1
   case neg =>
    rw [if_neg c3] at H
    exact absurd H (by simp)
   rw [if_pos c3] at H
   have c3b0 : decide (0 ≤ x12_1) = true := decide_eq_true c3
   clear c3
   by_cases c4 : x12_1 < (l0.length : Int)
   case neg =>
    rw [if_neg c4] at H
    exact absurd H (by simp)
   rw [if_pos c4] at H
   have c4b0 : decide (x12_1 < (l0.length : Int)) = true := decide_eq_true c4
   clear c4
   by_cases c5 : x12_1 = 0
   case neg =>
    rw [if_neg c5] at H
    have c5b0 : (x12_1 == 0) = false := beq_eq_false_iff_ne.mpr c5
    have c5b1 : (x12_1 != 0) = true := bne_iff_ne.mpr c5
    replace H := Option.bind_eq_some_iff.mp H
    obtain ⟨⟨t380, t381⟩, A100, H⟩ := H
    replace H : (if t381 = 0 then (thrumref02_SumP.l0 k1 t380 l0 (l0.length : Int) (wrap64 (x12_1 + 1))) else (some (([] : List Int), t381))) = some (r1, r2) := H
    have A10 := ZM A100
    clear A100
    by_cases c11 : t381 = 0
    case neg =>
     rw [if_neg c11] at H
     have c11b0 : (t381 == 0) = false := beq_eq_false_iff_ne.mpr c11
     have c11b1 : (t381 != 0) = true := bne_iff_ne.mpr c11
     simp only [Option.some.injEq, Prod.mk.injEq] at H
     obtain ⟨rfl, rfl⟩ := H
     have p375 : 0 ≤ (x12_1 : Int) := of_decide_eq_true Z3
     have q375 : x12_1 < (l0.length : Int) := of_decide_eq_true Z3
     obtain ⟨ad375, A375_0, c375_0, e375, hx375_0, hl375_0, hi375_0⟩ := at_L1 HR0.out x12_1 p375 q375
     cases e375
     replace hx375_0 := (HB.out.cell (World.block_lt_of_cell? w _ hx375_0)).trans hx375_0
     have HR375_0 := ZM hi375_0
     have HC375_0 := ZM hl375_0
     clear hi375_0 hl375_0
     replace p375 := eq_true p375
     replace q375 := eq_true q375
     obtain ⟨Ao14, co14, eo14⟩ := Kd.R_slice HO_4.out
     subst eo14
     go_wp2_with (first | ((with_reducible refine gate_callee (f := 74) rfl ?_); refine goesL_ (some 30) rfl rfl Try.func74 (by kernel_rfl) rfl #[.slice Ao14 x4_1.length co14, .slice A375_0 (rd_L1 l0 x12_1).length c375_0] rfl Z2 ?_; (with_reducible refine (thrumref02_Add.calls _ _ x4_1 _ _ (rd_L1 l0 x12_1) t380 t381 _ ?side1 ?side2 ?side3 ?side4 A10.out).mono ?_); (case side1 => exact Z51); (case side2 => exact (Kd.R_reads' HO_4.out).2.1); (case side3 => exact Z30); (case side4 => exact HC375_0.out); rintro e w15 ⟨v382, rfl, ho0, hb⟩; refine ⟨_, rfl, ?_⟩; have n0_ := ZM (Kd.R_elder' (Zr HO_4) (Kd.R_base ho0) hb); have n1_ := ZM (Kd.R_lower (Kd.R_new' ho0 (Kd.R_lt (Zr HO_4))) (zzS Z1)); have n2_ := ZM (zzT Z1 hb); clear HO_4; clear HB; have HO_4 := n0_; have HO383 := n1_; have HB := n2_; clear n0_ n1_ n2_; (try clear hb); (try clear hb2); (try clear hk); (try clear hi); (try clear ho0)))
     go_ret2
     exact ⟨_, by first | rfl | (simp [errW_none, errW_some] <;> rfl) | (simp [*, errW_none, errW_some] <;> rfl), by first | exact Kd.R_nil _ _ _ _ _ | exact Kd.N_nil _ _ _ _ _ | exact Kd.V_nil _ _ _ _ _ | exact Kd.Q_nil _ _ _ _ _ | exact Kd.S_nil _ _ _ _ _, by repeat (first | (with_reducible first | exact HB.out | apply zzA | apply zzN | apply zzD) | exact HB.out)⟩
    rw [if_pos c11] at H
    have c11b0 : (t381 == 0) = true := beq_iff_eq.mpr c11
    have c11b1 : (t381 != 0) = false := bne_eq_false_iff_eq.mpr c11
    clear c11
    have H' := ZM H
    clear H
    have p375 : 0 ≤ (x12_1 : Int) := of_decide_eq_true Z3
    have q375 : x12_1 < (l0.length : Int) := of_decide_eq_true Z3
    obtain ⟨ad375, A375_0, c375_0, e375, hx375_0, hl375_0, hi375_0⟩ := at_L1 HR0.out x12_1 p375 q375
    cases e375
    replace hx375_0 := (HB.out.cell (World.block_lt_of_cell? w _ hx375_0)).trans hx375_0
    have HR375_0 := ZM hi375_0
    have HC375_0 := ZM hl375_0
    clear hi375_0 hl375_0
    replace p375 := eq_true p375
    replace q375 := eq_true q375
    obtain ⟨Ao12, co12, eo12⟩ := Kd.R_slice HO_4.out
    subst eo12
    go_wp2_with (first | ((with_reducible refine gate_callee (f := 74) rfl ?_); refine goesL_ (some 30) rfl rfl Try.func74 (by kernel_rfl) rfl #[.slice Ao12 x4_1.length co12, .slice A375_0 (rd_L1 l0 x12_1).length c375_0] rfl Z2 ?_; (with_reducible refine (thrumref02_Add.calls _ _ x4_1 _ _ (rd_L1 l0 x12_1) t380 t381 _ ?side1 ?side2 ?side3 ?side4 A10.out).mono ?_); (case side1 => exact Z51); (case side2 => exact (Kd.R_reads' HO_4.out).2.1); (case side3 => exact Z30); (case side4 => exact HC375_0.out); rintro e w13 ⟨v382, rfl, ho0, hb⟩; refine ⟨_, rfl, ?_⟩; have n0_ := ZM (Kd.R_elder' (Zr HO_4) (Kd.R_base ho0) hb); have n1_ := ZM (Kd.R_lower (Kd.R_new' ho0 (Kd.R_lt (Zr HO_4))) (zzS Z1)); have n2_ := ZM (zzT Z1 hb); clear HO_4; clear HB; have HO_4 := n0_; have HO383 := n1_; have HB := n2_; clear n0_ n1_ n2_; (try clear hb); (try clear hb2); (try clear hk); (try clear hi); (try clear ho0)))
    go_roundg k1
    case measure => have := HK1.out; omega
    case rel => exact ⟨(t380), (wrap64 (x12_1 + 1)), Z4, H', ⟨by have := HK1.out; omega⟩, ⟨by (with_reducible repeat (first | apply rrA | apply rrN | apply rrD)); exact Kd.R_mono HO383.out (fun _ hk => trivial)⟩, ⟨by repeat (first | (with_reducible first | exact HB.out | apply zzA | apply zzN | apply zzD) | exact HB.out)⟩⟩
   rw [if_pos c5] at H
   have c5b0 : (x12_1 == 0) = true := beq_iff_eq.mpr c5
   have c5b1 : (x12_1 != 0) = false := bne_eq_false_iff_eq.mpr c5
   clear c5
   replace H := Option.bind_eq_some_iff.mp H
   obtain ⟨t376, A60, H⟩ := H
   replace H : (if t376 = 0 then (if x4_1.length + (rd_L1 l0 x12_1).length < 17592186044416 then (thrumref02_SumP.l0 k1 (x4_1 ++ (rd_L1 l0 x12_1)) l0 (l0.length : Int) (wrap64 (x12_1 + 1))) else (none)) else (some (([] : List Int), t376))) = some (r1, r2) := H
   have A6 := ZM A60
   clear A60
   by_cases c7 : t376 = 0
   case neg =>
    rw [if_neg c7] at H
    have c7b0 : (t376 == 0) = false := beq_eq_false_iff_ne.mpr c7
    have c7b1 : (t376 != 0) = true := bne_iff_ne.mpr c7
    simp only [Option.some.injEq, Prod.mk.injEq] at H
    obtain ⟨rfl, rfl⟩ := H
    have p375 : 0 ≤ (x12_1 : Int) := of_decide_eq_true Z3
    have q375 : x12_1 < (l0.length : Int) := of_decide_eq_true Z3
    obtain ⟨ad375, A375_0, c375_0, e375, hx375_0, hl375_0, hi375_0⟩ := at_L1 HR0.out x12_1 p375 q375
    cases e375
    replace hx375_0 := (HB.out.cell (World.block_lt_of_cell? w _ hx375_0)).trans hx375_0
    have HR375_0 := ZM hi375_0
    have HC375_0 := ZM hl375_0
    clear hi375_0 hl375_0
    replace p375 := eq_true p375
    replace q375 := eq_true q375
    go_wp2_with (first | ((with_reducible refine gate_callee (f := 73) rfl ?_); refine goesL_ (some 20) rfl rfl Try.func73 (by kernel_rfl) rfl #[.slice A375_0 (rd_L1 l0 x12_1).length c375_0] rfl Z2 ?_; (with_reducible refine (thrumref02_Check.calls _ _ (rd_L1 l0 x12_1) t376 _ ?side1 ?side2 A6.out).mono ?_); (case side1 => exact Z30); (case side2 => exact HC375_0.out); rintro e w' ⟨rfl, ⟨nd, rfl⟩⟩; refine ⟨_, rfl, ?_⟩))
    go_ret2
    exact ⟨_, by first | rfl | (simp [errW_none, errW_some] <;> rfl) | (simp [*, errW_none, errW_some] <;> rfl), by first | exact Kd.R_nil _ _ _ _ _ | exact Kd.N_nil _ _ _ _ _ | exact Kd.V_nil _ _ _ _ _ | exact Kd.Q_nil _ _ _ _ _ | exact Kd.S_nil _ _ _ _ _, by repeat (first | (with_reducible first | exact HB.out | apply zzA | apply zzN | apply zzD) | exact HB.out)⟩
   rw [if_pos c7] at H
   have c7b0 : (t376 == 0) = true := beq_iff_eq.mpr c7
   have c7b1 : (t376 != 0) = false := bne_eq_false_iff_eq.mpr c7
   clear c7
   by_cases c8 : x4_1.length + (rd_L1 l0 x12_1).length < 17592186044416
   case neg =>
    rw [if_neg c8] at H
    exact absurd H (by simp)
   rw [if_pos c8] at H
   have LMc8 := ZM c8
   clear c8
   obtain ⟨y377, hy377⟩ : ∃ y_ : List Int, y_ = (x4_1 ++ (rd_L1 l0 x12_1)) := ⟨_, rfl⟩
   replace H : (thrumref02_SumP.l0 k1 y377 l0 (l0.length : Int) (wrap64 (x12_1 + 1))) = some (r1, r2) := by first | (rw [hy377]; with_reducible exact H) | (have H2_ := (Option.bind_some _ _).symm.trans H; rw [hy377]; with_reducible exact H2_) | (have H2_ := (Option.bind_some _ _).symm.trans H; with_reducible exact H2_) | with_reducible exact H | (rw [hy377]; exact H) | exact H
   have Ny377 := ZM hy377
   clear hy377
   have H' := ZM H
   clear H
   have p375 : 0 ≤ (x12_1 : Int) := of_decide_eq_true Z3
   have q375 : x12_1 < (l0.length : Int) := of_decide_eq_true Z3
   obtain ⟨ad375, A375_0, c375_0, e375, hx375_0, hl375_0, hi375_0⟩ := at_L1 HR0.out x12_1 p375 q375
   cases e375
   replace hx375_0 := (HB.out.cell (World.block_lt_of_cell? w _ hx375_0)).trans hx375_0
   have HR375_0 := ZM hi375_0
   have HC375_0 := ZM hl375_0
   clear hi375_0 hl375_0
   replace p375 := eq_true p375
   replace q375 := eq_true q375
   go_wp2_with (first | ((with_reducible refine gate_callee (f := 73) rfl ?_); refine goesL_ (some 20) rfl rfl Try.func73 (by kernel_rfl) rfl #[.slice A375_0 (rd_L1 l0 x12_1).length c375_0] rfl Z2 ?_; (with_reducible refine (thrumref02_Check.calls _ _ (rd_L1 l0 x12_1) t376 _ ?side1 ?side2 A6.out).mono ?_); (case side1 => exact Z30); (case side2 => exact HC375_0.out); rintro e w' ⟨rfl, ⟨nd, rfl⟩⟩; refine ⟨_, rfl, ?_⟩) | ((with_reducible refine gate_builtin (b := .append) (xs := #[.tmp 24, .tmp 25]) rfl ?_); at_builtin; refine Kd.R_append_rows (Kd.int .i64) (w0 := w) w.heap.size rfl (.tmp 24) (.tmp 25) 22 2 (.int .i64 0) 8 rfl Try.underlying22 info2 rfl (by decide) (by omega) u4 x4_1 (rd_L1 l0 x12_1) _ _ _ (fun _ => True) (fun _ => False) rfl rfl ?aO ?aR (fun _ _ h => h) (fun _ h => h.elim) ?aF ?aB ?aS ?aL ?_; (case aR => repeat (first | exact (Kd.C_below HR375_0.out Z1) | (with_reducible refine ccA ?_ _) | (with_reducible refine ccN ?_ _) | (with_reducible refine ccD ?_))); (case aB => exact Z1); (case aF => exact (fun _ _ => trivial)); (case aO => exact (Zr HO_4)); (case aS => exact (zzS Z1)); (case aL => have := LMc8.out; omega); intro v378 w9 ho hb hg hat; rw [← Ny377.out] at ho; have HO379 := ZM (ho); replace HB := ZM (hb); clear HO_4; clear ho hb hg hat))
   go_roundg k1
   case measure => have := HK1.out; omega
   case rel => exact ⟨(y377), (wrap64 (x12_1 + 1)), Z4, H', ⟨by have := HK1.out; omega⟩, ⟨by (with_reducible repeat (first | apply rrA | apply rrN | apply rrD)); exact HO379.out⟩, ⟨by repeat (first | (with_reducible first | exact HB.out | apply zzA | apply zzN | apply zzD) | exact HB.out)⟩⟩
theorem thrumref02_SumP.loop (x0 : List (List Int)) (hv : ∀ v ∈ x0, V64 v) (hb : x0.length ≤ 9223372036854775807) : ∀ (d i : Nat) (acc : List Int), 0 < i → d + i = x0.length → V64 acc →
    thrumref02_SumP.l0 (d + 1) acc x0 (x0.length : Int) (i : Int) = some (sumFrom (x0.drop i) acc) := by
  intro d
  induction d with
  | zero =>
    intro i acc h0 hd ha
    rw [thrumref02_SumP.l0, if_neg (by omega), List.drop_eq_nil_of_le (by omega)]; rfl
  | succ d ih =>
    intro i acc h0 hd ha
    have hi : i < x0.length := by omega
    have e : rd_L1 x0 (i : Int) = x0[i] := by simp [rd_L1, List.getD_eq_getElem?_getD, List.getElem?_eq_getElem hi]
    rw [thrumref02_SumP.l0, if_pos (by omega), if_pos (by omega), if_pos (by omega), if_neg (by omega), e, thrumref02_Add.of _ _ ⟨ha, hv _ (List.getElem_mem hi)⟩, List.drop_eq_getElem_cons hi]
    simp only [Option.bind_some, sumFrom]
    by_cases c : (addV acc x0[i]).2 = 0
    · rw [if_pos c, if_pos c, wrap64_of (by unfold I64; omega), show (i : Int) + 1 = ((i + 1 : Nat) : Int) by omega]
      exact ih (i + 1) _ (by omega) (by omega) (addV_v64 _ _)
    · rw [if_neg c, if_neg c]
def thrumref02_Sum.f (l0 : List (List Int)) : Option (List Int × Int) := if ∀ v ∈ l0, V64 v then some (sumsV l0) else none
theorem thrumref02_Sum.calls (A0 : Option Addr) (c0 : Nat) (l0 : List (List Int)) (r1 : List Int) (r2 : Int) (w : World) (hr0 : Kd.C (Kd.slice 2 (Kd.int .i64)) w A0 l0.length l0) (hc0 : l0.length ≤ c0) (h : thrumref02_Sum.f l0 = some (r1, r2)) :
    Calls Try.prog 49 #[.slice A0 l0.length c0] w fun e w' => ∃ v0_ : Value, e = .returned (.tuple #[v0_, .int .i64 r2]) ∧ Kd.R (Kd.int .i64) 2 w' w.heap.size (fun _ => True) v0_ r1 ∧ Below w.heap.size w w' := by
  unfold thrumref02_Sum.f at h
  split at h
  case isFalse => cases h
  rename_i hv
  have hm := Kd.C_max hr0
  refine thrumref02_SumP.calls (l0.length + 1) A0 c0 l0 r1 r2 w hr0 hc0 (Eq.trans ?_ h)
  unfold thrumref02_SumP.f
  cases l0 with
  | nil => rw [thrumref02_SumP.l0, if_neg (by simp)]; rfl
  | cons v l =>
    have e : rd_L1 (v :: l) 0 = v := rfl
    have hl : ((v :: l).length : Int) = (l.length : Int) + 1 := by simp
    rw [thrumref02_SumP.l0, if_pos (by omega), if_pos (by omega), if_pos (by omega), if_pos rfl, e]
    show _ = some (if checkE v = 0 then sumFrom l v else ([], checkE v))
    unfold thrumref02_Check.f checkE
    by_cases c : v.length > 4096
    · rw [if_pos (by omega), if_pos c]; simp
    · rw [if_neg (by omega), if_neg c]
      simp only [Option.bind_some, if_true]
      rw [if_pos (by simp; omega), wrap64_of (by unfold I64; omega), List.nil_append]
      exact thrumref02_SumP.loop (v :: l) hv hm l.length 1 v (by omega) (by simp) (hv v (by simp))


/-! ### thrumref01_QuotP: function 50 -/
def thrumref01_QuotP.f (a0 : Int) (a1 : Int) : Option (Int × Int) := (thrumref01_Div.f a0 a1 0).bind fun bt384 => (some (bt384.1, bt384.2))
set_option maxHeartbeats 8000000 in
set_option maxRecDepth 100000 in
theorem thrumref01_QuotP.calls (a0 : Int) (a1 : Int) (r1 : Int) (r2 : Int) (w : World) (h : thrumref01_QuotP.f a0 a1 = some (r1, r2)) :
  Calls Try.prog 50 #[.int .i64 a0, .int .i64 a1] w fun e w' => e = .returned (.tuple #[.int .i64 r1, .int .i64 r2]) ∧ Drawn0 w w' := by
 have H : ((thrumref01_Div.f a0 a1 0).bind fun bt384 => (some (bt384.1, bt384.2))) = some (r1, r2) := h
 clear h
 replace H := Option.bind_eq_some_iff.mp H
 obtain ⟨⟨t384, t385⟩, A30, H⟩ := H
 replace H : (some (t384, t385)) = some (r1, r2) := H
 have A3 := ZM A30
 clear A30
 simp only [Option.some.injEq, Prod.mk.injEq] at H
 obtain ⟨rfl, rfl⟩ := H
 go_enter Try.func50, Try.ntmps50
 go_wp2_with (first | ((with_reducible refine gate_callee (f := 75) rfl ?_); refine goesL_ (some 8) rfl rfl Try.func75 (by kernel_rfl) rfl #[.int .i64 a0, .int .i64 a1, .int .i64 0] rfl Z2 ?_; (with_reducible refine (thrumref01_Div.calls a0 a1 0 t384 t385 _ A3.out).mono ?_); rintro e w' ⟨rfl, ⟨nd, rfl⟩⟩; refine ⟨_, rfl, ?_⟩))
 go_ret2
 exact ⟨by first | rfl | (simp; done) | (simp [*]; done), by repeat (first | exact ddR _ | apply ddS)⟩
def thrumref01_Quot.f (a0 a1 : Int) : Option (Int × Int) := if I64 a0 ∧ I64 a1 then some (divF a0 a1 0) else none
theorem thrumref01_Quot.of (a0 a1 : Int)  (h_ : I64 a0 ∧ I64 a1) : thrumref01_Quot.f a0 a1 = some (divF a0 a1 0) := if_pos h_
theorem thrumref01_Quot.calls (a0 : Int) (a1 : Int) (r1 : Int) (r2 : Int) (w : World) (h : thrumref01_Quot.f a0 a1 = some (r1, r2)) :
    Calls Try.prog 50 #[.int .i64 a0, .int .i64 a1] w fun e w' => e = .returned (.tuple #[.int .i64 r1, .int .i64 r2]) ∧ Drawn0 w w' := by
  unfold thrumref01_Quot.f at h
  split at h
  · rename_i hu
    refine thrumref01_QuotP.calls a0 a1 r1 r2 w (Eq.trans ?_ h)
    unfold thrumref01_QuotP.f thrumref01_Div.f
    rw [if_pos hu]; simp
  · cases h


/-! ### thrumref14_MeanP: function 29 -/
def thrumref14_MeanP.l0 : Nat → Int → List Int → List Int → Int → Int → Option (List Int × Int)
 | 0, _, _, _, _, _ => none
 | k + 1, x0, x8, x23, x24, x25 => if x25 < x24 then (if 0 ≤ x25 then (if x25 < (x23.length : Int) then ((thrumref01_Quot.f (rd x23 x25) x0).bind fun bt391 => (if bt391.2 = 0 then (if x8.length < 17592186044416 then (thrumref14_MeanP.l0 k x0 (x8 ++ [bt391.1]) x23 x24 (wrap64 (x25 + 1))) else (none)) else (some (([] : List Int), bt391.2)))) else (none)) else (none)) else (some (x8, 0))
def thrumref14_MeanP.f (k : Nat) (a0 : Int) (l1 : List (List Int)) : Option (List Int × Int) := if a0 < 1 then (some (([] : List Int), 1)) else ((thrumref02_Sum.f l1).bind fun bt386 => (if bt386.2 = 0 then (thrumref14_MeanP.l0 k a0 ([] : List Int) bt386.1 (bt386.1.length : Int) 0) else (some (([] : List Int), bt386.2))))
theorem thrumref14_MeanP.mono_l : ∀ k, (∀ y0 y1 y2 y3 y4, LeO (thrumref14_MeanP.l0 k y0 y1 y2 y3 y4) (thrumref14_MeanP.l0 (k + 1) y0 y1 y2 y3 y4))
 | 0 => fun _ _ _ _ _ r h => by simp [thrumref14_MeanP.l0] at h
 | k + 1 => by
  have ih0 := thrumref14_MeanP.mono_l k
  ·
   intro y0 y1 y2 y3 y4
   unfold thrumref14_MeanP.l0
   repeat' first
   | (with_reducible exact ih0 _ _ _ _ _)
   | (with_reducible exact LeO.refl _)
   | (with_reducible exact LeO.none _)
   | (with_reducible refine LeO.ite ?_ ?_)
   | (with_reducible refine LeO.bind ?_ (fun _ => ?_))
theorem thrumref14_MeanP.mono : ∀ a0 a1 k, LeO (thrumref14_MeanP.f k a0 a1) (thrumref14_MeanP.f (k + 1) a0 a1) := by
 intro a0 a1 k
 have ih0 := thrumref14_MeanP.mono_l k
 unfold thrumref14_MeanP.f
 repeat' first
   | (with_reducible exact ih0 _ _ _ _ _)
   | (with_reducible exact LeO.refl _)
   | (with_reducible exact LeO.none _)
   | (with_reducible refine LeO.ite ?_ ?_)
   | (with_reducible refine LeO.bind ?_ (fun _ => ?_))
set_option maxHeartbeats 8000000 in
set_option maxRecDepth 100000 in
theorem thrumref14_MeanP.calls (k : Nat) (a0 : Int) (A1 : Option Addr) (c1 : Nat) (l1 : List (List Int)) (r1 : List Int) (r2 : Int) (w : World) (hr1 : Kd.C (Kd.slice 2 (Kd.int .i64)) w A1 l1.length l1) (hc1 : l1.length ≤ c1) (h : thrumref14_MeanP.f k a0 l1 = some (r1, r2)) :
  Calls Try.prog 29 #[.int .i64 a0, .slice A1 l1.length c1] w fun e w' => ∃ v0_ : Value, e = .returned (.tuple #[v0_, .int .i64 r2]) ∧ Kd.R (Kd.int .i64) 2 w' w.heap.size (fun _ => True) v0_ r1 ∧ Below w.heap.size w w' := by
 have HR1 := ZM hr1
 have HC1 := ZM hc1
 clear hr1 hc1
 have HB := ZM (Below.refl w.heap.size w)
 have H : (if a0 < 1 then (some (([] : List Int), 1)) else ((thrumref02_Sum.f l1).bind fun bt386 => (if bt386.2 = 0 then (thrumref14_MeanP.l0 k a0 ([] : List Int) bt386.1 (bt386.1.length : Int) 0) else (some (([] : List Int), bt386.2))))) = some (r1, r2) := h
 clear h
 by_cases c3 : a0 < 1
 ·
  rw [if_pos c3] at H
  have c3b0 : decide (a0 < 1) = true := decide_eq_true c3
  clear c3
  simp only [Option.some.injEq, Prod.mk.injEq] at H
  obtain ⟨rfl, rfl⟩ := H
  go_enter Try.func29, Try.ntmps29
  go_wp2
  go_ret2
  exact ⟨_, by first | rfl | (simp [errW_none, errW_some] <;> rfl) | (simp [*, errW_none, errW_some] <;> rfl), by first | exact Kd.R_nil _ _ _ _ _ | exact Kd.N_nil _ _ _ _ _ | exact Kd.V_nil _ _ _ _ _ | exact Kd.Q_nil _ _ _ _ _ | exact Kd.S_nil _ _ _ _ _, by repeat (first | (with_reducible first | exact HB.out | apply zzA | apply zzN | apply zzD) | exact HB.out)⟩
 rw [if_neg c3] at H
 have c3b0 : decide (a0 < 1) = false := decide_eq_false c3
 clear c3
 replace H := Option.bind_eq_some_iff.mp H
 obtain ⟨⟨t386, t387⟩, A40, H⟩ := H
 replace H : (if t387 = 0 then (thrumref14_MeanP.l0 k a0 ([] : List Int) t386 (t386.length : Int) 0) else (some (([] : List Int), t387))) = some (r1, r2) := H
 have A4 := ZM A40
 clear A40
 by_cases c5 : t387 = 0
 case neg =>
  rw [if_neg c5] at H
  have c5b0 : (t387 == 0) = false := beq_eq_false_iff_ne.mpr c5
  have c5b1 : (t387 != 0) = true := bne_iff_ne.mpr c5
  simp only [Option.some.injEq, Prod.mk.injEq] at H
  obtain ⟨rfl, rfl⟩ := H
  go_enter Try.func29, Try.ntmps29
  go_wp2_with (first | ((with_reducible refine gate_callee (f := 49) rfl ?_); refine goesL_ (some 17) rfl rfl Try.func49 (by kernel_rfl) rfl #[.slice A1 l1.length c1] rfl Z2 ?_; (with_reducible refine (thrumref02_Sum.calls _ _ l1 t386 t387 _ ?side1 ?side2 A4.out).mono ?_); (case side1 => exact Z5); (case side2 => exact HC1.out); rintro e w15 ⟨v388, rfl, ho0, hb⟩; refine ⟨_, rfl, ?_⟩; have HO389 := ZM (Kd.R_lower ho0 (zzS Z1)); replace HB := ZM (zzT Z1 hb); (try clear hb); (try clear hb2); (try clear hk); (try clear hi); (try clear ho0)))
  go_ret2
  exact ⟨_, by first | rfl | (simp [errW_none, errW_some] <;> rfl) | (simp [*, errW_none, errW_some] <;> rfl), by first | exact Kd.R_nil _ _ _ _ _ | exact Kd.N_nil _ _ _ _ _ | exact Kd.V_nil _ _ _ _ _ | exact Kd.Q_nil _ _ _ _ _ | exact Kd.S_nil _ _ _ _ _, by repeat (first | (with_reducible first | exact HB.out | apply zzA | apply zzN | apply zzD) | exact HB.out)⟩
 rw [if_pos c5] at H
 have c5b0 : (t387 == 0) = true := beq_iff_eq.mpr c5
 have c5b1 : (t387 != 0) = false := bne_eq_false_iff_eq.mpr c5
 clear c5
 have H' := ZM H
 clear H
 go_enter Try.func29, Try.ntmps29
 go_wp2_with (first | ((with_reducible refine gate_callee (f := 49) rfl ?_); refine goesL_ (some 17) rfl rfl Try.func49 (by kernel_rfl) rfl #[.slice A1 l1.length c1] rfl Z2 ?_; (with_reducible refine (thrumref02_Sum.calls _ _ l1 t386 t387 _ ?side1 ?side2 A4.out).mono ?_); (case side1 => exact Z5); (case side2 => exact HC1.out); rintro e w6 ⟨v388, rfl, ho0, hb⟩; refine ⟨_, rfl, ?_⟩; have HO389 := ZM (Kd.R_lower ho0 (zzS Z1)); replace HB := ZM (zzT Z1 hb); (try clear hb); (try clear hb2); (try clear hk); (try clear hi); (try clear ho0); obtain ⟨Ao7, co7, eo7⟩ := Kd.R_slice HO389.out; subst eo7))
 go_loopg [8, 25] k (fun kq v8 v25 w' => ∃ (x8_1 : List Int) (x25_1 : Int), v25 = .int .i64 x25_1 ∧ Aside0 (thrumref14_MeanP.l0 kq a0 x8_1 t386 (t386.length : Int) x25_1 = some (r1, r2)) ∧ Aside0 (kq ≤ k) ∧ Aside0 (Kd.R (Kd.int .i64) 2 w' w.heap.size (fun k_ => some k_ ≠ ((.slice Ao7 t386.length co7) : Value).ownBlock) v8 x8_1) ∧ Aside0 (Kd.R (Kd.int .i64) 2 w' w.heap.size (fun k_ => some k_ ≠ (v8 : Value).ownBlock) (.slice Ao7 t386.length co7) t386) ∧ Aside0 (Below w.heap.size w w'))
 case atStart => exact ⟨(([] : List Int)), (0), Z4, H', ⟨Nat.le_refl _⟩, ⟨by first | exact Kd.R_nil _ _ _ _ _ | exact Kd.N_nil _ _ _ _ _ | exact Kd.V_nil _ _ _ _ _ | exact Kd.Q_nil _ _ _ _ _ | exact Kd.S_nil _ _ _ _ _⟩, ⟨by (with_reducible repeat (first | apply rrA | apply rrN | apply rrD)); exact Kd.R_mono HO389.out (fun _ hk => (by simp [Value.ownBlock]))⟩, ⟨by repeat (first | (with_reducible first | exact HB.out | apply zzA | apply zzN | apply zzD) | exact HB.out)⟩⟩
 case round =>
  clear H'
  try clear c1
  try clear c2
  try clear p2
  try clear c3
  try clear c3b0
  try clear c4
  try clear c5
  try clear c5b0
  try clear c5b1
  obtain ⟨x8_1, x25_1, rfl, HA, HK1, HO_8, HO_23, HB⟩ := hrel
  cases gk with
  | zero => exact absurd HA.out (by simp [thrumref14_MeanP.l0])
  | succ k1 =>
   have H := HA.out
   clear HA
   simp only [thrumref14_MeanP.l0] at H
   by_cases c8 : x25_1 < (t386.length : Int)
   case neg =>
    rw [if_neg c8] at H
    have c8b0 : decide (x25_1 < (t386.length : Int)) = false := decide_eq_false c8
    clear c8
    simp only [Option.some.injEq, Prod.mk.injEq] at H
    obtain ⟨rfl, rfl⟩ := H
    go_wp2
    go_ret2
    exact ⟨_, by first | rfl | (simp [errW_none, errW_some] <;> rfl) | (simp [*, errW_none, errW_some] <;> rfl), by (with_reducible repeat (first | apply rrA | apply rrN | apply rrD)); exact Kd.R_mono HO_8.out (fun _ hk => trivial), by repeat (first | (with_reducible first | exact HB.out | apply zzA | apply zzN | apply zzD) | exact HB.out)⟩
   rw [if_pos c8] at H
   have c8b0 : decide (x25_1 < (t386.length : Int)) = true := decide_eq_true c8
   clear c8
   by_cases c9 : 0 ≤ x25_1
   case neg =>
    rw [if_neg c9] at H
    exact absurd H (by simp)
   rw [if_pos c9] at H
   have c9b0 : decide (0 ≤ x25_1) = true := decide_eq_true c9
   clear c9
   by_cases c10 : x25_1 < (t386.length : Int)
   case neg =>
    rw [if_neg c10] at H
    exact absurd H (by simp)
   rw [if_pos c10] at H
   have c10b0 : decide (x25_1 < (t386.length : Int)) = true := decide_eq_true c10
   clear c10
   replace H := Option.bind_eq_some_iff.mp H
   obtain ⟨⟨t391, t392⟩, A110, H⟩ := H
   replace H : (if t392 = 0 then (if x8_1.length < 17592186044416 then (thrumref14_MeanP.l0 k1 a0 (x8_1 ++ [t391]) t386 (t386.length : Int) (wrap64 (x25_1 + 1))) else (none)) else (some (([] : List Int), t392))) = some (r1, r2) := H
   have A11 := ZM A110
   clear A110
   by_cases c12 : t392 = 0
   case neg =>
    rw [if_neg c12] at H
    have c12b0 : (t392 == 0) = false := beq_eq_false_iff_ne.mpr c12
    have c12b1 : (t392 != 0) = true := bne_iff_ne.mpr c12
    simp only [Option.some.injEq, Prod.mk.injEq] at H
    obtain ⟨rfl, rfl⟩ := H
    have p390 : 0 ≤ (x25_1 : Int) := of_decide_eq_true Z3
    have q390 : x25_1 < (t386.length : Int) := of_decide_eq_true Z3
    obtain ⟨ad390, e390, hx390_0⟩ := Kd.at_int (Kd.R_reads' HO_23.out).2.2 x25_1 p390 q390
    cases e390
    replace p390 := eq_true p390
    replace q390 := eq_true q390
    go_wp2_with (first | ((with_reducible refine gate_callee (f := 50) rfl ?_); refine goesL_ (some 32) rfl rfl Try.func50 (by kernel_rfl) rfl #[.int .i64 (rd t386 x25_1), .int .i64 a0] rfl Z2 ?_; (with_reducible refine (thrumref01_Quot.calls (rd t386 x25_1) a0 t391 t392 _ A11.out).mono ?_); rintro e w' ⟨rfl, ⟨nd, rfl⟩⟩; refine ⟨_, rfl, ?_⟩))
    go_ret2
    exact ⟨_, by first | rfl | (simp [errW_none, errW_some] <;> rfl) | (simp [*, errW_none, errW_some] <;> rfl), by first | exact Kd.R_nil _ _ _ _ _ | exact Kd.N_nil _ _ _ _ _ | exact Kd.V_nil _ _ _ _ _ | exact Kd.Q_nil _ _ _ _ _ | exact Kd.S_nil _ _ _ _ _, by repeat (first | (with_reducible first | exact HB.out | apply zzA | apply zzN | apply zzD) | exact HB.out)⟩
   rw [if_pos c12] at H
   have c12b0 : (t392 == 0) = true := beq_iff_eq.mpr c12
   have c12b1 : (t392 != 0) = false := bne_eq_false_iff_eq.mpr c12
   clear c12
   by_cases c13 : x8_1.length < 17592186044416
   case neg =>
    rw [if_neg c13] at H
    exact absurd H (by simp)
   rw [if_pos c13] at H
   have LMc13 := ZM c13
   clear c13
   obtain ⟨y393, hy393⟩ : ∃ y_ : List Int, y_ = (x8_1 ++ [t391]) := ⟨_, rfl⟩
   replace H : (thrumref14_MeanP.l0 k1 a0 y393 t386 (t386.length : Int) (wrap64 (x25_1 + 1))) = some (r1, r2) := by first | (rw [hy393]; with_reducible exact H) | (have H2_ := (Option.bind_some _ _).symm.trans H; rw [hy393]; with_reducible exact H2_) | (have H2_ := (Option.bind_some _ _).symm.trans H; with_reducible exact H2_) | with_reducible exact H | (rw [hy393]; exact H) | exact H
   have Ny393 := ZM hy393
   clear hy393
   have H' := ZM H
   clear H
   have p390 : 0 ≤ (x25_1 : Int) := of_decide_eq_true Z3
   have q390 : x25_1 < (t386.length : Int) := of_decide_eq_true Z3
   obtain ⟨ad390, e390, hx390_0⟩ := Kd.at_int (Kd.R_reads' HO_23.out).2.2 x25_1 p390 q390
   cases e390
   replace p390 := eq_true p390
   replace q390 := eq_true q390
   go_wp2_with (first | ((with_reducible refine gate_callee (f := 50) rfl ?_); refine goesL_ (some 32) rfl rfl Try.func50 (by kernel_rfl) rfl #[.int .i64 (rd t386 x25_1), .int .i64 a0] rfl Z2 ?_; (with_reducible refine (thrumref01_Quot.calls (rd t386 x25_1) a0 t391 t392 _ A11.out).mono ?_); rintro e w' ⟨rfl, ⟨nd, rfl⟩⟩; refine ⟨_, rfl, ?_⟩) | ((with_reducible refine gate_builtin (b := .append) (xs := #[.tmp 38, .tmp 40]) rfl ?_); at_builtin; refine Kd.R_append (Kd.int .i64) (w0 := w) w.heap.size rfl (.tmp 38) (.tmp 40) 22 2 (.int .i64 0) 8 rfl Try.underlying22 info2 rfl (by decide) (by omega) u8 x8_1 t391 [.int .i64 t391] (fun k_ => some k_ ≠ (.slice (some ad390) t386.length co7 : Value).ownBlock) (fun _ => False) rfl rfl ?aP (fun _ hk => hk.elim) ?aF ?aO ?aB ?aS ?aL ?_; (case aP => exact rfl); (case aB => exact Z1); (case aF => exact (fun k_ hk => Kd.fresh' (Kd.R_lt (Zr HO_23)) k_ hk)); (case aO => exact (Zr HO_8)); (case aS => exact (zzS Z1)); (case aL => have := LMc13.out; omega); intro v394 w14 ho hb hg hat; rw [← Ny393.out] at ho; replace HO_23 := ZM (Kd.R_after (ok := (fun _ => True)) (by (with_reducible repeat (first | apply rrA | apply rrN | apply rrD)); exact Kd.R_mono HO_23.out (fun _ hk => ⟨trivial, hk⟩)) hg hat); have HO395 := ZM (ho); replace HB := ZM (hb); clear HO_8; clear ho hb hg hat))
   go_roundg k1
   case measure => have := HK1.out; omega
   case rel => exact ⟨(y393), (wrap64 (x25_1 + 1)), Z4, H', ⟨by have := HK1.out; omega⟩, ⟨by (with_reducible repeat (first | apply rrA | apply rrN | apply rrD)); exact HO395.out⟩, ⟨by (with_reducible repeat (first | apply rrA | apply rrN | apply rrD)); exact Kd.R_mono HO_23.out (fun _ hk => hk.2)⟩, ⟨by repeat (first | (with_reducible first | exact HB.out | apply zzA | apply zzN | apply zzD) | exact HB.out)⟩⟩
theorem thrumref14_MeanP.loop (x0 : Int) (hx0 : I64 x0) (s : List Int) (hs : V64 s) (hb : s.length ≤ 4096) : ∀ (d i : Nat) (acc : List Int), d + i = s.length → acc.length ≤ i →
    thrumref14_MeanP.l0 (d + 1) x0 acc s (s.length : Int) (i : Int) = some (seqFrom (fun x => divF x x0 0) (s.drop i) acc) := by
  intro d
  induction d with
  | zero =>
    intro i acc hd ha
    rw [thrumref14_MeanP.l0, if_neg (by omega), List.drop_eq_nil_of_le (by omega), seqFrom_nil]
  | succ d ih =>
    intro i acc hd ha
    have hi : i < s.length := by omega
    rw [thrumref14_MeanP.l0, if_pos (by omega), if_pos (by omega), if_pos (by omega), show rd s (i : Int) = s[i] from rd_nat hi, thrumref01_Quot.of _ _ ⟨hs _ (List.getElem_mem hi), hx0⟩, List.drop_eq_getElem_cons hi]
    simp only [Option.bind_some]
    by_cases c : (divF s[i] x0 0).2 = 0
    · rw [if_pos c, if_pos (by omega), seqFrom_ok (g := fun x => divF x x0 0) c, wrap64_of (by unfold I64; omega), show (i : Int) + 1 = ((i + 1 : Nat) : Int) by omega]
      exact ih (i + 1) _ (by omega) (by simp; omega)
    · rw [if_neg c, seqFrom_bad (g := fun x => divF x x0 0) c]
def thrumref14_Mean.f (a0 : Int) (l1 : List (List Int)) : Option (List Int × Int) := if I64 a0 ∧ ∀ v ∈ l1, V64 v then some (meanL a0 l1) else none
theorem thrumref14_Mean.of (a0 : Int) (l1 : List (List Int)) (h : I64 a0 ∧ ∀ v ∈ l1, V64 v) : thrumref14_Mean.f a0 l1 = some (meanL a0 l1) := if_pos h
theorem thrumref14_Mean.calls (a0 : Int) (A1 : Option Addr) (c1 : Nat) (l1 : List (List Int)) (r1 : List Int) (r2 : Int) (w : World) (hr1 : Kd.C (Kd.slice 2 (Kd.int .i64)) w A1 l1.length l1) (hc1 : l1.length ≤ c1) (h : thrumref14_Mean.f a0 l1 = some (r1, r2)) :
    Calls Try.prog 29 #[.int .i64 a0, .slice A1 l1.length c1] w fun e w' => ∃ v0_ : Value, e = .returned (.tuple #[v0_, .int .i64 r2]) ∧ Kd.R (Kd.int .i64) 2 w' w.heap.size (fun _ => True) v0_ r1 ∧ Below w.heap.size w w' := by
  unfold thrumref14_Mean.f at h
  split at h
  case isFalse => cases h
  rename_i hv
  refine thrumref14_MeanP.calls (4097 + 1) a0 A1 c1 l1 r1 r2 w hr1 hc1 (Eq.trans ?_ h)
  unfold thrumref14_MeanP.f meanL
  by_cases c : a0 < 1
  · rw [if_pos c, if_pos c]
  · rw [if_neg c, if_neg c, show thrumref02_Sum.f l1 = some (sumsV l1) from if_pos hv.2]
    simp only [Option.bind_some]
    by_cases d : (sumsV l1).2 = 0
    · rw [if_pos d, if_pos d, ← seqFrom_start]
      have hl := sumsV_lle l1
      have hk := thrumref14_MeanP.loop a0 hv.1 (sumsV l1).1 (sumsV_v64 l1 hv.2) hl (sumsV l1).1.length 0 [] (by omega) (by simp)
      have hm := leO_mono (F := fun k => thrumref14_MeanP.l0 k a0 [] (sumsV l1).1 ((sumsV l1).1.length : Int) 0) (fun k => thrumref14_MeanP.mono_l k _ _ _ _ _) (show (sumsV l1).1.length + 1 ≤ 4098 by omega) hk
      exact hm
    · rw [if_neg d, if_neg d]


end Go.Proofs.Ytgilbdpbfmpcpaa.HS
