/- What Go functions do, each as a plain Lean function with the same answers, and the proof of it, in every world: printed by the session's driver over the kit's print, with texts by hand. -/
import Derived.Test.YtkfhdpnfcaghbaaHQx0
import Derived.Test.YtkfhdpnfcaghbaaHQx11
import Derived.Test.YtkfhdpnfcaghbaaMini
namespace Go.Proofs.Ytkfhdpnfcaghbaa.HQ
open Go.RowKit Go.Proofs.YtkfhdpnfcaghbaaW.PrintWords Go.Proofs.YtkfhdpnfcaghbaaW.PrintLast Go.Proofs.YtkfhdpnfcaghbaaW.PrintMore
attribute [local go_sem] max2_int min2_int max_two min_two max_three min_three max_four min_four   -- for this text's walks alone
open Go.Proofs.Ytkfhdpnfcaghbaa.Sp
attribute [local go_sem] Go.Proofs.Ytkfhdpnfcaghbaa.Sp.u64_not
set_option linter.unusedVariables false
set_option linter.unusedSimpArgs false

/-! ### thrumref02_MostP: function 91 -/
def thrumref02_MostP.l0 : Nat → Int → List Int → Int → Int → Option (Int × Int)
 | 0, _, _, _, _ => none
 | k + 1, x4, x12, x13, x14 => if x14 < x13 then (if 0 ≤ x14 then (if x14 < (x12.length : Int) then ((thrumref01_Abs.f (rd x12 x14)).bind fun bt223 => (if bt223.2 = 0 then (thrumref02_MostP.l0 k (mx x4 bt223.1) x12 x13 (wrap64 (x14 + 1))) else (some (0, bt223.2)))) else (none)) else (none)) else (some (x4, 0))
def thrumref02_MostP.f (k : Nat) (l0 : List Int) : Option (Int × Int) := if (l0.length : Int) > 4096 then (some (0, 3)) else (thrumref02_MostP.l0 k 0 l0 (l0.length : Int) 0)
theorem thrumref02_MostP.mono_l : ∀ k, (∀ y0 y1 y2 y3, LeO (thrumref02_MostP.l0 k y0 y1 y2 y3) (thrumref02_MostP.l0 (k + 1) y0 y1 y2 y3))
 | 0 => fun _ _ _ _ r h => by simp [thrumref02_MostP.l0] at h
 | k + 1 => by
  have ih0 := thrumref02_MostP.mono_l k
  ·
   intro y0 y1 y2 y3
   unfold thrumref02_MostP.l0
   repeat' first
   | (with_reducible exact ih0 _ _ _ _)
   | (with_reducible exact LeO.refl _)
   | (with_reducible exact LeO.none _)
   | (with_reducible refine LeO.ite ?_ ?_)
   | (with_reducible refine LeO.bind ?_ (fun _ => ?_))
theorem thrumref02_MostP.mono : ∀ a0 k, LeO (thrumref02_MostP.f k a0) (thrumref02_MostP.f (k + 1) a0) := by
 intro a0 k
 have ih0 := thrumref02_MostP.mono_l k
 unfold thrumref02_MostP.f
 repeat' first
   | (with_reducible exact ih0 _ _ _ _)
   | (with_reducible exact LeO.refl _)
   | (with_reducible exact LeO.none _)
   | (with_reducible refine LeO.ite ?_ ?_)
   | (with_reducible refine LeO.bind ?_ (fun _ => ?_))
set_option maxHeartbeats 8000000 in
set_option maxRecDepth 100000 in
theorem thrumref02_MostP.calls (k : Nat) (A0 : Option Addr) (c0 : Nat) (l0 : List Int) (r1 : Int) (r2 : Int) (w : World) (hr0 : Kd.C (Kd.int .i64) w A0 l0.length l0) (hc0 : l0.length ≤ c0) (h : thrumref02_MostP.f k l0 = some (r1, r2)) :
  Calls Try.prog 91 #[.slice A0 l0.length c0] w fun e w' => e = .returned (.tuple #[.int .i64 r1, .int .i64 r2]) ∧ Below w.heap.size w w' := by
 have HR0 := ZM hr0
 have HC0 := ZM hc0
 clear hr0 hc0
 have HB := ZM (Below.refl w.heap.size w)
 have H : (if (l0.length : Int) > 4096 then (some (0, 3)) else (thrumref02_MostP.l0 k 0 l0 (l0.length : Int) 0)) = some (r1, r2) := h
 clear h
 by_cases c2 : (l0.length : Int) > 4096
 ·
  rw [if_pos c2] at H
  have c2b0 : decide (4096 < (l0.length : Int)) = true := decide_eq_true c2
  have c2b1 : decide (4096 < l0.length) = true := decide_eq_true (by omega)
  clear c2
  simp only [Option.some.injEq, Prod.mk.injEq] at H
  obtain ⟨rfl, rfl⟩ := H
  go_enter Try.func91, Try.ntmps91
  go_wp2
  go_ret2
  exact ⟨by first | rfl | (simp [errW_none, errW_some] <;> rfl) | (simp [*, errW_none, errW_some] <;> rfl), by repeat (first | (with_reducible first | exact HB.out | apply zzA | apply zzN | apply zzD) | exact HB.out)⟩
 rw [if_neg c2] at H
 have c2b0 : decide (4096 < (l0.length : Int)) = false := decide_eq_false c2
 have c2b1 : decide (4096 < l0.length) = false := decide_eq_false (by omega)
 clear c2
 have H' := ZM H
 clear H
 go_enter Try.func91, Try.ntmps91
 go_wp2
 go_loopg [4, 14] k (fun kq v4 v14 w' => ∃ (x4_1 : Int) (x14_1 : Int), v4 = .int .i64 x4_1 ∧ v14 = .int .i64 x14_1 ∧ Aside0 (thrumref02_MostP.l0 kq x4_1 l0 (l0.length : Int) x14_1 = some (r1, r2)) ∧ Aside0 (kq ≤ k) ∧ Aside0 (Below w.heap.size w w'))
 case atStart => exact ⟨(0), (0), Z5, Z5, H', ⟨Nat.le_refl _⟩, ⟨by repeat (first | (with_reducible first | exact HB.out | apply zzA | apply zzN | apply zzD) | exact HB.out)⟩⟩
 case round =>
  clear H'
  try clear c2
  try clear c2b0
  try clear c2b1
  obtain ⟨x4_1, x14_1, rfl, rfl, HA, HK1, HB⟩ := hrel
  cases gk with
  | zero => exact absurd HA.out (by simp [thrumref02_MostP.l0])
  | succ k1 =>
   have H := HA.out
   clear HA
   simp only [thrumref02_MostP.l0] at H
   by_cases c3 : x14_1 < (l0.length : Int)
   case neg =>
    rw [if_neg c3] at H
    have c3b0 : decide (x14_1 < (l0.length : Int)) = false := decide_eq_false c3
    clear c3
    simp only [Option.some.injEq, Prod.mk.injEq] at H
    obtain ⟨rfl, rfl⟩ := H
    go_wp2
    go_ret2
    exact ⟨by first | rfl | (simp [errW_none, errW_some] <;> rfl) | (simp [*, errW_none, errW_some] <;> rfl), by repeat (first | (with_reducible first | exact HB.out | apply zzA | apply zzN | apply zzD) | exact HB.out)⟩
   rw [if_pos c3] at H
   have c3b0 : decide (x14_1 < (l0.length : Int)) = true := decide_eq_true c3
   clear c3
   by_cases c4 : 0 ≤ x14_1
   case neg =>
    rw [if_neg c4] at H
    exact absurd H (by simp)
   rw [if_pos c4] at H
   have c4b0 : decide (0 ≤ x14_1) = true := decide_eq_true c4
   clear c4
   by_cases c5 : x14_1 < (l0.length : Int)
   case neg =>
    rw [if_neg c5] at H
    exact absurd H (by simp)
   rw [if_pos c5] at H
   have c5b0 : decide (x14_1 < (l0.length : Int)) = true := decide_eq_true c5
   clear c5
   replace H := Option.bind_eq_some_iff.mp H
   obtain ⟨⟨t223, t224⟩, A60, H⟩ := H
   replace H : (if t224 = 0 then (thrumref02_MostP.l0 k1 (mx x4_1 t223) l0 (l0.length : Int) (wrap64 (x14_1 + 1))) else (some (0, t224))) = some (r1, r2) := H
   have A6 := ZM A60
   clear A60
   by_cases c7 : t224 = 0
   case neg =>
    rw [if_neg c7] at H
    have c7b0 : (t224 == 0) = false := beq_eq_false_iff_ne.mpr c7
    have c7b1 : (t224 != 0) = true := bne_iff_ne.mpr c7
    simp only [Option.some.injEq, Prod.mk.injEq] at H
    obtain ⟨rfl, rfl⟩ := H
    have p222 : 0 ≤ (x14_1 : Int) := of_decide_eq_true Z2
    have q222 : x14_1 < (l0.length : Int) := of_decide_eq_true Z2
    obtain ⟨ad222, e222, hx222_0⟩ := Kd.at_int HR0.out x14_1 p222 q222
    cases e222
    replace hx222_0 := (HB.out.cell (World.block_lt_of_cell? w _ hx222_0)).trans hx222_0
    replace p222 := eq_true p222
    replace q222 := eq_true q222
    go_wp2_with (first | ((with_reducible refine gate_callee (f := 112) rfl ?_); refine goesL_ (some 20) rfl rfl Try.func112 (by kernel_rfl) rfl #[.int .i64 (rd l0 x14_1)] rfl Z1 ?_; (with_reducible refine (thrumref01_Abs.calls (rd l0 x14_1) t223 t224 _ A6.out).mono ?_); rintro e w' ⟨rfl, ⟨nd, rfl⟩⟩; refine ⟨_, rfl, ?_⟩))
    go_ret2
    exact ⟨by first | rfl | (simp [errW_none, errW_some] <;> rfl) | (simp [*, errW_none, errW_some] <;> rfl), by repeat (first | (with_reducible first | exact HB.out | apply zzA | apply zzN | apply zzD) | exact HB.out)⟩
   rw [if_pos c7] at H
   have c7b0 : (t224 == 0) = true := beq_iff_eq.mpr c7
   have c7b1 : (t224 != 0) = false := bne_eq_false_iff_eq.mpr c7
   clear c7
   obtain ⟨ji8, hji8⟩ : ∃ j_ : Int, (mx x4_1 t223) = j_ := ⟨_, rfl⟩
   replace H : (thrumref02_MostP.l0 k1 ji8 l0 (l0.length : Int) (wrap64 (x14_1 + 1))) = some (r1, r2) := by first | (rw [hji8] at H; exact H) | (simp only [hji8] at H ⊢; exact H)
   (try rw [hji8] at A6)
   have hji8_ : (if x4_1 < t223 then t223 else x4_1) = ji8 := hji8
   have H' := ZM H
   clear H
   have p222 : 0 ≤ (x14_1 : Int) := of_decide_eq_true Z2
   have q222 : x14_1 < (l0.length : Int) := of_decide_eq_true Z2
   obtain ⟨ad222, e222, hx222_0⟩ := Kd.at_int HR0.out x14_1 p222 q222
   cases e222
   replace hx222_0 := (HB.out.cell (World.block_lt_of_cell? w _ hx222_0)).trans hx222_0
   replace p222 := eq_true p222
   replace q222 := eq_true q222
   go_wp2_with (first | ((with_reducible refine gate_callee (f := 112) rfl ?_); refine goesL_ (some 20) rfl rfl Try.func112 (by kernel_rfl) rfl #[.int .i64 (rd l0 x14_1)] rfl Z1 ?_; (with_reducible refine (thrumref01_Abs.calls (rd l0 x14_1) t223 t224 _ A6.out).mono ?_); rintro e w' ⟨rfl, ⟨nd, rfl⟩⟩; refine ⟨_, rfl, ?_⟩))
   go_roundg k1
   case measure => have := HK1.out; omega
   case rel => exact ⟨(ji8), (wrap64 (x14_1 + 1)), (by first | rfl | (simp; done) | (simp only [← hji8] <;> (first | rfl | simp)) | (simp [*]; done)), Z5, H', ⟨by have := HK1.out; omega⟩, ⟨by repeat (first | (with_reducible first | exact HB.out | apply zzA | apply zzN | apply zzD) | exact HB.out)⟩⟩
theorem thrumref02_MostP.loop (x0 : List Int) (hv : V64 x0) (hb : x0.length ≤ 4096) : ∀ (d i : Nat) (m : Int), d + i = x0.length →
    thrumref02_MostP.l0 (d + 1) m x0 (x0.length : Int) (i : Int) = some (mostGo ((x0.drop i).map absF) m) := by
  intro d
  induction d with
  | zero =>
    intro i m hd
    rw [thrumref02_MostP.l0, if_neg (by omega), List.drop_eq_nil_of_le (by omega)]; rfl
  | succ d ih =>
    intro i m hd
    have hi : i < x0.length := by omega
    rw [thrumref02_MostP.l0, if_pos (by omega), if_pos (by omega), if_pos (by omega), thrumref01_Abs.of _ (hv.rd _), List.drop_eq_getElem_cons hi, show rd x0 (i : Int) = x0[i] from rd_nat hi]
    simp only [Option.bind_some, List.map_cons, mostGo]
    by_cases c : (absF x0[i]).2 = 0
    · rw [if_pos c, if_pos (show (res (x0[i].natAbs : Int)).2 = 0 from c), wrap64_of (by unfold I64; omega), show (i : Int) + 1 = ((i + 1 : Nat) : Int) by omega]
      exact ih (i + 1) _ (by omega)
    · rw [if_neg c, if_neg (show ¬ (res (x0[i].natAbs : Int)).2 = 0 from c)]; rfl
def thrumref02_Most.f (l0 : List Int) : Option (Int × Int) := if V64 l0 then some (mostV l0) else none
theorem thrumref02_Most.of (l0 : List Int)  (h_ : V64 l0) : thrumref02_Most.f l0 = some (mostV l0) := if_pos h_
theorem thrumref02_Most.calls (A0 : Option Addr) (c0 : Nat) (l0 : List Int) (r1 : Int) (r2 : Int) (w : World) (hr0 : Kd.C (Kd.int .i64) w A0 l0.length l0) (hc0 : l0.length ≤ c0) (h : thrumref02_Most.f l0 = some (r1, r2)) :
    Calls Try.prog 91 #[.slice A0 l0.length c0] w fun e w' => e = .returned (.tuple #[.int .i64 r1, .int .i64 r2]) ∧ Below w.heap.size w w' := by
  unfold thrumref02_Most.f at h
  split at h
  case isFalse => cases h
  rename_i hv
  refine thrumref02_MostP.calls (l0.length + 1) A0 c0 l0 r1 r2 w hr0 hc0 (Eq.trans ?_ h)
  unfold thrumref02_MostP.f mostV checkE
  by_cases c : l0.length > 4096
  · rw [if_pos (by omega), if_pos c, if_neg (by omega)]
  · rw [if_neg (by omega), if_neg c, if_pos rfl]
    exact (thrumref02_MostP.loop l0 hv (by omega) l0.length 0 0 (by omega))


/-! ### thrumref08_At: function 113 -/
def thrumref08_At.l0 : Nat → Int → List Int → Int → Int → Option (Int)
 | 0, _, _, _, _ => none
 | k + 1, x5, x9, x10, x11 => if x11 < x10 then (if 0 ≤ x11 then (if x11 < (x9.length : Int) then (thrumref08_At.l0 k (Go.bits .xor .u64 (IntKind.u64.wrap ((Go.bits .xor .u64 x5 (IntKind.u64.wrap (rd x9 x11))) * 11400714819323198485)) ((IntKind.u64.wrap ((Go.bits .xor .u64 x5 (IntKind.u64.wrap (rd x9 x11))) * 11400714819323198485)) / 536870912)) x9 x10 (wrap64 (x11 + 1))) else (none)) else (none)) else (some (Go.bits .xor .u64 (IntKind.u64.wrap (x5 * 13787848793156543929)) ((IntKind.u64.wrap (x5 * 13787848793156543929)) / 4294967296)))
def thrumref08_At.f (k : Nat) (a0 : Int) (l1 : List Int) : Option (Int) := thrumref08_At.l0 k a0 l1 (l1.length : Int) 0
theorem thrumref08_At.mono_l : ∀ k, (∀ y0 y1 y2 y3, LeO (thrumref08_At.l0 k y0 y1 y2 y3) (thrumref08_At.l0 (k + 1) y0 y1 y2 y3))
 | 0 => fun _ _ _ _ r h => by simp [thrumref08_At.l0] at h
 | k + 1 => by
  have ih0 := thrumref08_At.mono_l k
  ·
   intro y0 y1 y2 y3
   unfold thrumref08_At.l0
   repeat' first
   | (with_reducible exact ih0 _ _ _ _)
   | (with_reducible exact LeO.refl _)
   | (with_reducible exact LeO.none _)
   | (with_reducible refine LeO.ite ?_ ?_)
   | (with_reducible refine LeO.bind ?_ (fun _ => ?_))
theorem thrumref08_At.mono : ∀ a0 a1 k, LeO (thrumref08_At.f k a0 a1) (thrumref08_At.f (k + 1) a0 a1) := by
 intro a0 a1 k
 have ih0 := thrumref08_At.mono_l k
 unfold thrumref08_At.f
 repeat' first
   | (with_reducible exact ih0 _ _ _ _)
   | (with_reducible exact LeO.refl _)
   | (with_reducible exact LeO.none _)
   | (with_reducible refine LeO.ite ?_ ?_)
   | (with_reducible refine LeO.bind ?_ (fun _ => ?_))
set_option maxHeartbeats 8000000 in
set_option maxRecDepth 100000 in
theorem thrumref08_At.calls (k : Nat) (a0 : Int) (A1 : Option Addr) (c1 : Nat) (l1 : List Int) (r : Int) (w : World) (hr1 : Kd.C (Kd.int .i64) w A1 l1.length l1) (hc1 : l1.length ≤ c1) (h : thrumref08_At.f k a0 l1 = some r) :
  Calls Try.prog 113 #[.int .u64 a0, .slice A1 l1.length c1] w fun e w' => e = .returned (.int .u64 r) ∧ Drawn0 w w' := by
 have HR1 := ZM hr1
 have HC1 := ZM hc1
 clear hr1 hc1
 have H : (thrumref08_At.l0 k a0 l1 (l1.length : Int) 0) = some r := h
 clear h
 have H' := ZM H
 clear H
 go_enter Try.func113, Try.ntmps113
 go_wp2
 go_loopg [5, 11] k (fun kq v5 v11 w' => ∃ (x5_1 : Int) (x11_1 : Int), v5 = .int .u64 x5_1 ∧ v11 = .int .i64 x11_1 ∧ Aside0 (thrumref08_At.l0 kq x5_1 l1 (l1.length : Int) x11_1 = some r) ∧ Aside0 (kq ≤ k) ∧ Drawn0 w w')
 case atStart => exact ⟨(a0), (0), Z5, Z5, H', ⟨Nat.le_refl _⟩, by repeat (first | exact ddR _ | apply ddS)⟩
 case round =>
  clear H'
  try clear c1
  obtain ⟨x5_1, x11_1, rfl, rfl, HA, HK1, ⟨m1, rfl⟩⟩ := hrel
  cases gk with
  | zero => exact absurd HA.out (by simp [thrumref08_At.l0])
  | succ k1 =>
   have H := HA.out
   clear HA
   simp only [thrumref08_At.l0] at H
   by_cases c3 : x11_1 < (l1.length : Int)
   case neg =>
    rw [if_neg c3] at H
    have c3b0 : decide (x11_1 < (l1.length : Int)) = false := decide_eq_false c3
    clear c3
    obtain rfl := Option.some.inj H
    go_wp2
    go_ret
    exact ⟨by first | rfl | (simp; done) | (simp [*]; done), by repeat (first | exact ddR _ | apply ddS)⟩
   rw [if_pos c3] at H
   have c3b0 : decide (x11_1 < (l1.length : Int)) = true := decide_eq_true c3
   clear c3
   by_cases c4 : 0 ≤ x11_1
   case neg =>
    rw [if_neg c4] at H
    exact absurd H (by simp)
   rw [if_pos c4] at H
   have c4b0 : decide (0 ≤ x11_1) = true := decide_eq_true c4
   clear c4
   by_cases c5 : x11_1 < (l1.length : Int)
   case neg =>
    rw [if_neg c5] at H
    exact absurd H (by simp)
   rw [if_pos c5] at H
   have c5b0 : decide (x11_1 < (l1.length : Int)) = true := decide_eq_true c5
   clear c5
   have H' := ZM H
   clear H
   have p225 : 0 ≤ (x11_1 : Int) := of_decide_eq_true Z2
   have q225 : x11_1 < (l1.length : Int) := of_decide_eq_true Z2
   obtain ⟨ad225, e225, hx225_0⟩ := Kd.at_int HR1.out x11_1 p225 q225
   cases e225
   replace p225 := eq_true p225
   replace q225 := eq_true q225
   go_wp2
   go_roundg k1
   case measure => have := HK1.out; omega
   case rel => exact ⟨(Go.bits .xor .u64 (IntKind.u64.wrap ((Go.bits .xor .u64 x5_1 (IntKind.u64.wrap (rd l1 x11_1))) * 11400714819323198485)) ((IntKind.u64.wrap ((Go.bits .xor .u64 x5_1 (IntKind.u64.wrap (rd l1 x11_1))) * 11400714819323198485)) / 536870912)), (wrap64 (x11_1 + 1)), Z5, Z5, H', ⟨by have := HK1.out; omega⟩, by repeat (first | exact ddR _ | apply ddS)⟩
/-! ### thrumref08_Below: function 92 -/
def thrumref08_Below.f (k : Nat) (a0 : Int) (a1 : Int) (l2 : List Int) : Option (Int × Int) := if a0 = 0 then (some (0, 1)) else ((thrumref08_At.f k a1 l2).bind fun t226 => (some (Int.tmod t226 a0, 0)))
theorem thrumref08_Below.mono : ∀ a0 a1 a2 k, LeO (thrumref08_Below.f k a0 a1 a2) (thrumref08_Below.f (k + 1) a0 a1 a2) := by
 intro a0 a1 a2 k
 unfold thrumref08_Below.f
 repeat' first
   | (with_reducible exact thrumref08_At.mono _ _ _)
   | (with_reducible exact LeO.refl _)
   | (with_reducible exact LeO.none _)
   | (with_reducible refine LeO.ite ?_ ?_)
   | (with_reducible refine LeO.bind ?_ (fun _ => ?_))
set_option maxHeartbeats 8000000 in
set_option maxRecDepth 100000 in
theorem thrumref08_Below.calls (k : Nat) (a0 : Int) (a1 : Int) (A2 : Option Addr) (c2 : Nat) (l2 : List Int) (r1 : Int) (r2 : Int) (w : World) (hr2 : Kd.C (Kd.int .i64) w A2 l2.length l2) (hc2 : l2.length ≤ c2) (h : thrumref08_Below.f k a0 a1 l2 = some (r1, r2)) :
  Calls Try.prog 92 #[.int .u64 a0, .int .u64 a1, .slice A2 l2.length c2] w fun e w' => e = .returned (.tuple #[.int .u64 r1, .int .i64 r2]) ∧ Drawn0 w w' := by
 have HR2 := ZM hr2
 have HC2 := ZM hc2
 clear hr2 hc2
 have H : (if a0 = 0 then (some (0, 1)) else ((thrumref08_At.f k a1 l2).bind fun t226 => (some (Int.tmod t226 a0, 0)))) = some (r1, r2) := h
 clear h
 by_cases c4 : a0 = 0
 ·
  rw [if_pos c4] at H
  have c4b0 : (a0 == 0) = true := beq_iff_eq.mpr c4
  have c4b1 : (a0 != 0) = false := bne_eq_false_iff_eq.mpr c4
  clear c4
  simp only [Option.some.injEq, Prod.mk.injEq] at H
  obtain ⟨rfl, rfl⟩ := H
  go_enter Try.func92, Try.ntmps92
  go_wp2
  go_ret2
  exact ⟨by first | rfl | (simp; done) | (simp [*]; done), by repeat (first | exact ddR _ | apply ddS)⟩
 rw [if_neg c4] at H
 have c4b0 : (a0 == 0) = false := beq_eq_false_iff_ne.mpr c4
 have c4b1 : (a0 != 0) = true := bne_iff_ne.mpr c4
 replace H := Option.bind_eq_some_iff.mp H
 obtain ⟨t226, A50, H⟩ := H
 replace H : (some (Int.tmod t226 a0, 0)) = some (r1, r2) := H
 have A5 := ZM A50
 clear A50
 simp only [Option.some.injEq, Prod.mk.injEq] at H
 obtain ⟨rfl, rfl⟩ := H
 go_enter Try.func92, Try.ntmps92
 go_wp2_with (first | ((with_reducible refine gate_callee (f := 113) rfl ?_); refine goesL_ (some 12) rfl rfl Try.func113 (by kernel_rfl) rfl #[.int .u64 a1, .slice A2 l2.length c2] rfl Z1 ?_; (with_reducible refine (thrumref08_At.calls k a1 _ _ l2 t226 _ ?side1 ?side2 A5.out).mono ?_); (case side1 => exact Z69); (case side2 => exact HC2.out); rintro e w' ⟨rfl, ⟨nd, rfl⟩⟩; refine ⟨_, rfl, ?_⟩))
 go_ret2
 exact ⟨by first | rfl | (simp; done) | (simp [*]; done), by repeat (first | exact ddR _ | apply ddS)⟩
/-! ### thrumref10_Press: function 54 -/
mutual
def thrumref10_Press.j0 : Nat → List Int → Int → Int → List Int → Bool → Option (Int × Int × List Int × List Int × Int × Int × List Int × List Bool × Int)
 | 0, _, _, _, _, _ => none
 | k + 1, x0, x1, x2, x3, x33 => if x33 = true then (some (0, 0, ([] : List Int), ([] : List Int), 0, 0, ([] : List Int), ([] : List Bool), 1)) else ((thrumref02_Most.f x0).bind fun bt230 => (if bt230.2 = 0 then (thrumref10_Press.l0 k x1 x2 x3 bt230.1 x0 (x0.length : Int) 0 2 (x0.length : Int) bt230.1 x1 ([] : List Int) ([] : List Bool)) else (some (0, 0, ([] : List Int), ([] : List Int), 0, 0, ([] : List Int), ([] : List Bool), bt230.2))))
def thrumref10_Press.l0 : Nat → Int → Int → List Int → Int → List Int → Int → Int → Int → Int → Int → Int → List Int → List Bool → Option (Int × Int × List Int × List Int × Int × Int × List Int × List Bool × Int)
 | 0, _, _, _, _, _, _, _, _, _, _, _, _, _ => none
 | k + 1, x1, x2, x3, x12, x49, x50, x51, x233000, x233001, x233004, x233005, x233006, x233007 => if x51 < x50 then (if 0 ≤ x51 then (if x51 < (x49.length : Int) then ((thrumref10_Level.f (rd x49 x51) x12 x1).bind fun bt234 => (if bt234.2.1 > 0 then (if ([] : List Int).length + x3.length < 17592186044416 then ((some (([] : List Int) ++ x3 : List Int)).bind fun y237 => (if y237.length < 17592186044416 then ((thrumref08_Below.f k (IntKind.u64.wrap (x12)) x2 (y237 ++ [x51])).bind fun bt243 => (if bt243.1 < bt234.2.1 then (if x233006.length < 17592186044416 then (if x233007.length < 140737488355328 then (thrumref10_Press.l0 k x1 x2 x3 x12 x49 x50 (wrap64 (x51 + 1)) x233000 x233001 x233004 x233005 (x233006 ++ [IntKind.u64.wrap (bt234.1 + 1)]) (x233007 ++ [decide ((rd x49 x51) < 0)])) else (none)) else (none)) else (if x233006.length < 17592186044416 then (if x233007.length < 140737488355328 then (thrumref10_Press.l0 k x1 x2 x3 x12 x49 x50 (wrap64 (x51 + 1)) x233000 x233001 x233004 x233005 (x233006 ++ [bt234.1]) (x233007 ++ [decide ((rd x49 x51) < 0)])) else (none)) else (none)))) else (none))) else (none)) else (if x233006.length < 17592186044416 then (if x233007.length < 140737488355328 then (thrumref10_Press.l0 k x1 x2 x3 x12 x49 x50 (wrap64 (x51 + 1)) x233000 x233001 x233004 x233005 (x233006 ++ [bt234.1]) (x233007 ++ [decide ((rd x49 x51) < 0)])) else (none)) else (none)))) else (none)) else (none)) else (some (x233000, x233001, ([] : List Int), ([] : List Int), x233004, x233005, x233006, x233007, 0))
end
def thrumref10_Press.f (k : Nat) (l0 : List Int) (a1 : Int) (a2 : Int) (l3 : List Int) : Option (Int × Int × List Int × List Int × Int × Int × List Int × List Bool × Int) := (thrumref10_Steps.f a1).bind fun bt228 => (if bt228.2 = 0 then (thrumref10_Press.j0 k l0 a1 a2 l3 ((l0.length : Int) == 0)) else (thrumref10_Press.j0 k l0 a1 a2 l3 true))
theorem thrumref10_Press.mono_l : ∀ k, (∀ y0 y1 y2 y3 y4, LeO (thrumref10_Press.j0 k y0 y1 y2 y3 y4) (thrumref10_Press.j0 (k + 1) y0 y1 y2 y3 y4)) ∧ (∀ y0 y1 y2 y3 y4 y5 y6 y7 y8 y9 y10 y11 y12, LeO (thrumref10_Press.l0 k y0 y1 y2 y3 y4 y5 y6 y7 y8 y9 y10 y11 y12) (thrumref10_Press.l0 (k + 1) y0 y1 y2 y3 y4 y5 y6 y7 y8 y9 y10 y11 y12))
 | 0 => ⟨fun _ _ _ _ _ r h => by simp [thrumref10_Press.j0] at h, fun _ _ _ _ _ _ _ _ _ _ _ _ _ r h => by simp [thrumref10_Press.l0] at h⟩
 | k + 1 => by
  obtain ⟨ih0, ih1⟩ := thrumref10_Press.mono_l k
  refine ⟨?_, ?_⟩
  ·
   intro y0 y1 y2 y3 y4
   unfold thrumref10_Press.j0
   repeat' first
   | (with_reducible exact ih0 _ _ _ _ _)
   | (with_reducible exact ih1 _ _ _ _ _ _ _ _ _ _ _ _ _)
   | (with_reducible exact thrumref08_Below.mono _ _ _ _)
   | (with_reducible exact LeO.refl _)
   | (with_reducible exact LeO.none _)
   | (with_reducible refine LeO.ite ?_ ?_)
   | (with_reducible refine LeO.bind ?_ (fun _ => ?_))
  ·
   intro y0 y1 y2 y3 y4 y5 y6 y7 y8 y9 y10 y11 y12
   unfold thrumref10_Press.l0
   repeat' first
   | (with_reducible exact ih0 _ _ _ _ _)
   | (with_reducible exact ih1 _ _ _ _ _ _ _ _ _ _ _ _ _)
   | (with_reducible exact thrumref08_Below.mono _ _ _ _)
   | (with_reducible exact LeO.refl _)
   | (with_reducible exact LeO.none _)
   | (with_reducible refine LeO.ite ?_ ?_)
   | (with_reducible refine LeO.bind ?_ (fun _ => ?_))
theorem thrumref10_Press.mono : ∀ a0 a1 a2 a3 k, LeO (thrumref10_Press.f k a0 a1 a2 a3) (thrumref10_Press.f (k + 1) a0 a1 a2 a3) := by
 intro a0 a1 a2 a3 k
 obtain ⟨ih0, ih1⟩ := thrumref10_Press.mono_l k
 unfold thrumref10_Press.f
 repeat' first
   | (with_reducible exact ih0 _ _ _ _ _)
   | (with_reducible exact ih1 _ _ _ _ _ _ _ _ _ _ _ _ _)
   | (with_reducible exact thrumref08_Below.mono _ _ _ _)
   | (with_reducible exact LeO.refl _)
   | (with_reducible exact LeO.none _)
   | (with_reducible refine LeO.ite ?_ ?_)
   | (with_reducible refine LeO.bind ?_ (fun _ => ?_))
set_option maxHeartbeats 8000000 in
set_option maxRecDepth 100000 in
theorem thrumref10_Press.calls (k : Nat) (A0 : Option Addr) (c0 : Nat) (l0 : List Int) (a1 : Int) (a2 : Int) (A3 : Option Addr) (c3 : Nat) (l3 : List Int) (r1 : Int) (r2 : Int) (r3 : List Int) (r4 : List Int) (r5 : Int) (r6 : Int) (r7 : List Int) (r8 : List Bool) (r9 : Int) (w : World) (hr0 : Kd.C (Kd.int .i64) w A0 l0.length l0) (hc0 : l0.length ≤ c0) (hr3 : Kd.C (Kd.int .i64) w A3 l3.length l3) (hc3 : l3.length ≤ c3) (h : thrumref10_Press.f k l0 a1 a2 l3 = some (r1, r2, r3, r4, r5, r6, r7, r8, r9)) :
  Calls Try.prog 54 #[.slice A0 l0.length c0, .int .i64 a1, .int .u64 a2, .slice A3 l3.length c3] w fun e w' => ∃ v2_ v3_ v6_ v7_ : Value, e = .returned (.tuple #[.agg #[.int .i64 r1, .int .i64 r2, v2_, v3_, .int .i64 r5, .int .i64 r6, v6_, v7_], .int .i64 r9]) ∧ Kd.R (Kd.int .i64) 3 w' w.heap.size (fun _ => True) v2_ r3 ∧ Kd.R (Kd.int .i64) 2 w' w.heap.size (fun _ => True) v3_ r4 ∧ Kd.R (Kd.int .u64) 64 w' w.heap.size (fun _ => True) v6_ r7 ∧ Kd.R Kd.bool 4 w' w.heap.size (fun _ => True) v7_ r8 ∧ Below w.heap.size w w' := by
 have hu30 := Try.underlying30
 have HR0 := ZM hr0
 have HC0 := ZM hc0
 clear hr0 hc0
 have HR3 := ZM hr3
 have HC3 := ZM hc3
 clear hr3 hc3
 have HB := ZM (Below.refl w.heap.size w)
 have H : ((thrumref10_Steps.f a1).bind fun bt228 => (if bt228.2 = 0 then (thrumref10_Press.j0 k l0 a1 a2 l3 ((l0.length : Int) == 0)) else (thrumref10_Press.j0 k l0 a1 a2 l3 true))) = some (r1, r2, r3, r4, r5, r6, r7, r8, r9) := h
 clear h
 replace H := Option.bind_eq_some_iff.mp H
 obtain ⟨⟨t228, t229⟩, A50, H⟩ := H
 replace H : (if t229 = 0 then (thrumref10_Press.j0 k l0 a1 a2 l3 ((l0.length : Int) == 0)) else (thrumref10_Press.j0 k l0 a1 a2 l3 true)) = some (r1, r2, r3, r4, r5, r6, r7, r8, r9) := H
 have A5 := ZM A50
 clear A50
 have HC6 := ZM H
 clear H
 go_enter Try.func54, Try.ntmps54
 go_upto_region 2 with (first | ((with_reducible refine gate_dst (N := 8) rfl ?_); (try (refine gate_guard (by rfl) ?_; dsimp only)); refine box_event ?hg (N := 8) ?hd (cs := #[.int .i64 0, .int .i64 0, .slice none 0 0, .slice none 0 0, .int .i64 0, .int .i64 0, .slice none 0 0, .slice none 0 0]) (t := 30) ?hr ?_; (case hd => rfl); (case hg => rfl); (case hr => exact Z12); intro gb227 hg w7 hbox hb; have BK227 := ZM (hbox); have GW227 := ZM ((by rw [hg]; exact (zzS Z3) : w.heap.size ≤ gb227)); have GE227 := ZM ((by rw [hg]; exact (zzS Z3) : w.heap.size ≤ gb227)); replace HB := ZM (zzT Z3 hb); clear hb hbox hg) | ((with_reducible refine gate_callee (f := 52) rfl ?_); refine goesL_ (some 24) rfl rfl Try.func52 (by kernel_rfl) rfl #[.int .i64 a1] rfl Z1 ?_; (with_reducible refine (thrumref10_Steps.calls a1 t228 t229 _ A5.out).mono ?_); rintro e w' ⟨rfl, ⟨nd, rfl⟩⟩; refine ⟨_, rfl, ?_⟩))
 (try simp only [Act.put, Zt])
 go_cut [33] (fun v33 wc => ∃ (kq : Nat) (x33_5 : Bool), v33 = .bool x33_5 ∧ Aside0 (thrumref10_Press.j0 kq l0 a1 a2 l3 x33_5 = some (r1, r2, r3, r4, r5, r6, r7, r8, r9)) ∧ Aside0 (kq ≤ k) ∧ Aside0 (wc.heap[gb227]? = some (.cells #[.int .i64 0, .int .i64 0, (.slice none 0 0), (.slice none 0 0), .int .i64 0, .int .i64 0, (.slice none 0 0), (.slice none 0 0)] 30 (0, 0))) ∧ Aside0 (Below w.heap.size w wc))
 case first =>
  have H := HC6.out
  clear HC6
  by_cases c8 : t229 = 0
  case neg =>
   rw [if_neg c8] at H
   have c8b0 : (t229 == 0) = false := beq_eq_false_iff_ne.mpr c8
   have c8b1 : (t229 != 0) = true := bne_iff_ne.mpr c8
   (first | rw [c8b0] | (simp only [i64_w, i32_w]; rw [c8b0]) | skip)
   have H' := ZM H
   clear H
   go_wp2
   go_meet
   case rel => exact ⟨_, (true), Z5, H', ⟨by first | omega | exact Nat.le_refl _⟩, ⟨by (with_reducible repeat (first | refine kkN ?_ _ | refine kkD ?_ | refine kkA ?_ _)); exact BK227.out⟩, ⟨by repeat (first | (with_reducible first | exact HB.out | apply zzA | apply zzN | apply zzD | refine below_set ?_ GE227.out) | exact HB.out)⟩⟩
  rw [if_pos c8] at H
  have c8b0 : (t229 == 0) = true := beq_iff_eq.mpr c8
  have c8b1 : (t229 != 0) = false := bne_eq_false_iff_eq.mpr c8
  clear c8
  (first | rw [c8b0] | (simp only [i64_w, i32_w]; rw [c8b0]) | skip)
  have H' := ZM H
  clear H
  go_wp2
  go_meet
  case rel => exact ⟨_, (((l0.length : Int) == 0)), Z5, H', ⟨by first | omega | exact Nat.le_refl _⟩, ⟨by (with_reducible repeat (first | refine kkN ?_ _ | refine kkD ?_ | refine kkA ?_ _)); exact BK227.out⟩, ⟨by repeat (first | (with_reducible first | exact HB.out | apply zzA | apply zzN | apply zzD | refine below_set ?_ GE227.out) | exact HB.out)⟩⟩
 clear HC6
 try clear c3
 obtain ⟨kq, x33_5, rfl, HA, HJ5, BK227, HB⟩ := hcut
 cases kq with
 | zero => exact absurd HA.out (by simp [thrumref10_Press.j0])
 | succ kj5 =>
  have H := HA.out
  clear HA
  simp only [thrumref10_Press.j0] at H
  by_cases c9 : x33_5 = true
  ·
   subst c9
   have H1 : (some (0, 0, ([] : List Int), ([] : List Int), 0, 0, ([] : List Int), ([] : List Bool), 1)) = some (r1, r2, r3, r4, r5, r6, r7, r8, r9) := by rw [if_pos rfl] at H; exact H
   clear H
   have H := H1
   clear H1
   simp only [Option.some.injEq, Prod.mk.injEq] at H
   obtain ⟨rfl, rfl, rfl, rfl, rfl, rfl, rfl, rfl, rfl⟩ := H
   obtain ⟨hcz10_0, hcz10_1, hcz10_2, hcz10_3, hcz10_4, hcz10_5, hcz10_6, hcz10_7, hfz10_0, hfz10_1, hfz10_2, hfz10_3, hfz10_4, hfz10_5, hfz10_6, hfz10_7⟩ := Y8f BK227
   go_wp2
   refine bodyPost_ret (results_ct rfl _ _ gb227 30 #[.int .i64 0, .int .i64 0, .slice none 0 0, .slice none 0 0, .int .i64 0, .int .i64 0, .slice none 0 0, .slice none 0 0] (0, 0) _ rfl Z15 Try.underlying30 rfl (by kernel_rfl)) rfl ?_
   exact ⟨_, _, _, _, by first | rfl | (simp [errW_none, errW_some] <;> rfl) | (simp [*, errW_none, errW_some] <;> rfl), by first | exact Kd.R_nil _ _ _ _ _ | exact Kd.N_nil _ _ _ _ _ | exact Kd.V_nil _ _ _ _ _ | exact Kd.Q_nil _ _ _ _ _ | exact Kd.S_nil _ _ _ _ _, by first | exact Kd.R_nil _ _ _ _ _ | exact Kd.N_nil _ _ _ _ _ | exact Kd.V_nil _ _ _ _ _ | exact Kd.Q_nil _ _ _ _ _ | exact Kd.S_nil _ _ _ _ _, by first | exact Kd.R_nil _ _ _ _ _ | exact Kd.N_nil _ _ _ _ _ | exact Kd.V_nil _ _ _ _ _ | exact Kd.Q_nil _ _ _ _ _ | exact Kd.S_nil _ _ _ _ _, by first | exact Kd.R_nil _ _ _ _ _ | exact Kd.N_nil _ _ _ _ _ | exact Kd.V_nil _ _ _ _ _ | exact Kd.Q_nil _ _ _ _ _ | exact Kd.S_nil _ _ _ _ _, by repeat (first | (with_reducible first | exact HB.out | apply zzA | apply zzN | apply zzD | refine below_set ?_ GE227.out) | exact HB.out)⟩
  replace c9 := Bool.eq_false_iff.mpr c9
  subst c9
  have H1 : ((thrumref02_Most.f l0).bind fun bt230 => (if bt230.2 = 0 then (thrumref10_Press.l0 kj5 a1 a2 l3 bt230.1 l0 (l0.length : Int) 0 2 (l0.length : Int) bt230.1 a1 ([] : List Int) ([] : List Bool)) else (some (0, 0, ([] : List Int), ([] : List Int), 0, 0, ([] : List Int), ([] : List Bool), bt230.2)))) = some (r1, r2, r3, r4, r5, r6, r7, r8, r9) := by rw [if_neg (show ¬ (false = true) by decide)] at H; exact H
  clear H
  have H := H1
  clear H1
  replace H := Option.bind_eq_some_iff.mp H
  obtain ⟨⟨t230, t231⟩, A110, H⟩ := H
  replace H : (if t231 = 0 then (thrumref10_Press.l0 kj5 a1 a2 l3 t230 l0 (l0.length : Int) 0 2 (l0.length : Int) t230 a1 ([] : List Int) ([] : List Bool)) else (some (0, 0, ([] : List Int), ([] : List Int), 0, 0, ([] : List Int), ([] : List Bool), t231))) = some (r1, r2, r3, r4, r5, r6, r7, r8, r9) := H
  have A11 := ZM A110
  clear A110
  by_cases c12 : t231 = 0
  case neg =>
   rw [if_neg c12] at H
   have c12b0 : (t231 == 0) = false := beq_eq_false_iff_ne.mpr c12
   have c12b1 : (t231 != 0) = true := bne_iff_ne.mpr c12
   simp only [Option.some.injEq, Prod.mk.injEq] at H
   obtain ⟨rfl, rfl, rfl, rfl, rfl, rfl, rfl, rfl, rfl⟩ := H
   go_wp2_with (first | ((with_reducible refine gate_callee (f := 91) rfl ?_); refine goesL_ (some 37) rfl rfl Try.func91 (by kernel_rfl) rfl #[.slice A0 l0.length c0] rfl Z1 ?_; (with_reducible refine (thrumref02_Most.calls _ _ l0 t230 t231 _ ?side1 ?side2 A11.out).mono ?_); (case side1 => exact Z17); (case side2 => exact HC0.out); rintro e w67 ⟨rfl, hb⟩; refine ⟨_, rfl, ?_⟩; replace BK227 := ZM (blk_below (g := gb227) (o := .cells #[.int .i64 0, .int .i64 0, .slice none 0 0, .slice none 0 0, .int .i64 0, .int .i64 0, .slice none 0 0, .slice none 0 0] 30 (0, 0)) (Zk BK227) hb); replace HB := ZM (zzT Z38 hb); (try clear hb); (try clear hb2); (try clear hk); (try clear hi); obtain ⟨hcz68_0, hcz68_1, hcz68_2, hcz68_3, hcz68_4, hcz68_5, hcz68_6, hcz68_7, hfz68_0, hfz68_1, hfz68_2, hfz68_3, hfz68_4, hfz68_5, hfz68_6, hfz68_7⟩ := Y8f BK227))
   refine bodyPost_ret (results_ct rfl _ _ gb227 30 #[.int .i64 0, .int .i64 0, .slice none 0 0, .slice none 0 0, .int .i64 0, .int .i64 0, .slice none 0 0, .slice none 0 0] (0, 0) _ rfl Z15 Try.underlying30 rfl (by kernel_rfl)) rfl ?_
   exact ⟨_, _, _, _, by first | rfl | (simp [errW_none, errW_some] <;> rfl) | (simp [*, errW_none, errW_some] <;> rfl), by first | exact Kd.R_nil _ _ _ _ _ | exact Kd.N_nil _ _ _ _ _ | exact Kd.V_nil _ _ _ _ _ | exact Kd.Q_nil _ _ _ _ _ | exact Kd.S_nil _ _ _ _ _, by first | exact Kd.R_nil _ _ _ _ _ | exact Kd.N_nil _ _ _ _ _ | exact Kd.V_nil _ _ _ _ _ | exact Kd.Q_nil _ _ _ _ _ | exact Kd.S_nil _ _ _ _ _, by first | exact Kd.R_nil _ _ _ _ _ | exact Kd.N_nil _ _ _ _ _ | exact Kd.V_nil _ _ _ _ _ | exact Kd.Q_nil _ _ _ _ _ | exact Kd.S_nil _ _ _ _ _, by first | exact Kd.R_nil _ _ _ _ _ | exact Kd.N_nil _ _ _ _ _ | exact Kd.V_nil _ _ _ _ _ | exact Kd.Q_nil _ _ _ _ _ | exact Kd.S_nil _ _ _ _ _, by repeat (first | (with_reducible first | exact HB.out | apply zzA | apply zzN | apply zzD | refine below_set ?_ GE227.out) | exact HB.out)⟩
  rw [if_pos c12] at H
  have c12b0 : (t231 == 0) = true := beq_iff_eq.mpr c12
  have c12b1 : (t231 != 0) = false := bne_eq_false_iff_eq.mpr c12
  clear c12
  have H' := ZM H
  clear H
  go_wp2_with (first | ((with_reducible refine gate_callee (f := 91) rfl ?_); refine goesL_ (some 37) rfl rfl Try.func91 (by kernel_rfl) rfl #[.slice A0 l0.length c0] rfl Z1 ?_; (with_reducible refine (thrumref02_Most.calls _ _ l0 t230 t231 _ ?side1 ?side2 A11.out).mono ?_); (case side1 => exact Z17); (case side2 => exact HC0.out); rintro e w13 ⟨rfl, hb⟩; refine ⟨_, rfl, ?_⟩; replace BK227 := ZM (blk_below (g := gb227) (o := .cells #[.int .i64 0, .int .i64 0, .slice none 0 0, .slice none 0 0, .int .i64 0, .int .i64 0, .slice none 0 0, .slice none 0 0] 30 (0, 0)) (Zk BK227) hb); replace HB := ZM (zzT Z38 hb); (try clear hb); (try clear hb2); (try clear hk); (try clear hi)) | ((with_reducible refine gate_dst (N := 14) rfl ?_); (try (refine gate_guard (by rfl) ?_; dsimp only)); refine box_event ?hg (N := 14) ?hd (cs := #[.int .i64 0, .int .i64 0, .slice none 0 0, .slice none 0 0, .int .i64 0, .int .i64 0, .slice none 0 0, .slice none 0 0]) (t := 30) ?hr ?_; (case hd => rfl); (case hg => rfl); (case hr => exact Z12); intro gb232 hg w14 hbox hb; have n0_ := ZM (blk_below (g := gb227) (o := .cells #[.int .i64 0, .int .i64 0, .slice none 0 0, .slice none 0 0, .int .i64 0, .int .i64 0, .slice none 0 0, .slice none 0 0] 30 (0, 0)) (Zk BK227) hb); have n1_ := ZM (zzT Z38 hb); have n2_ := ZM (hbox); have n3_ := ZM ((by rw [hg]; exact (zzS Z38) : w.heap.size ≤ gb232)); have n4_ := ZM ((by rw [hg]; exact (zzS Z38) : w.heap.size ≤ gb232)); have n5_ := ZM ((by rw [hg]; exact Nat.ne_of_lt (blk_lt (g := gb227) (o := .cells #[.int .i64 0, .int .i64 0, .slice none 0 0, .slice none 0 0, .int .i64 0, .int .i64 0, .slice none 0 0, .slice none 0 0] 30 (0, 0)) (Zk BK227)) : gb227 ≠ gb232)); have n6_ := ZM ((by rw [hg]; exact Nat.ne_of_gt (blk_lt (g := gb227) (o := .cells #[.int .i64 0, .int .i64 0, .slice none 0 0, .slice none 0 0, .int .i64 0, .int .i64 0, .slice none 0 0, .slice none 0 0] 30 (0, 0)) (Zk BK227)) : gb232 ≠ gb227)); clear BK227; clear HB; have BK227 := n0_; have HB := n1_; have BK232 := n2_; have GW232 := n3_; have GE232 := n4_; have NB227_232 := n5_; have NB232_227 := n6_; clear n0_ n1_ n2_ n3_ n4_ n5_ n6_; clear hb hbox hg; have hnb15 := NB232_227.out; have hnc15 := NB227_232.out; obtain ⟨hcz16_0, hcz16_1, hcz16_2, hcz16_3, hcz16_4, hcz16_5, hcz16_6, hcz16_7, hfz16_0, hfz16_1, hfz16_2, hfz16_3, hfz16_4, hfz16_5, hfz16_6, hfz16_7⟩ := Y8f BK232))
  go_loopg [51] kj5 (fun kq v51 w' => ∃ (x51_2 : Int) (x233006_2 : List Int) (x233007_2 : List Bool) (u233006 : Value) (u233007 : Value), v51 = .int .i64 x51_2 ∧ Aside0 (thrumref10_Press.l0 kq a1 a2 l3 t230 l0 (l0.length : Int) x51_2 2 (l0.length : Int) t230 a1 x233006_2 x233007_2 = some (r1, r2, r3, r4, r5, r6, r7, r8, r9)) ∧ Aside0 (kq ≤ kj5) ∧ Aside0 (Kd.R (Kd.int .u64) 64 w' w.heap.size (fun _ => True) u233006 x233006_2) ∧ Aside0 (Kd.R Kd.bool 4 w' w.heap.size (fun _ => True) u233007 x233007_2) ∧ Aside0 (w'.heap[gb227]? = some (.cells #[.int .i64 0, .int .i64 0, (.slice none 0 0), (.slice none 0 0), .int .i64 0, .int .i64 0, (.slice none 0 0), (.slice none 0 0)] 30 (0, 0))) ∧ Aside0 (w'.heap[gb232]? = some (.cells #[.int .i64 2, .int .i64 (l0.length : Int), (.slice none 0 0), (.slice none 0 0), .int .i64 t230, .int .i64 a1, u233006, u233007] 30 (0, 0))) ∧ Aside0 (Below w.heap.size w w'))
  case atStart => exact ⟨(0), (([] : List Int)), (([] : List Bool)), (.slice none 0 0), (.slice none 0 0), Z5, H', ⟨Nat.le_refl _⟩, ⟨by first | exact Kd.R_nil _ _ _ _ _ | exact Kd.N_nil _ _ _ _ _ | exact Kd.V_nil _ _ _ _ _ | exact Kd.Q_nil _ _ _ _ _ | exact Kd.S_nil _ _ _ _ _⟩, ⟨by first | exact Kd.R_nil _ _ _ _ _ | exact Kd.N_nil _ _ _ _ _ | exact Kd.V_nil _ _ _ _ _ | exact Kd.Q_nil _ _ _ _ _ | exact Kd.S_nil _ _ _ _ _⟩, ⟨by (with_reducible repeat (first | refine kkN ?_ _ | refine kkD ?_ | refine kkA ?_ _)); refine blk_far ?_ NB227_232.out _; (with_reducible repeat (first | refine kkN ?_ _ | refine kkD ?_ | refine kkA ?_ _)); refine blk_far ?_ NB227_232.out _; (with_reducible repeat (first | refine kkN ?_ _ | refine kkD ?_ | refine kkA ?_ _)); refine blk_far ?_ NB227_232.out _; (with_reducible repeat (first | refine kkN ?_ _ | refine kkD ?_ | refine kkA ?_ _)); refine blk_far ?_ NB227_232.out _; (with_reducible repeat (first | refine kkN ?_ _ | refine kkD ?_ | refine kkA ?_ _)); refine blk_far ?_ NB227_232.out _; (with_reducible repeat (first | refine kkN ?_ _ | refine kkD ?_ | refine kkA ?_ _)); refine blk_far ?_ NB227_232.out _; (with_reducible repeat (first | refine kkN ?_ _ | refine kkD ?_ | refine kkA ?_ _)); refine blk_far ?_ NB227_232.out _; (with_reducible repeat (first | refine kkN ?_ _ | refine kkD ?_ | refine kkA ?_ _)); refine blk_far ?_ NB227_232.out _; (with_reducible repeat (first | refine kkN ?_ _ | refine kkD ?_ | refine kkA ?_ _)); exact BK227.out⟩, ⟨by (with_reducible repeat (first | refine kkN ?_ _ | refine kkD ?_ | refine kkA ?_ _)); refine blk_put (cs := #[.int .i64 2, .int .i64 (l0.length : Int), .slice none 0 0, .slice none 0 0, .int .i64 t230, .int .i64 a1, .slice none 0 0, .slice none 0 0]) ?_ 7 _ rfl; (with_reducible repeat (first | refine kkN ?_ _ | refine kkD ?_ | refine kkA ?_ _)); refine blk_put (cs := #[.int .i64 2, .int .i64 (l0.length : Int), .slice none 0 0, .slice none 0 0, .int .i64 t230, .int .i64 a1, .slice none 0 0, .slice none 0 0]) ?_ 6 _ rfl; (with_reducible repeat (first | refine kkN ?_ _ | refine kkD ?_ | refine kkA ?_ _)); refine blk_put (cs := #[.int .i64 2, .int .i64 (l0.length : Int), .slice none 0 0, .slice none 0 0, .int .i64 t230, .int .i64 0, .slice none 0 0, .slice none 0 0]) ?_ 5 _ rfl; (with_reducible repeat (first | refine kkN ?_ _ | refine kkD ?_ | refine kkA ?_ _)); refine blk_put (cs := #[.int .i64 2, .int .i64 (l0.length : Int), .slice none 0 0, .slice none 0 0, .int .i64 0, .int .i64 0, .slice none 0 0, .slice none 0 0]) ?_ 4 _ rfl; (with_reducible repeat (first | refine kkN ?_ _ | refine kkD ?_ | refine kkA ?_ _)); refine blk_put (cs := #[.int .i64 2, .int .i64 (l0.length : Int), .slice none 0 0, .slice none 0 0, .int .i64 0, .int .i64 0, .slice none 0 0, .slice none 0 0]) ?_ 3 _ rfl; (with_reducible repeat (first | refine kkN ?_ _ | refine kkD ?_ | refine kkA ?_ _)); refine blk_put (cs := #[.int .i64 2, .int .i64 (l0.length : Int), .slice none 0 0, .slice none 0 0, .int .i64 0, .int .i64 0, .slice none 0 0, .slice none 0 0]) ?_ 2 _ rfl; (with_reducible repeat (first | refine kkN ?_ _ | refine kkD ?_ | refine kkA ?_ _)); refine blk_put (cs := #[.int .i64 2, .int .i64 0, .slice none 0 0, .slice none 0 0, .int .i64 0, .int .i64 0, .slice none 0 0, .slice none 0 0]) ?_ 1 _ rfl; (with_reducible repeat (first | refine kkN ?_ _ | refine kkD ?_ | refine kkA ?_ _)); refine blk_put (cs := #[.int .i64 0, .int .i64 0, .slice none 0 0, .slice none 0 0, .int .i64 0, .int .i64 0, .slice none 0 0, .slice none 0 0]) ?_ 0 _ rfl; (with_reducible repeat (first | refine kkN ?_ _ | refine kkD ?_ | refine kkA ?_ _)); exact BK232.out⟩, ⟨by repeat (first | (with_reducible first | exact HB.out | apply zzA | apply zzN | apply zzD | refine below_set ?_ GE227.out | refine below_set ?_ GE232.out) | exact HB.out)⟩⟩
  case round =>
   clear H'
   try clear c3
   try clear c9
   try clear c12
   try clear c12b0
   try clear c12b1
   try clear hcz16_0
   try clear hcz16_1
   try clear hcz16_2
   try clear hcz16_3
   try clear hcz16_4
   try clear hcz16_5
   try clear hcz16_6
   try clear hcz16_7
   try clear hfz16_0
   try clear hfz16_1
   try clear hfz16_2
   try clear hfz16_3
   try clear hfz16_4
   try clear hfz16_5
   try clear hfz16_6
   try clear hfz16_7
   obtain ⟨x51_2, x233006_2, x233007_2, u233006, u233007, rfl, HA, HK2, HO_233006, HO_233007, BK227, BK232, HB⟩ := hrel
   cases gk with
   | zero => exact absurd HA.out (by simp [thrumref10_Press.l0])
   | succ k2 =>
    have H := HA.out
    clear HA
    simp only [thrumref10_Press.l0] at H
    by_cases c17 : x51_2 < (l0.length : Int)
    case neg =>
     rw [if_neg c17] at H
     have c17b0 : decide (x51_2 < (l0.length : Int)) = false := decide_eq_false c17
     clear c17
     simp only [Option.some.injEq, Prod.mk.injEq] at H
     obtain ⟨rfl, rfl, rfl, rfl, rfl, rfl, rfl, rfl, rfl⟩ := H
     have hnb62 := NB232_227.out
     have hnc62 := NB227_232.out
     obtain ⟨hcz63_0, hcz63_1, hcz63_2, hcz63_3, hcz63_4, hcz63_5, hcz63_6, hcz63_7, hfz63_0, hfz63_1, hfz63_2, hfz63_3, hfz63_4, hfz63_5, hfz63_6, hfz63_7⟩ := Y8f BK232
     obtain ⟨hcz64_0, hcz64_1, hcz64_2, hcz64_3, hcz64_4, hcz64_5, hcz64_6, hcz64_7, hfz64_0, hfz64_1, hfz64_2, hfz64_3, hfz64_4, hfz64_5, hfz64_6, hfz64_7⟩ := Y8f BK227
     obtain ⟨Ao65, co65, eo65⟩ := Kd.R_slice HO_233006.out
     subst eo65
     obtain ⟨Ao66, co66, eo66⟩ := Kd.R_slice HO_233007.out
     subst eo66
     go_wp2
     refine bodyPost_ret (results_ct rfl _ _ gb227 30 #[.int .i64 2, .int .i64 (l0.length : Int), .slice none 0 0, .slice none 0 0, .int .i64 t230, .int .i64 a1, .slice Ao65 x233006_2.length co65, .slice Ao66 x233007_2.length co66] (0, 0) _ rfl (by (with_reducible repeat (first | refine kkN ?_ _ | refine kkD ?_ | refine kkA ?_ _)); refine blk_put (cs := #[.int .i64 2, .int .i64 (l0.length : Int), .slice none 0 0, .slice none 0 0, .int .i64 t230, .int .i64 a1, .slice Ao65 x233006_2.length co65, .slice none 0 0]) ?_ 7 _ rfl; (with_reducible repeat (first | refine kkN ?_ _ | refine kkD ?_ | refine kkA ?_ _)); refine blk_put (cs := #[.int .i64 2, .int .i64 (l0.length : Int), .slice none 0 0, .slice none 0 0, .int .i64 t230, .int .i64 a1, .slice none 0 0, .slice none 0 0]) ?_ 6 _ rfl; (with_reducible repeat (first | refine kkN ?_ _ | refine kkD ?_ | refine kkA ?_ _)); refine blk_put (cs := #[.int .i64 2, .int .i64 (l0.length : Int), .slice none 0 0, .slice none 0 0, .int .i64 t230, .int .i64 0, .slice none 0 0, .slice none 0 0]) ?_ 5 _ rfl; (with_reducible repeat (first | refine kkN ?_ _ | refine kkD ?_ | refine kkA ?_ _)); refine blk_put (cs := #[.int .i64 2, .int .i64 (l0.length : Int), .slice none 0 0, .slice none 0 0, .int .i64 0, .int .i64 0, .slice none 0 0, .slice none 0 0]) ?_ 4 _ rfl; (with_reducible repeat (first | refine kkN ?_ _ | refine kkD ?_ | refine kkA ?_ _)); refine blk_put (cs := #[.int .i64 2, .int .i64 (l0.length : Int), .slice none 0 0, .slice none 0 0, .int .i64 0, .int .i64 0, .slice none 0 0, .slice none 0 0]) ?_ 3 _ rfl; (with_reducible repeat (first | refine kkN ?_ _ | refine kkD ?_ | refine kkA ?_ _)); refine blk_put (cs := #[.int .i64 2, .int .i64 (l0.length : Int), .slice none 0 0, .slice none 0 0, .int .i64 0, .int .i64 0, .slice none 0 0, .slice none 0 0]) ?_ 2 _ rfl; (with_reducible repeat (first | refine kkN ?_ _ | refine kkD ?_ | refine kkA ?_ _)); refine blk_put (cs := #[.int .i64 2, .int .i64 0, .slice none 0 0, .slice none 0 0, .int .i64 0, .int .i64 0, .slice none 0 0, .slice none 0 0]) ?_ 1 _ rfl; (with_reducible repeat (first | refine kkN ?_ _ | refine kkD ?_ | refine kkA ?_ _)); refine blk_put (cs := #[.int .i64 0, .int .i64 0, .slice none 0 0, .slice none 0 0, .int .i64 0, .int .i64 0, .slice none 0 0, .slice none 0 0]) ?_ 0 _ rfl; (with_reducible repeat (first | refine kkN ?_ _ | refine kkD ?_ | refine kkA ?_ _)); exact BK227.out) Try.underlying30 rfl (by kernel_rfl)) rfl ?_
     exact ⟨_, _, _, _, by first | rfl | (simp [errW_none, errW_some] <;> rfl) | (simp [*, errW_none, errW_some] <;> rfl), by first | exact Kd.R_nil _ _ _ _ _ | exact Kd.N_nil _ _ _ _ _ | exact Kd.V_nil _ _ _ _ _ | exact Kd.Q_nil _ _ _ _ _ | exact Kd.S_nil _ _ _ _ _, by first | exact Kd.R_nil _ _ _ _ _ | exact Kd.N_nil _ _ _ _ _ | exact Kd.V_nil _ _ _ _ _ | exact Kd.Q_nil _ _ _ _ _ | exact Kd.S_nil _ _ _ _ _, by (with_reducible repeat (first | apply rrA | apply rrN | apply rrD)); exact Kd.R_mono (Kd.R_far (p := ⟨gb227, 7, none⟩) (Kd.R_far (p := ⟨gb227, 6, none⟩) (Kd.R_far (p := ⟨gb227, 5, none⟩) (Kd.R_far (p := ⟨gb227, 4, none⟩) (Kd.R_far (p := ⟨gb227, 3, none⟩) (Kd.R_far (p := ⟨gb227, 2, none⟩) (Kd.R_far (p := ⟨gb227, 1, none⟩) (Kd.R_far (p := ⟨gb227, 0, none⟩) (Kd.R_types HO_233006.out BK227.out (by decide)) (fun _ hk => hk.2) (.int .i64 2)) (fun _ hk => hk.2) (.int .i64 (l0.length : Int))) (fun _ hk => hk.2) (.slice none 0 0)) (fun _ hk => hk.2) (.slice none 0 0)) (fun _ hk => hk.2) (.int .i64 t230)) (fun _ hk => hk.2) (.int .i64 a1)) (fun _ hk => hk.2) (.slice Ao65 x233006_2.length co65)) (fun _ hk => hk.2) (.slice Ao66 x233007_2.length co66)) (fun _ hk => trivial), by (with_reducible repeat (first | apply rrA | apply rrN | apply rrD)); exact Kd.R_mono (Kd.R_far (p := ⟨gb227, 7, none⟩) (Kd.R_far (p := ⟨gb227, 6, none⟩) (Kd.R_far (p := ⟨gb227, 5, none⟩) (Kd.R_far (p := ⟨gb227, 4, none⟩) (Kd.R_far (p := ⟨gb227, 3, none⟩) (Kd.R_far (p := ⟨gb227, 2, none⟩) (Kd.R_far (p := ⟨gb227, 1, none⟩) (Kd.R_far (p := ⟨gb227, 0, none⟩) (Kd.R_types HO_233007.out BK227.out (by decide)) (fun _ hk => hk.2) (.int .i64 2)) (fun _ hk => hk.2) (.int .i64 (l0.length : Int))) (fun _ hk => hk.2) (.slice none 0 0)) (fun _ hk => hk.2) (.slice none 0 0)) (fun _ hk => hk.2) (.int .i64 t230)) (fun _ hk => hk.2) (.int .i64 a1)) (fun _ hk => hk.2) (.slice Ao65 x233006_2.length co65)) (fun _ hk => hk.2) (.slice Ao66 x233007_2.length co66)) (fun _ hk => trivial), by repeat (first | (with_reducible first | exact HB.out | apply zzA | apply zzN | apply zzD | refine below_set ?_ GE227.out | refine below_set ?_ GE232.out) | exact HB.out)⟩
    rw [if_pos c17] at H
    have c17b0 : decide (x51_2 < (l0.length : Int)) = true := decide_eq_true c17
    clear c17
    by_cases c18 : 0 ≤ x51_2
    case neg =>
     rw [if_neg c18] at H
     exact absurd H (by simp)
    rw [if_pos c18] at H
    have c18b0 : decide (0 ≤ x51_2) = true := decide_eq_true c18
    clear c18
    by_cases c19 : x51_2 < (l0.length : Int)
    case neg =>
     rw [if_neg c19] at H
     exact absurd H (by simp)
    rw [if_pos c19] at H
    have c19b0 : decide (x51_2 < (l0.length : Int)) = true := decide_eq_true c19
    clear c19
    replace H := Option.bind_eq_some_iff.mp H
    obtain ⟨⟨t234, t235, t236⟩, A200, H⟩ := H
    replace H : (if t235 > 0 then (if ([] : List Int).length + l3.length < 17592186044416 then ((some (([] : List Int) ++ l3 : List Int)).bind fun y237 => (if y237.length < 17592186044416 then ((thrumref08_Below.f k2 (IntKind.u64.wrap (t230)) a2 (y237 ++ [x51_2])).bind fun bt243 => (if bt243.1 < t235 then (if x233006_2.length < 17592186044416 then (if x233007_2.length < 140737488355328 then (thrumref10_Press.l0 k2 a1 a2 l3 t230 l0 (l0.length : Int) (wrap64 (x51_2 + 1)) 2 (l0.length : Int) t230 a1 (x233006_2 ++ [IntKind.u64.wrap (t234 + 1)]) (x233007_2 ++ [decide ((rd l0 x51_2) < 0)])) else (none)) else (none)) else (if x233006_2.length < 17592186044416 then (if x233007_2.length < 140737488355328 then (thrumref10_Press.l0 k2 a1 a2 l3 t230 l0 (l0.length : Int) (wrap64 (x51_2 + 1)) 2 (l0.length : Int) t230 a1 (x233006_2 ++ [t234]) (x233007_2 ++ [decide ((rd l0 x51_2) < 0)])) else (none)) else (none)))) else (none))) else (none)) else (if x233006_2.length < 17592186044416 then (if x233007_2.length < 140737488355328 then (thrumref10_Press.l0 k2 a1 a2 l3 t230 l0 (l0.length : Int) (wrap64 (x51_2 + 1)) 2 (l0.length : Int) t230 a1 (x233006_2 ++ [t234]) (x233007_2 ++ [decide ((rd l0 x51_2) < 0)])) else (none)) else (none))) = some (r1, r2, r3, r4, r5, r6, r7, r8, r9) := H
    have A20 := ZM A200
    clear A200
    by_cases c21 : t235 > 0
    case neg =>
     rw [if_neg c21] at H
     have c21b0 : decide (0 < t235) = false := decide_eq_false c21
     clear c21
     by_cases c52 : x233006_2.length < 17592186044416
     case neg =>
      rw [if_neg c52] at H
      exact absurd H (by simp)
     rw [if_pos c52] at H
     have LMc52 := ZM c52
     clear c52
     obtain ⟨y257, hy257⟩ : ∃ y_ : List Int, y_ = (x233006_2 ++ [t234]) := ⟨_, rfl⟩
     replace H : (if x233007_2.length < 140737488355328 then (thrumref10_Press.l0 k2 a1 a2 l3 t230 l0 (l0.length : Int) (wrap64 (x51_2 + 1)) 2 (l0.length : Int) t230 a1 y257 (x233007_2 ++ [decide ((rd l0 x51_2) < 0)])) else (none)) = some (r1, r2, r3, r4, r5, r6, r7, r8, r9) := by first | (rw [hy257]; with_reducible exact H) | (have H2_ := (Option.bind_some _ _).symm.trans H; rw [hy257]; with_reducible exact H2_) | (have H2_ := (Option.bind_some _ _).symm.trans H; with_reducible exact H2_) | with_reducible exact H | (rw [hy257]; exact H) | exact H
     have Ny257 := ZM hy257
     clear hy257
     by_cases c53 : x233007_2.length < 140737488355328
     case neg =>
      rw [if_neg c53] at H
      exact absurd H (by simp)
     rw [if_pos c53] at H
     have LMc53 := ZM c53
     clear c53
     obtain ⟨y260, hy260⟩ : ∃ y_ : List Bool, y_ = (x233007_2 ++ [decide ((rd l0 x51_2) < 0)]) := ⟨_, rfl⟩
     replace H : (thrumref10_Press.l0 k2 a1 a2 l3 t230 l0 (l0.length : Int) (wrap64 (x51_2 + 1)) 2 (l0.length : Int) t230 a1 y257 y260) = some (r1, r2, r3, r4, r5, r6, r7, r8, r9) := by first | (rw [hy260]; with_reducible exact H) | (have H2_ := (Option.bind_some _ _).symm.trans H; rw [hy260]; with_reducible exact H2_) | (have H2_ := (Option.bind_some _ _).symm.trans H; with_reducible exact H2_) | with_reducible exact H | (rw [hy260]; exact H) | exact H
     have Ny260 := ZM hy260
     clear hy260
     have H' := ZM H
     clear H
     have p233 : 0 ≤ (x51_2 : Int) := of_decide_eq_true Z2
     have q233 : x51_2 < (l0.length : Int) := of_decide_eq_true Z2
     obtain ⟨ad233, e233, hx233_0⟩ := Kd.at_int HR0.out x51_2 p233 q233
     cases e233
     replace hx233_0 := (HB.out.cell (World.block_lt_of_cell? w _ hx233_0)).trans hx233_0
     replace p233 := eq_true p233
     replace q233 := eq_true q233
     go_wp2_with (first | ((with_reducible refine gate_callee (f := 48) rfl ?_); refine goesL_ (some 60) rfl rfl Try.func48 (by kernel_rfl) rfl #[.int .i64 (rd l0 x51_2), .int .i64 t230, .int .i64 a1] rfl Z1 ?_; (with_reducible refine (thrumref10_Level.calls (rd l0 x51_2) t230 a1 t234 t235 t236 _ A20.out).mono ?_); rintro e w' ⟨rfl, ⟨nd, rfl⟩⟩; refine ⟨_, rfl, ?_⟩; (try (rw [drewN_self wr]; generalize hq_ : World.drewN wr _ = wr; have n0_ : Aside0 (Kd.R (Kd.int .u64) 64 wr w.heap.size (fun _ => True) u233006 x233006_2) := ⟨by rw [← hq_]; exact (Zr HO_233006)⟩; have n1_ : Aside0 (Kd.R Kd.bool 4 wr w.heap.size (fun _ => True) u233007 x233007_2) := ⟨by rw [← hq_]; exact (Zr HO_233007)⟩; have n2_ : Aside0 (wr.heap[gb227]? = some (.cells #[.int .i64 0, .int .i64 0, .slice none 0 0, .slice none 0 0, .int .i64 0, .int .i64 0, .slice none 0 0, .slice none 0 0] 30 (0, 0))) := ⟨by rw [← hq_]; exact (Zk BK227)⟩; have n3_ : Aside0 (wr.heap[gb232]? = some (.cells #[.int .i64 2, .int .i64 (l0.length : Int), .slice none 0 0, .slice none 0 0, .int .i64 t230, .int .i64 a1, u233006, u233007] 30 (0, 0))) := ⟨by rw [← hq_]; exact (Zk BK232)⟩; have n4_ : Aside0 (Below w.heap.size w wr) := ⟨by rw [← hq_]; exact Z7⟩; clear HO_233006 HO_233007 BK227 BK232 HB hq_; have HO_233006 := n0_; have HO_233007 := n1_; have BK227 := n2_; have BK232 := n3_; have HB := n4_; clear n0_ n1_ n2_ n3_ n4_)); have hnb54 := NB232_227.out; have hnc54 := NB227_232.out; obtain ⟨hcz55_0, hcz55_1, hcz55_2, hcz55_3, hcz55_4, hcz55_5, hcz55_6, hcz55_7, hfz55_0, hfz55_1, hfz55_2, hfz55_3, hfz55_4, hfz55_5, hfz55_6, hfz55_7⟩ := Y8f BK232) | ((with_reducible refine gate_builtin (b := .append) (xs := #[.tmp 84, .tmp 86]) rfl ?_); (try (refine gate_guard (by rfl) ?_; dsimp only)); at_builtin; refine Kd.R_append (Kd.int .u64) (w0 := w) w.heap.size rfl (.tmp 84) (.tmp 86) 28 64 (.int .u64 0) 8 rfl Try.underlying28 info64 rfl (by decide) (by omega) u233006 x233006_2 t234 [.int .u64 t234] (fun _ => True) (fun _ => False) rfl rfl ?aP (fun _ hk => hk.elim) ?aF ?aO ?aB ?aS ?aL ?_; (case aP => exact rfl); (case aB => exact Z7); (case aF => exact (fun _ _ => trivial)); (case aO => exact (Zr HO_233006)); (case aS => exact (zzS Z7)); (case aL => have := LMc52.out; omega); intro v258 w56 ho hb hg hat; rw [← Ny257.out] at ho; replace HO_233007 := ZM (Kd.R_over' (Zr HO_233007) (Kd.R_typed (Zr HO_233006)) (by decide) hg); replace BK227 := ZM (blk_grown (g := gb227) (o := .cells #[.int .i64 0, .int .i64 0, .slice none 0 0, .slice none 0 0, .int .i64 0, .int .i64 0, .slice none 0 0, .slice none 0 0] 30 (0, 0)) (Zk BK227) hg (Kd.R_ne HO_233006.out BK227.out (by decide))); replace BK232 := ZM (blk_grown (g := gb232) (o := .cells #[.int .i64 2, .int .i64 (l0.length : Int), .slice none 0 0, .slice none 0 0, .int .i64 t230, .int .i64 a1, u233006, u233007] 30 (0, 0)) (Zk BK232) hg (Kd.R_ne HO_233006.out BK232.out (by decide))); have HO259 := ZM (ho); replace HB := ZM (hb); clear HO_233006; clear ho hb hg hat; obtain ⟨Ao57, co57, eo57⟩ := Kd.R_slice HO259.out; subst eo57; obtain ⟨hcz58_0, hcz58_1, hcz58_2, hcz58_3, hcz58_4, hcz58_5, hcz58_6, hcz58_7, hfz58_0, hfz58_1, hfz58_2, hfz58_3, hfz58_4, hfz58_5, hfz58_6, hfz58_7⟩ := Y8f BK232) | ((with_reducible refine gate_builtin (b := .append) (xs := #[.tmp 90, .tmp 93]) rfl ?_); (try (refine gate_guard (by rfl) ?_; dsimp only)); at_builtin; refine Kd.R_append Kd.bool (w0 := w) w.heap.size rfl (.tmp 90) (.tmp 93) 22 4 (.bool false) 1 rfl Try.underlying22 info4 rfl (by decide) (by omega) u233007 x233007_2 (decide ((rd l0 x51_2) < 0)) [.bool (decide ((rd l0 x51_2) < 0))] (fun _ => True) (fun _ => False) rfl Z48 ?aP (fun _ hk => hk.elim) ?aF ?aO ?aB ?aS ?aL ?_; (case aP => exact rfl); (case aB => exact Z7); (case aF => exact (fun _ _ => trivial)); (case aO => exact (by (with_reducible repeat (first | apply rrA | apply rrN | apply rrD)); exact Kd.R_mono (Kd.R_far (p := ⟨gb232, 6, none⟩) (Kd.R_types HO_233007.out BK232.out (by decide)) (fun _ hk => hk.2) (.slice Ao57 y257.length co57)) (fun _ hk => trivial))); (case aS => exact (zzS Z7)); (case aL => have := LMc53.out; omega); intro v261 w59 ho hb hg hat; rw [← Ny260.out] at ho; have n0_ := ZM (blk_grown (g := gb227) (o := .cells #[.int .i64 0, .int .i64 0, .slice none 0 0, .slice none 0 0, .int .i64 0, .int .i64 0, .slice none 0 0, .slice none 0 0] 30 (0, 0)) Z46 hg (Kd.R_ne HO_233007.out BK227.out (by decide))); have n1_ := ZM (blk_grown (g := gb232) (o := .cells #[.int .i64 2, .int .i64 (l0.length : Int), .slice none 0 0, .slice none 0 0, .int .i64 t230, .int .i64 a1, .slice Ao57 y257.length co57, u233007] 30 (0, 0)) Z33 hg (Kd.R_ne HO_233007.out BK232.out (by decide))); have n2_ := ZM (Kd.R_over' (by (with_reducible repeat (first | apply rrA | apply rrN | apply rrD)); exact (Kd.R_mono (Kd.R_far (p := ⟨gb232, 6, none⟩) (Kd.R_types HO259.out BK232.out (by decide)) (fun _ hk => hk.2) (.slice Ao57 y257.length co57)) (fun _ h_ => h_.1))) (Kd.R_typed (by (with_reducible repeat (first | apply rrA | apply rrN | apply rrD)); exact (Kd.R_mono (Kd.R_far (p := ⟨gb232, 6, none⟩) (Kd.R_types HO_233007.out BK232.out (by decide)) (fun _ hk => hk.2) (.slice Ao57 y257.length co57)) (fun _ h_ => h_.1)))) (by decide) hg); have n3_ := ZM (hb); have n4_ := ZM (ho); clear BK227; clear BK232; clear HO259; clear HB; clear HO_233007; have BK227 := n0_; have BK232 := n1_; have HO259 := n2_; have HB := n3_; have HO262 := n4_; clear n0_ n1_ n2_ n3_ n4_; clear ho hb hg hat; obtain ⟨Ao60, co60, eo60⟩ := Kd.R_slice HO262.out; subst eo60; obtain ⟨hcz61_0, hcz61_1, hcz61_2, hcz61_3, hcz61_4, hcz61_5, hcz61_6, hcz61_7, hfz61_0, hfz61_1, hfz61_2, hfz61_3, hfz61_4, hfz61_5, hfz61_6, hfz61_7⟩ := Y8f BK232))
     go_roundg k2
     case measure => have := HJ5.out; have := HK2.out; omega
     case rel => exact ⟨(wrap64 (x51_2 + 1)), (y257), (y260), (.slice Ao57 y257.length co57), (.slice Ao60 y260.length co60), Z5, H', ⟨by have := HJ5.out; have := HK2.out; omega⟩, ⟨by (with_reducible repeat (first | apply rrA | apply rrN | apply rrD)); exact Kd.R_mono (Kd.R_far (p := ⟨gb232, 7, none⟩) (Kd.R_types HO259.out BK232.out (by decide)) (fun _ hk => hk.2) (.slice Ao60 y260.length co60)) (fun _ hk => trivial)⟩, ⟨by (with_reducible repeat (first | apply rrA | apply rrN | apply rrD)); exact Kd.R_mono (Kd.R_far (p := ⟨gb232, 7, none⟩) (Kd.R_types HO262.out BK232.out (by decide)) (fun _ hk => hk.2) (.slice Ao60 y260.length co60)) (fun _ hk => trivial)⟩, ⟨by (with_reducible repeat (first | refine kkN ?_ _ | refine kkD ?_ | refine kkA ?_ _)); refine blk_far ?_ NB227_232.out _; (with_reducible repeat (first | refine kkN ?_ _ | refine kkD ?_ | refine kkA ?_ _)); exact BK227.out⟩, ⟨by (with_reducible repeat (first | refine kkN ?_ _ | refine kkD ?_ | refine kkA ?_ _)); refine blk_put (cs := #[.int .i64 2, .int .i64 (l0.length : Int), .slice none 0 0, .slice none 0 0, .int .i64 t230, .int .i64 a1, .slice Ao57 y257.length co57, u233007]) ?_ 7 _ rfl; (with_reducible repeat (first | refine kkN ?_ _ | refine kkD ?_ | refine kkA ?_ _)); exact BK232.out⟩, ⟨by repeat (first | (with_reducible first | exact HB.out | apply zzA | apply zzN | apply zzD | refine below_set ?_ GE227.out | refine below_set ?_ GE232.out) | exact HB.out)⟩⟩
    rw [if_pos c21] at H
    have c21b0 : decide (0 < t235) = true := decide_eq_true c21
    clear c21
    by_cases c22 : ([] : List Int).length + l3.length < 17592186044416
    case neg =>
     rw [if_neg c22] at H
     exact absurd H (by simp)
    rw [if_pos c22] at H
    have LMc22 := ZM c22
    clear c22
    obtain ⟨y237, hy237⟩ : ∃ y_ : List Int, y_ = (([] : List Int) ++ l3) := ⟨_, rfl⟩
    replace H : (if y237.length < 17592186044416 then ((thrumref08_Below.f k2 (IntKind.u64.wrap (t230)) a2 (y237 ++ [x51_2])).bind fun bt243 => (if bt243.1 < t235 then (if x233006_2.length < 17592186044416 then (if x233007_2.length < 140737488355328 then (thrumref10_Press.l0 k2 a1 a2 l3 t230 l0 (l0.length : Int) (wrap64 (x51_2 + 1)) 2 (l0.length : Int) t230 a1 (x233006_2 ++ [IntKind.u64.wrap (t234 + 1)]) (x233007_2 ++ [decide ((rd l0 x51_2) < 0)])) else (none)) else (none)) else (if x233006_2.length < 17592186044416 then (if x233007_2.length < 140737488355328 then (thrumref10_Press.l0 k2 a1 a2 l3 t230 l0 (l0.length : Int) (wrap64 (x51_2 + 1)) 2 (l0.length : Int) t230 a1 (x233006_2 ++ [t234]) (x233007_2 ++ [decide ((rd l0 x51_2) < 0)])) else (none)) else (none)))) else (none)) = some (r1, r2, r3, r4, r5, r6, r7, r8, r9) := by first | (rw [hy237]; with_reducible exact H) | (have H2_ := (Option.bind_some _ _).symm.trans H; rw [hy237]; with_reducible exact H2_) | (have H2_ := (Option.bind_some _ _).symm.trans H; with_reducible exact H2_) | with_reducible exact H | (rw [hy237]; exact H) | exact H
    have Ny237 := ZM hy237
    clear hy237
    by_cases c23 : y237.length < 17592186044416
    case neg =>
     rw [if_neg c23] at H
     exact absurd H (by simp)
    rw [if_pos c23] at H
    have LMc23 := ZM c23
    clear c23
    obtain ⟨y240, hy240⟩ : ∃ y_ : List Int, y_ = (y237 ++ [x51_2]) := ⟨_, rfl⟩
    replace H : ((thrumref08_Below.f k2 (IntKind.u64.wrap (t230)) a2 y240).bind fun bt243 => (if bt243.1 < t235 then (if x233006_2.length < 17592186044416 then (if x233007_2.length < 140737488355328 then (thrumref10_Press.l0 k2 a1 a2 l3 t230 l0 (l0.length : Int) (wrap64 (x51_2 + 1)) 2 (l0.length : Int) t230 a1 (x233006_2 ++ [IntKind.u64.wrap (t234 + 1)]) (x233007_2 ++ [decide ((rd l0 x51_2) < 0)])) else (none)) else (none)) else (if x233006_2.length < 17592186044416 then (if x233007_2.length < 140737488355328 then (thrumref10_Press.l0 k2 a1 a2 l3 t230 l0 (l0.length : Int) (wrap64 (x51_2 + 1)) 2 (l0.length : Int) t230 a1 (x233006_2 ++ [t234]) (x233007_2 ++ [decide ((rd l0 x51_2) < 0)])) else (none)) else (none)))) = some (r1, r2, r3, r4, r5, r6, r7, r8, r9) := by first | (rw [hy240]; with_reducible exact H) | (have H2_ := (Option.bind_some _ _).symm.trans H; rw [hy240]; with_reducible exact H2_) | (have H2_ := (Option.bind_some _ _).symm.trans H; with_reducible exact H2_) | with_reducible exact H | (rw [hy240]; exact H) | exact H
    have Ny240 := ZM hy240
    clear hy240
    replace H := Option.bind_eq_some_iff.mp H
    obtain ⟨⟨t243, t244⟩, A240, H⟩ := H
    replace H : (if t243 < t235 then (if x233006_2.length < 17592186044416 then (if x233007_2.length < 140737488355328 then (thrumref10_Press.l0 k2 a1 a2 l3 t230 l0 (l0.length : Int) (wrap64 (x51_2 + 1)) 2 (l0.length : Int) t230 a1 (x233006_2 ++ [IntKind.u64.wrap (t234 + 1)]) (x233007_2 ++ [decide ((rd l0 x51_2) < 0)])) else (none)) else (none)) else (if x233006_2.length < 17592186044416 then (if x233007_2.length < 140737488355328 then (thrumref10_Press.l0 k2 a1 a2 l3 t230 l0 (l0.length : Int) (wrap64 (x51_2 + 1)) 2 (l0.length : Int) t230 a1 (x233006_2 ++ [t234]) (x233007_2 ++ [decide ((rd l0 x51_2) < 0)])) else (none)) else (none))) = some (r1, r2, r3, r4, r5, r6, r7, r8, r9) := H
    have A24 := ZM A240
    clear A240
    by_cases c25 : t243 < t235
    case neg =>
     rw [if_neg c25] at H
     have c25b0 : decide (t243 < t235) = false := decide_eq_false c25
     clear c25
     by_cases c39 : x233006_2.length < 17592186044416
     case neg =>
      rw [if_neg c39] at H
      exact absurd H (by simp)
     rw [if_pos c39] at H
     have LMc39 := ZM c39
     clear c39
     obtain ⟨y251, hy251⟩ : ∃ y_ : List Int, y_ = (x233006_2 ++ [t234]) := ⟨_, rfl⟩
     replace H : (if x233007_2.length < 140737488355328 then (thrumref10_Press.l0 k2 a1 a2 l3 t230 l0 (l0.length : Int) (wrap64 (x51_2 + 1)) 2 (l0.length : Int) t230 a1 y251 (x233007_2 ++ [decide ((rd l0 x51_2) < 0)])) else (none)) = some (r1, r2, r3, r4, r5, r6, r7, r8, r9) := by first | (rw [hy251]; with_reducible exact H) | (have H2_ := (Option.bind_some _ _).symm.trans H; rw [hy251]; with_reducible exact H2_) | (have H2_ := (Option.bind_some _ _).symm.trans H; with_reducible exact H2_) | with_reducible exact H | (rw [hy251]; exact H) | exact H
     have Ny251 := ZM hy251
     clear hy251
     by_cases c40 : x233007_2.length < 140737488355328
     case neg =>
      rw [if_neg c40] at H
      exact absurd H (by simp)
     rw [if_pos c40] at H
     have LMc40 := ZM c40
     clear c40
     obtain ⟨y254, hy254⟩ : ∃ y_ : List Bool, y_ = (x233007_2 ++ [decide ((rd l0 x51_2) < 0)]) := ⟨_, rfl⟩
     replace H : (thrumref10_Press.l0 k2 a1 a2 l3 t230 l0 (l0.length : Int) (wrap64 (x51_2 + 1)) 2 (l0.length : Int) t230 a1 y251 y254) = some (r1, r2, r3, r4, r5, r6, r7, r8, r9) := by first | (rw [hy254]; with_reducible exact H) | (have H2_ := (Option.bind_some _ _).symm.trans H; rw [hy254]; with_reducible exact H2_) | (have H2_ := (Option.bind_some _ _).symm.trans H; with_reducible exact H2_) | with_reducible exact H | (rw [hy254]; exact H) | exact H
     have Ny254 := ZM hy254
     clear hy254
     have H' := ZM H
     clear H
     have p233 : 0 ≤ (x51_2 : Int) := of_decide_eq_true Z2
     have q233 : x51_2 < (l0.length : Int) := of_decide_eq_true Z2
     obtain ⟨ad233, e233, hx233_0⟩ := Kd.at_int HR0.out x51_2 p233 q233
     cases e233
     replace hx233_0 := (HB.out.cell (World.block_lt_of_cell? w _ hx233_0)).trans hx233_0
     replace p233 := eq_true p233
     replace q233 := eq_true q233
     go_wp2_with (first | ((with_reducible refine gate_callee (f := 48) rfl ?_); refine goesL_ (some 60) rfl rfl Try.func48 (by kernel_rfl) rfl #[.int .i64 (rd l0 x51_2), .int .i64 t230, .int .i64 a1] rfl Z1 ?_; (with_reducible refine (thrumref10_Level.calls (rd l0 x51_2) t230 a1 t234 t235 t236 _ A20.out).mono ?_); rintro e w' ⟨rfl, ⟨nd, rfl⟩⟩; refine ⟨_, rfl, ?_⟩; (try (rw [drewN_self wr]; generalize hq_ : World.drewN wr _ = wr; have n0_ : Aside0 (Kd.R (Kd.int .u64) 64 wr w.heap.size (fun _ => True) u233006 x233006_2) := ⟨by rw [← hq_]; exact (Zr HO_233006)⟩; have n1_ : Aside0 (Kd.R Kd.bool 4 wr w.heap.size (fun _ => True) u233007 x233007_2) := ⟨by rw [← hq_]; exact (Zr HO_233007)⟩; have n2_ : Aside0 (wr.heap[gb227]? = some (.cells #[.int .i64 0, .int .i64 0, .slice none 0 0, .slice none 0 0, .int .i64 0, .int .i64 0, .slice none 0 0, .slice none 0 0] 30 (0, 0))) := ⟨by rw [← hq_]; exact (Zk BK227)⟩; have n3_ : Aside0 (wr.heap[gb232]? = some (.cells #[.int .i64 2, .int .i64 (l0.length : Int), .slice none 0 0, .slice none 0 0, .int .i64 t230, .int .i64 a1, u233006, u233007] 30 (0, 0))) := ⟨by rw [← hq_]; exact (Zk BK232)⟩; have n4_ : Aside0 (Below w.heap.size w wr) := ⟨by rw [← hq_]; exact Z7⟩; clear HO_233006 HO_233007 BK227 BK232 HB hq_; have HO_233006 := n0_; have HO_233007 := n1_; have BK227 := n2_; have BK232 := n3_; have HB := n4_; clear n0_ n1_ n2_ n3_ n4_))) | ((with_reducible refine gate_builtin (b := .append) (xs := #[.const (.slice none 0 0), .tmp 70]) rfl ?_); (try (refine gate_guard (by rfl) ?_; dsimp only)); at_builtin; refine Kd.R_append_rows (Kd.int .i64) (w0 := w) w.heap.size rfl (.const (.slice none 0 0)) (.tmp 70) 26 3 (.int .i64 0) 8 rfl Try.underlying26 info3 rfl (by decide) (by omega) (.slice none 0 0) ([] : List Int) l3 _ _ _ (fun _ => True) (fun _ => False) rfl rfl ?aO ?aR (fun _ _ h => h) (fun _ h => h.elim) ?aF ?aB ?aS ?aL ?_; (case aR => exact Z20); (case aB => exact Z7); (case aF => exact (fun _ _ => trivial)); (case aO => exact ((Kd.R_nil _ _ _ _ (fun _ => True)))); (case aS => exact (zzS Z7)); (case aL => have := LMc22.out; omega); intro v238 w41 ho hb hg hat; rw [← Ny237.out] at ho; replace HO_233006 := ZM (Kd.R_grown (Zr HO_233006) hg (fun _ _ => by simp [Value.ownBlock])); replace HO_233007 := ZM (Kd.R_grown (Zr HO_233007) hg (fun _ _ => by simp [Value.ownBlock])); replace BK227 := ZM (blk_grown (g := gb227) (o := .cells #[.int .i64 0, .int .i64 0, .slice none 0 0, .slice none 0 0, .int .i64 0, .int .i64 0, .slice none 0 0, .slice none 0 0] 30 (0, 0)) (Zk BK227) hg (by simp [Value.ownBlock])); replace BK232 := ZM (blk_grown (g := gb232) (o := .cells #[.int .i64 2, .int .i64 (l0.length : Int), .slice none 0 0, .slice none 0 0, .int .i64 t230, .int .i64 a1, u233006, u233007] 30 (0, 0)) (Zk BK232) hg (by simp [Value.ownBlock])); have HO239 := ZM (ho); replace HB := ZM (hb); clear ho hb hg hat) | ((with_reducible refine gate_builtin (b := .append) (xs := #[.tmp 71, .tmp 73]) rfl ?_); (try (refine gate_guard (by rfl) ?_; dsimp only)); at_builtin; refine Kd.R_append (Kd.int .i64) (w0 := w) w.heap.size rfl (.tmp 71) (.tmp 73) 26 3 (.int .i64 0) 8 rfl Try.underlying26 info3 rfl (by decide) (by omega) v238 y237 x51_2 [.int .i64 x51_2] (fun _ => True) (fun _ => False) rfl rfl ?aP (fun _ hk => hk.elim) ?aF ?aO ?aB ?aS ?aL ?_; (case aP => exact rfl); (case aB => exact Z7); (case aF => exact (fun _ _ => trivial)); (case aO => exact (Zr HO239)); (case aS => exact (zzS Z7)); (case aL => have := LMc23.out; omega); intro v241 w42 ho hb hg hat; rw [← Ny240.out] at ho; replace HO_233006 := ZM (Kd.R_over' (Zr HO_233006) (Kd.R_typed (Zr HO239)) (by decide) hg); replace HO_233007 := ZM (Kd.R_over' (Zr HO_233007) (Kd.R_typed (Zr HO239)) (by decide) hg); replace BK227 := ZM (blk_grown (g := gb227) (o := .cells #[.int .i64 0, .int .i64 0, .slice none 0 0, .slice none 0 0, .int .i64 0, .int .i64 0, .slice none 0 0, .slice none 0 0] 30 (0, 0)) (Zk BK227) hg (Kd.R_ne HO239.out BK227.out (by decide))); replace BK232 := ZM (blk_grown (g := gb232) (o := .cells #[.int .i64 2, .int .i64 (l0.length : Int), .slice none 0 0, .slice none 0 0, .int .i64 t230, .int .i64 a1, u233006, u233007] 30 (0, 0)) (Zk BK232) hg (Kd.R_ne HO239.out BK232.out (by decide))); have HO242 := ZM (ho); replace HB := ZM (hb); clear HO239; clear ho hb hg hat; obtain ⟨Ao43, co43, eo43⟩ := Kd.R_slice HO242.out; subst eo43) | ((with_reducible refine gate_callee (f := 92) rfl ?_); refine goesL_ (some 75) rfl rfl Try.func92 (by kernel_rfl) rfl #[.int .u64 (IntKind.u64.wrap (t230)), .int .u64 a2, .slice Ao43 y240.length co43] rfl Z1 ?_; (with_reducible refine (thrumref08_Below.calls k2 (IntKind.u64.wrap (t230)) a2 _ _ y240 t243 t244 _ ?side1 ?side2 A24.out).mono ?_); (case side1 => exact Z66); (case side2 => exact (Kd.R_reads' HO242.out).2.1); rintro e w' ⟨rfl, ⟨nd, rfl⟩⟩; refine ⟨_, rfl, ?_⟩; (try (rw [drewN_self w42]; generalize hq_ : World.drewN w42 _ = w42; have n0_ : Aside0 (Kd.R (Kd.int .i64) 3 w42 w.heap.size (fun _ => True) (.slice Ao43 y240.length co43) y240) := ⟨by rw [← hq_]; exact (Zr HO242)⟩; have n1_ : Aside0 (Kd.R (Kd.int .u64) 64 w42 w.heap.size (fun _ => True) u233006 x233006_2) := ⟨by rw [← hq_]; exact (Zr HO_233006)⟩; have n2_ : Aside0 (Kd.R Kd.bool 4 w42 w.heap.size (fun _ => True) u233007 x233007_2) := ⟨by rw [← hq_]; exact (Zr HO_233007)⟩; have n3_ : Aside0 (w42.heap[gb227]? = some (.cells #[.int .i64 0, .int .i64 0, .slice none 0 0, .slice none 0 0, .int .i64 0, .int .i64 0, .slice none 0 0, .slice none 0 0] 30 (0, 0))) := ⟨by rw [← hq_]; exact (Zk BK227)⟩; have n4_ : Aside0 (w42.heap[gb232]? = some (.cells #[.int .i64 2, .int .i64 (l0.length : Int), .slice none 0 0, .slice none 0 0, .int .i64 t230, .int .i64 a1, u233006, u233007] 30 (0, 0))) := ⟨by rw [← hq_]; exact (Zk BK232)⟩; have n5_ : Aside0 (Below w.heap.size w w42) := ⟨by rw [← hq_]; exact Z7⟩; clear HO242 HO_233006 HO_233007 BK227 BK232 HB hq_; have HO242 := n0_; have HO_233006 := n1_; have HO_233007 := n2_; have BK227 := n3_; have BK232 := n4_; have HB := n5_; clear n0_ n1_ n2_ n3_ n4_ n5_)); have hnb44 := NB232_227.out; have hnc44 := NB227_232.out; obtain ⟨hcz45_0, hcz45_1, hcz45_2, hcz45_3, hcz45_4, hcz45_5, hcz45_6, hcz45_7, hfz45_0, hfz45_1, hfz45_2, hfz45_3, hfz45_4, hfz45_5, hfz45_6, hfz45_7⟩ := Y8f BK232) | ((with_reducible refine gate_builtin (b := .append) (xs := #[.tmp 84, .tmp 86]) rfl ?_); (try (refine gate_guard (by rfl) ?_; dsimp only)); at_builtin; refine Kd.R_append (Kd.int .u64) (w0 := w) w.heap.size rfl (.tmp 84) (.tmp 86) 28 64 (.int .u64 0) 8 rfl Try.underlying28 info64 rfl (by decide) (by omega) u233006 x233006_2 t234 [.int .u64 t234] (fun _ => True) (fun _ => False) rfl rfl ?aP (fun _ hk => hk.elim) ?aF ?aO ?aB ?aS ?aL ?_; (case aP => exact rfl); (case aB => exact Z7); (case aF => exact (fun _ _ => trivial)); (case aO => exact (Zr HO_233006)); (case aS => exact (zzS Z7)); (case aL => have := LMc39.out; omega); intro v252 w46 ho hb hg hat; rw [← Ny251.out] at ho; replace HO_233007 := ZM (Kd.R_over' (Zr HO_233007) (Kd.R_typed (Zr HO_233006)) (by decide) hg); replace BK227 := ZM (blk_grown (g := gb227) (o := .cells #[.int .i64 0, .int .i64 0, .slice none 0 0, .slice none 0 0, .int .i64 0, .int .i64 0, .slice none 0 0, .slice none 0 0] 30 (0, 0)) (Zk BK227) hg (Kd.R_ne HO_233006.out BK227.out (by decide))); replace BK232 := ZM (blk_grown (g := gb232) (o := .cells #[.int .i64 2, .int .i64 (l0.length : Int), .slice none 0 0, .slice none 0 0, .int .i64 t230, .int .i64 a1, u233006, u233007] 30 (0, 0)) (Zk BK232) hg (Kd.R_ne HO_233006.out BK232.out (by decide))); replace HO242 := ZM (Kd.R_over' (Zr HO242) (Kd.R_typed (Zr HO_233006)) (by decide) hg); have HO253 := ZM (ho); replace HB := ZM (hb); clear HO_233006; clear ho hb hg hat; obtain ⟨Ao47, co47, eo47⟩ := Kd.R_slice HO253.out; subst eo47; obtain ⟨hcz48_0, hcz48_1, hcz48_2, hcz48_3, hcz48_4, hcz48_5, hcz48_6, hcz48_7, hfz48_0, hfz48_1, hfz48_2, hfz48_3, hfz48_4, hfz48_5, hfz48_6, hfz48_7⟩ := Y8f BK232) | ((with_reducible refine gate_builtin (b := .append) (xs := #[.tmp 90, .tmp 93]) rfl ?_); (try (refine gate_guard (by rfl) ?_; dsimp only)); at_builtin; refine Kd.R_append Kd.bool (w0 := w) w.heap.size rfl (.tmp 90) (.tmp 93) 22 4 (.bool false) 1 rfl Try.underlying22 info4 rfl (by decide) (by omega) u233007 x233007_2 (decide ((rd l0 x51_2) < 0)) [.bool (decide ((rd l0 x51_2) < 0))] (fun _ => True) (fun _ => False) rfl Z48 ?aP (fun _ hk => hk.elim) ?aF ?aO ?aB ?aS ?aL ?_; (case aP => exact rfl); (case aB => exact Z7); (case aF => exact (fun _ _ => trivial)); (case aO => exact (by (with_reducible repeat (first | apply rrA | apply rrN | apply rrD)); exact Kd.R_mono (Kd.R_far (p := ⟨gb232, 6, none⟩) (Kd.R_types HO_233007.out BK232.out (by decide)) (fun _ hk => hk.2) (.slice Ao47 y251.length co47)) (fun _ hk => trivial))); (case aS => exact (zzS Z7)); (case aL => have := LMc40.out; omega); intro v255 w49 ho hb hg hat; rw [← Ny254.out] at ho; have n0_ := ZM (blk_grown (g := gb227) (o := .cells #[.int .i64 0, .int .i64 0, .slice none 0 0, .slice none 0 0, .int .i64 0, .int .i64 0, .slice none 0 0, .slice none 0 0] 30 (0, 0)) Z46 hg (Kd.R_ne HO_233007.out BK227.out (by decide))); have n1_ := ZM (blk_grown (g := gb232) (o := .cells #[.int .i64 2, .int .i64 (l0.length : Int), .slice none 0 0, .slice none 0 0, .int .i64 t230, .int .i64 a1, .slice Ao47 y251.length co47, u233007] 30 (0, 0)) Z33 hg (Kd.R_ne HO_233007.out BK232.out (by decide))); have n2_ := ZM (Kd.R_over' (by (with_reducible repeat (first | apply rrA | apply rrN | apply rrD)); exact (Kd.R_mono (Kd.R_far (p := ⟨gb232, 6, none⟩) (Kd.R_types HO242.out BK232.out (by decide)) (fun _ hk => hk.2) (.slice Ao47 y251.length co47)) (fun _ h_ => h_.1))) (Kd.R_typed Z60) (by decide) hg); have n3_ := ZM (Kd.R_over' (by (with_reducible repeat (first | apply rrA | apply rrN | apply rrD)); exact (Kd.R_mono (Kd.R_far (p := ⟨gb232, 6, none⟩) (Kd.R_types HO253.out BK232.out (by decide)) (fun _ hk => hk.2) (.slice Ao47 y251.length co47)) (fun _ h_ => h_.1))) (Kd.R_typed Z60) (by decide) hg); have n4_ := ZM (hb); have n5_ := ZM (ho); clear BK227; clear BK232; clear HO242; clear HO253; clear HB; clear HO_233007; have BK227 := n0_; have BK232 := n1_; have HO242 := n2_; have HO253 := n3_; have HB := n4_; have HO256 := n5_; clear n0_ n1_ n2_ n3_ n4_ n5_; clear ho hb hg hat; obtain ⟨Ao50, co50, eo50⟩ := Kd.R_slice HO256.out; subst eo50; obtain ⟨hcz51_0, hcz51_1, hcz51_2, hcz51_3, hcz51_4, hcz51_5, hcz51_6, hcz51_7, hfz51_0, hfz51_1, hfz51_2, hfz51_3, hfz51_4, hfz51_5, hfz51_6, hfz51_7⟩ := Y8f BK232))
     go_roundg k2
     case measure => have := HJ5.out; have := HK2.out; omega
     case rel => exact ⟨(wrap64 (x51_2 + 1)), (y251), (y254), (.slice Ao47 y251.length co47), (.slice Ao50 y254.length co50), Z5, H', ⟨by have := HJ5.out; have := HK2.out; omega⟩, ⟨by (with_reducible repeat (first | apply rrA | apply rrN | apply rrD)); exact Kd.R_mono (Kd.R_far (p := ⟨gb232, 7, none⟩) (Kd.R_types HO253.out BK232.out (by decide)) (fun _ hk => hk.2) (.slice Ao50 y254.length co50)) (fun _ hk => trivial)⟩, ⟨by (with_reducible repeat (first | apply rrA | apply rrN | apply rrD)); exact Kd.R_mono (Kd.R_far (p := ⟨gb232, 7, none⟩) (Kd.R_types HO256.out BK232.out (by decide)) (fun _ hk => hk.2) (.slice Ao50 y254.length co50)) (fun _ hk => trivial)⟩, ⟨by (with_reducible repeat (first | refine kkN ?_ _ | refine kkD ?_ | refine kkA ?_ _)); refine blk_far ?_ NB227_232.out _; (with_reducible repeat (first | refine kkN ?_ _ | refine kkD ?_ | refine kkA ?_ _)); exact BK227.out⟩, ⟨by (with_reducible repeat (first | refine kkN ?_ _ | refine kkD ?_ | refine kkA ?_ _)); refine blk_put (cs := #[.int .i64 2, .int .i64 (l0.length : Int), .slice none 0 0, .slice none 0 0, .int .i64 t230, .int .i64 a1, .slice Ao47 y251.length co47, u233007]) ?_ 7 _ rfl; (with_reducible repeat (first | refine kkN ?_ _ | refine kkD ?_ | refine kkA ?_ _)); exact BK232.out⟩, ⟨by repeat (first | (with_reducible first | exact HB.out | apply zzA | apply zzN | apply zzD | refine below_set ?_ GE227.out | refine below_set ?_ GE232.out) | exact HB.out)⟩⟩
    rw [if_pos c25] at H
    have c25b0 : decide (t243 < t235) = true := decide_eq_true c25
    clear c25
    by_cases c26 : x233006_2.length < 17592186044416
    case neg =>
     rw [if_neg c26] at H
     exact absurd H (by simp)
    rw [if_pos c26] at H
    have LMc26 := ZM c26
    clear c26
    obtain ⟨y245, hy245⟩ : ∃ y_ : List Int, y_ = (x233006_2 ++ [IntKind.u64.wrap (t234 + 1)]) := ⟨_, rfl⟩
    replace H : (if x233007_2.length < 140737488355328 then (thrumref10_Press.l0 k2 a1 a2 l3 t230 l0 (l0.length : Int) (wrap64 (x51_2 + 1)) 2 (l0.length : Int) t230 a1 y245 (x233007_2 ++ [decide ((rd l0 x51_2) < 0)])) else (none)) = some (r1, r2, r3, r4, r5, r6, r7, r8, r9) := by first | (rw [hy245]; with_reducible exact H) | (have H2_ := (Option.bind_some _ _).symm.trans H; rw [hy245]; with_reducible exact H2_) | (have H2_ := (Option.bind_some _ _).symm.trans H; with_reducible exact H2_) | with_reducible exact H | (rw [hy245]; exact H) | exact H
    have Ny245 := ZM hy245
    clear hy245
    by_cases c27 : x233007_2.length < 140737488355328
    case neg =>
     rw [if_neg c27] at H
     exact absurd H (by simp)
    rw [if_pos c27] at H
    have LMc27 := ZM c27
    clear c27
    obtain ⟨y248, hy248⟩ : ∃ y_ : List Bool, y_ = (x233007_2 ++ [decide ((rd l0 x51_2) < 0)]) := ⟨_, rfl⟩
    replace H : (thrumref10_Press.l0 k2 a1 a2 l3 t230 l0 (l0.length : Int) (wrap64 (x51_2 + 1)) 2 (l0.length : Int) t230 a1 y245 y248) = some (r1, r2, r3, r4, r5, r6, r7, r8, r9) := by first | (rw [hy248]; with_reducible exact H) | (have H2_ := (Option.bind_some _ _).symm.trans H; rw [hy248]; with_reducible exact H2_) | (have H2_ := (Option.bind_some _ _).symm.trans H; with_reducible exact H2_) | with_reducible exact H | (rw [hy248]; exact H) | exact H
    have Ny248 := ZM hy248
    clear hy248
    have H' := ZM H
    clear H
    have p233 : 0 ≤ (x51_2 : Int) := of_decide_eq_true Z2
    have q233 : x51_2 < (l0.length : Int) := of_decide_eq_true Z2
    obtain ⟨ad233, e233, hx233_0⟩ := Kd.at_int HR0.out x51_2 p233 q233
    cases e233
    replace hx233_0 := (HB.out.cell (World.block_lt_of_cell? w _ hx233_0)).trans hx233_0
    replace p233 := eq_true p233
    replace q233 := eq_true q233
    go_wp2_with (first | ((with_reducible refine gate_callee (f := 48) rfl ?_); refine goesL_ (some 60) rfl rfl Try.func48 (by kernel_rfl) rfl #[.int .i64 (rd l0 x51_2), .int .i64 t230, .int .i64 a1] rfl Z1 ?_; (with_reducible refine (thrumref10_Level.calls (rd l0 x51_2) t230 a1 t234 t235 t236 _ A20.out).mono ?_); rintro e w' ⟨rfl, ⟨nd, rfl⟩⟩; refine ⟨_, rfl, ?_⟩; (try (rw [drewN_self wr]; generalize hq_ : World.drewN wr _ = wr; have n0_ : Aside0 (Kd.R (Kd.int .u64) 64 wr w.heap.size (fun _ => True) u233006 x233006_2) := ⟨by rw [← hq_]; exact (Zr HO_233006)⟩; have n1_ : Aside0 (Kd.R Kd.bool 4 wr w.heap.size (fun _ => True) u233007 x233007_2) := ⟨by rw [← hq_]; exact (Zr HO_233007)⟩; have n2_ : Aside0 (wr.heap[gb227]? = some (.cells #[.int .i64 0, .int .i64 0, .slice none 0 0, .slice none 0 0, .int .i64 0, .int .i64 0, .slice none 0 0, .slice none 0 0] 30 (0, 0))) := ⟨by rw [← hq_]; exact (Zk BK227)⟩; have n3_ : Aside0 (wr.heap[gb232]? = some (.cells #[.int .i64 2, .int .i64 (l0.length : Int), .slice none 0 0, .slice none 0 0, .int .i64 t230, .int .i64 a1, u233006, u233007] 30 (0, 0))) := ⟨by rw [← hq_]; exact (Zk BK232)⟩; have n4_ : Aside0 (Below w.heap.size w wr) := ⟨by rw [← hq_]; exact Z7⟩; clear HO_233006 HO_233007 BK227 BK232 HB hq_; have HO_233006 := n0_; have HO_233007 := n1_; have BK227 := n2_; have BK232 := n3_; have HB := n4_; clear n0_ n1_ n2_ n3_ n4_))) | ((with_reducible refine gate_builtin (b := .append) (xs := #[.const (.slice none 0 0), .tmp 70]) rfl ?_); (try (refine gate_guard (by rfl) ?_; dsimp only)); at_builtin; refine Kd.R_append_rows (Kd.int .i64) (w0 := w) w.heap.size rfl (.const (.slice none 0 0)) (.tmp 70) 26 3 (.int .i64 0) 8 rfl Try.underlying26 info3 rfl (by decide) (by omega) (.slice none 0 0) ([] : List Int) l3 _ _ _ (fun _ => True) (fun _ => False) rfl rfl ?aO ?aR (fun _ _ h => h) (fun _ h => h.elim) ?aF ?aB ?aS ?aL ?_; (case aR => exact Z20); (case aB => exact Z7); (case aF => exact (fun _ _ => trivial)); (case aO => exact ((Kd.R_nil _ _ _ _ (fun _ => True)))); (case aS => exact (zzS Z7)); (case aL => have := LMc22.out; omega); intro v238 w28 ho hb hg hat; rw [← Ny237.out] at ho; replace HO_233006 := ZM (Kd.R_grown (Zr HO_233006) hg (fun _ _ => by simp [Value.ownBlock])); replace HO_233007 := ZM (Kd.R_grown (Zr HO_233007) hg (fun _ _ => by simp [Value.ownBlock])); replace BK227 := ZM (blk_grown (g := gb227) (o := .cells #[.int .i64 0, .int .i64 0, .slice none 0 0, .slice none 0 0, .int .i64 0, .int .i64 0, .slice none 0 0, .slice none 0 0] 30 (0, 0)) (Zk BK227) hg (by simp [Value.ownBlock])); replace BK232 := ZM (blk_grown (g := gb232) (o := .cells #[.int .i64 2, .int .i64 (l0.length : Int), .slice none 0 0, .slice none 0 0, .int .i64 t230, .int .i64 a1, u233006, u233007] 30 (0, 0)) (Zk BK232) hg (by simp [Value.ownBlock])); have HO239 := ZM (ho); replace HB := ZM (hb); clear ho hb hg hat) | ((with_reducible refine gate_builtin (b := .append) (xs := #[.tmp 71, .tmp 73]) rfl ?_); (try (refine gate_guard (by rfl) ?_; dsimp only)); at_builtin; refine Kd.R_append (Kd.int .i64) (w0 := w) w.heap.size rfl (.tmp 71) (.tmp 73) 26 3 (.int .i64 0) 8 rfl Try.underlying26 info3 rfl (by decide) (by omega) v238 y237 x51_2 [.int .i64 x51_2] (fun _ => True) (fun _ => False) rfl rfl ?aP (fun _ hk => hk.elim) ?aF ?aO ?aB ?aS ?aL ?_; (case aP => exact rfl); (case aB => exact Z7); (case aF => exact (fun _ _ => trivial)); (case aO => exact (Zr HO239)); (case aS => exact (zzS Z7)); (case aL => have := LMc23.out; omega); intro v241 w29 ho hb hg hat; rw [← Ny240.out] at ho; replace HO_233006 := ZM (Kd.R_over' (Zr HO_233006) (Kd.R_typed (Zr HO239)) (by decide) hg); replace HO_233007 := ZM (Kd.R_over' (Zr HO_233007) (Kd.R_typed (Zr HO239)) (by decide) hg); replace BK227 := ZM (blk_grown (g := gb227) (o := .cells #[.int .i64 0, .int .i64 0, .slice none 0 0, .slice none 0 0, .int .i64 0, .int .i64 0, .slice none 0 0, .slice none 0 0] 30 (0, 0)) (Zk BK227) hg (Kd.R_ne HO239.out BK227.out (by decide))); replace BK232 := ZM (blk_grown (g := gb232) (o := .cells #[.int .i64 2, .int .i64 (l0.length : Int), .slice none 0 0, .slice none 0 0, .int .i64 t230, .int .i64 a1, u233006, u233007] 30 (0, 0)) (Zk BK232) hg (Kd.R_ne HO239.out BK232.out (by decide))); have HO242 := ZM (ho); replace HB := ZM (hb); clear HO239; clear ho hb hg hat; obtain ⟨Ao30, co30, eo30⟩ := Kd.R_slice HO242.out; subst eo30) | ((with_reducible refine gate_callee (f := 92) rfl ?_); refine goesL_ (some 75) rfl rfl Try.func92 (by kernel_rfl) rfl #[.int .u64 (IntKind.u64.wrap (t230)), .int .u64 a2, .slice Ao30 y240.length co30] rfl Z1 ?_; (with_reducible refine (thrumref08_Below.calls k2 (IntKind.u64.wrap (t230)) a2 _ _ y240 t243 t244 _ ?side1 ?side2 A24.out).mono ?_); (case side1 => exact Z66); (case side2 => exact (Kd.R_reads' HO242.out).2.1); rintro e w' ⟨rfl, ⟨nd, rfl⟩⟩; refine ⟨_, rfl, ?_⟩; (try (rw [drewN_self w29]; generalize hq_ : World.drewN w29 _ = w29; have n0_ : Aside0 (Kd.R (Kd.int .i64) 3 w29 w.heap.size (fun _ => True) (.slice Ao30 y240.length co30) y240) := ⟨by rw [← hq_]; exact (Zr HO242)⟩; have n1_ : Aside0 (Kd.R (Kd.int .u64) 64 w29 w.heap.size (fun _ => True) u233006 x233006_2) := ⟨by rw [← hq_]; exact (Zr HO_233006)⟩; have n2_ : Aside0 (Kd.R Kd.bool 4 w29 w.heap.size (fun _ => True) u233007 x233007_2) := ⟨by rw [← hq_]; exact (Zr HO_233007)⟩; have n3_ : Aside0 (w29.heap[gb227]? = some (.cells #[.int .i64 0, .int .i64 0, .slice none 0 0, .slice none 0 0, .int .i64 0, .int .i64 0, .slice none 0 0, .slice none 0 0] 30 (0, 0))) := ⟨by rw [← hq_]; exact (Zk BK227)⟩; have n4_ : Aside0 (w29.heap[gb232]? = some (.cells #[.int .i64 2, .int .i64 (l0.length : Int), .slice none 0 0, .slice none 0 0, .int .i64 t230, .int .i64 a1, u233006, u233007] 30 (0, 0))) := ⟨by rw [← hq_]; exact (Zk BK232)⟩; have n5_ : Aside0 (Below w.heap.size w w29) := ⟨by rw [← hq_]; exact Z7⟩; clear HO242 HO_233006 HO_233007 BK227 BK232 HB hq_; have HO242 := n0_; have HO_233006 := n1_; have HO_233007 := n2_; have BK227 := n3_; have BK232 := n4_; have HB := n5_; clear n0_ n1_ n2_ n3_ n4_ n5_)); have hnb31 := NB232_227.out; have hnc31 := NB227_232.out; obtain ⟨hcz32_0, hcz32_1, hcz32_2, hcz32_3, hcz32_4, hcz32_5, hcz32_6, hcz32_7, hfz32_0, hfz32_1, hfz32_2, hfz32_3, hfz32_4, hfz32_5, hfz32_6, hfz32_7⟩ := Y8f BK232) | ((with_reducible refine gate_builtin (b := .append) (xs := #[.tmp 84, .tmp 86]) rfl ?_); (try (refine gate_guard (by rfl) ?_; dsimp only)); at_builtin; refine Kd.R_append (Kd.int .u64) (w0 := w) w.heap.size rfl (.tmp 84) (.tmp 86) 28 64 (.int .u64 0) 8 rfl Try.underlying28 info64 rfl (by decide) (by omega) u233006 x233006_2 (IntKind.u64.wrap (t234 + 1)) [.int .u64 (IntKind.u64.wrap (t234 + 1))] (fun _ => True) (fun _ => False) rfl rfl ?aP (fun _ hk => hk.elim) ?aF ?aO ?aB ?aS ?aL ?_; (case aP => exact rfl); (case aB => exact Z7); (case aF => exact (fun _ _ => trivial)); (case aO => exact (Zr HO_233006)); (case aS => exact (zzS Z7)); (case aL => have := LMc26.out; omega); intro v246 w33 ho hb hg hat; rw [← Ny245.out] at ho; replace HO_233007 := ZM (Kd.R_over' (Zr HO_233007) (Kd.R_typed (Zr HO_233006)) (by decide) hg); replace BK227 := ZM (blk_grown (g := gb227) (o := .cells #[.int .i64 0, .int .i64 0, .slice none 0 0, .slice none 0 0, .int .i64 0, .int .i64 0, .slice none 0 0, .slice none 0 0] 30 (0, 0)) (Zk BK227) hg (Kd.R_ne HO_233006.out BK227.out (by decide))); replace BK232 := ZM (blk_grown (g := gb232) (o := .cells #[.int .i64 2, .int .i64 (l0.length : Int), .slice none 0 0, .slice none 0 0, .int .i64 t230, .int .i64 a1, u233006, u233007] 30 (0, 0)) (Zk BK232) hg (Kd.R_ne HO_233006.out BK232.out (by decide))); replace HO242 := ZM (Kd.R_over' (Zr HO242) (Kd.R_typed (Zr HO_233006)) (by decide) hg); have HO247 := ZM (ho); replace HB := ZM (hb); clear HO_233006; clear ho hb hg hat; obtain ⟨Ao34, co34, eo34⟩ := Kd.R_slice HO247.out; subst eo34; obtain ⟨hcz35_0, hcz35_1, hcz35_2, hcz35_3, hcz35_4, hcz35_5, hcz35_6, hcz35_7, hfz35_0, hfz35_1, hfz35_2, hfz35_3, hfz35_4, hfz35_5, hfz35_6, hfz35_7⟩ := Y8f BK232) | ((with_reducible refine gate_builtin (b := .append) (xs := #[.tmp 90, .tmp 93]) rfl ?_); (try (refine gate_guard (by rfl) ?_; dsimp only)); at_builtin; refine Kd.R_append Kd.bool (w0 := w) w.heap.size rfl (.tmp 90) (.tmp 93) 22 4 (.bool false) 1 rfl Try.underlying22 info4 rfl (by decide) (by omega) u233007 x233007_2 (decide ((rd l0 x51_2) < 0)) [.bool (decide ((rd l0 x51_2) < 0))] (fun _ => True) (fun _ => False) rfl Z48 ?aP (fun _ hk => hk.elim) ?aF ?aO ?aB ?aS ?aL ?_; (case aP => exact rfl); (case aB => exact Z7); (case aF => exact (fun _ _ => trivial)); (case aO => exact (by (with_reducible repeat (first | apply rrA | apply rrN | apply rrD)); exact Kd.R_mono (Kd.R_far (p := ⟨gb232, 6, none⟩) (Kd.R_types HO_233007.out BK232.out (by decide)) (fun _ hk => hk.2) (.slice Ao34 y245.length co34)) (fun _ hk => trivial))); (case aS => exact (zzS Z7)); (case aL => have := LMc27.out; omega); intro v249 w36 ho hb hg hat; rw [← Ny248.out] at ho; have n0_ := ZM (blk_grown (g := gb227) (o := .cells #[.int .i64 0, .int .i64 0, .slice none 0 0, .slice none 0 0, .int .i64 0, .int .i64 0, .slice none 0 0, .slice none 0 0] 30 (0, 0)) Z46 hg (Kd.R_ne HO_233007.out BK227.out (by decide))); have n1_ := ZM (blk_grown (g := gb232) (o := .cells #[.int .i64 2, .int .i64 (l0.length : Int), .slice none 0 0, .slice none 0 0, .int .i64 t230, .int .i64 a1, .slice Ao34 y245.length co34, u233007] 30 (0, 0)) Z33 hg (Kd.R_ne HO_233007.out BK232.out (by decide))); have n2_ := ZM (Kd.R_over' (by (with_reducible repeat (first | apply rrA | apply rrN | apply rrD)); exact (Kd.R_mono (Kd.R_far (p := ⟨gb232, 6, none⟩) (Kd.R_types HO242.out BK232.out (by decide)) (fun _ hk => hk.2) (.slice Ao34 y245.length co34)) (fun _ h_ => h_.1))) (Kd.R_typed Z61) (by decide) hg); have n3_ := ZM (Kd.R_over' (by (with_reducible repeat (first | apply rrA | apply rrN | apply rrD)); exact (Kd.R_mono (Kd.R_far (p := ⟨gb232, 6, none⟩) (Kd.R_types HO247.out BK232.out (by decide)) (fun _ hk => hk.2) (.slice Ao34 y245.length co34)) (fun _ h_ => h_.1))) (Kd.R_typed Z61) (by decide) hg); have n4_ := ZM (hb); have n5_ := ZM (ho); clear BK227; clear BK232; clear HO242; clear HO247; clear HB; clear HO_233007; have BK227 := n0_; have BK232 := n1_; have HO242 := n2_; have HO247 := n3_; have HB := n4_; have HO250 := n5_; clear n0_ n1_ n2_ n3_ n4_ n5_; clear ho hb hg hat; obtain ⟨Ao37, co37, eo37⟩ := Kd.R_slice HO250.out; subst eo37; obtain ⟨hcz38_0, hcz38_1, hcz38_2, hcz38_3, hcz38_4, hcz38_5, hcz38_6, hcz38_7, hfz38_0, hfz38_1, hfz38_2, hfz38_3, hfz38_4, hfz38_5, hfz38_6, hfz38_7⟩ := Y8f BK232))
    go_roundg k2
    case measure => have := HJ5.out; have := HK2.out; omega
    case rel => exact ⟨(wrap64 (x51_2 + 1)), (y245), (y248), (.slice Ao34 y245.length co34), (.slice Ao37 y248.length co37), Z5, H', ⟨by have := HJ5.out; have := HK2.out; omega⟩, ⟨by (with_reducible repeat (first | apply rrA | apply rrN | apply rrD)); exact Kd.R_mono (Kd.R_far (p := ⟨gb232, 7, none⟩) (Kd.R_types HO247.out BK232.out (by decide)) (fun _ hk => hk.2) (.slice Ao37 y248.length co37)) (fun _ hk => trivial)⟩, ⟨by (with_reducible repeat (first | apply rrA | apply rrN | apply rrD)); exact Kd.R_mono (Kd.R_far (p := ⟨gb232, 7, none⟩) (Kd.R_types HO250.out BK232.out (by decide)) (fun _ hk => hk.2) (.slice Ao37 y248.length co37)) (fun _ hk => trivial)⟩, ⟨by (with_reducible repeat (first | refine kkN ?_ _ | refine kkD ?_ | refine kkA ?_ _)); refine blk_far ?_ NB227_232.out _; (with_reducible repeat (first | refine kkN ?_ _ | refine kkD ?_ | refine kkA ?_ _)); exact BK227.out⟩, ⟨by (with_reducible repeat (first | refine kkN ?_ _ | refine kkD ?_ | refine kkA ?_ _)); refine blk_put (cs := #[.int .i64 2, .int .i64 (l0.length : Int), .slice none 0 0, .slice none 0 0, .int .i64 t230, .int .i64 a1, .slice Ao34 y245.length co34, u233007]) ?_ 7 _ rfl; (with_reducible repeat (first | refine kkN ?_ _ | refine kkD ?_ | refine kkA ?_ _)); exact BK232.out⟩, ⟨by repeat (first | (with_reducible first | exact HB.out | apply zzA | apply zzN | apply zzD | refine below_set ?_ GE227.out | refine below_set ?_ GE232.out) | exact HB.out)⟩⟩
end Go.Proofs.Ytkfhdpnfcaghbaa.HQ
