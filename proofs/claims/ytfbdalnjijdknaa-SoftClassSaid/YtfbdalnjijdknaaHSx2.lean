/- What Go functions do, each as a plain Lean function with the same answers, and the proof of it, in every world: printed by the session's driver over the kit's print, with texts by hand. -/
import Derived.Test.YtfbdalnjijdknaaHSx0
import Derived.Test.YtfbdalnjijdknaaHSx1
namespace Go.Proofs.Ytfbdalnjijdknaa.HS
open Go.RowKit Go.Proofs.YtfbdalnjijdknaaW.PrintWords Go.Proofs.YtfbdalnjijdknaaW.PrintLast Go.Proofs.YtfbdalnjijdknaaW.PrintMore
attribute [local go_sem] max2_int min2_int max_two min_two max_three min_three max_four min_four   -- for this text's walks alone
open Go.Proofs.Ytfbdalnjijdknaa.Sp
attribute [local go_sem] Go.Proofs.Ytfbdalnjijdknaa.Sp.u64_not
set_option linter.unusedVariables false
set_option linter.unusedSimpArgs false

/-! ### slices_Index_int64_int64P: function 115 -/
def slices_Index_int64_int64P.l0 : Nat → List Int → Int → Int → Int → Option (Int)
 | 0, _, _, _, _ => none
 | k + 1, x0, x1, x7, x8 => if x8 < x7 then (if 0 ≤ x8 then (if x8 < (x0.length : Int) then (if x1 = (rd x0 x8) then (some x8) else (slices_Index_int64_int64P.l0 k x0 x1 x7 (wrap64 (x8 + 1)))) else (none)) else (none)) else (some (-1))
def slices_Index_int64_int64P.f (k : Nat) (l0 : List Int) (a1 : Int) : Option (Int) := slices_Index_int64_int64P.l0 k l0 a1 (l0.length : Int) 0
theorem slices_Index_int64_int64P.mono_l : ∀ k, (∀ y0 y1 y2 y3, LeO (slices_Index_int64_int64P.l0 k y0 y1 y2 y3) (slices_Index_int64_int64P.l0 (k + 1) y0 y1 y2 y3))
 | 0 => fun _ _ _ _ r h => by simp [slices_Index_int64_int64P.l0] at h
 | k + 1 => by
  have ih0 := slices_Index_int64_int64P.mono_l k
  ·
   intro y0 y1 y2 y3
   unfold slices_Index_int64_int64P.l0
   repeat' first
   | (with_reducible exact ih0 _ _ _ _)
   | (with_reducible exact LeO.refl _)
   | (with_reducible exact LeO.none _)
   | (with_reducible refine LeO.ite ?_ ?_)
   | (with_reducible refine LeO.bind ?_ (fun _ => ?_))
   | exact ih0 _ _ _ _
   | exact LeO.none _
   | refine LeO.ite ?_ ?_
   | refine LeO.bind ?_ (fun _ => ?_)
theorem slices_Index_int64_int64P.mono : ∀ a0 a1 k, LeO (slices_Index_int64_int64P.f k a0 a1) (slices_Index_int64_int64P.f (k + 1) a0 a1) := by
 intro a0 a1 k
 have ih0 := slices_Index_int64_int64P.mono_l k
 unfold slices_Index_int64_int64P.f
 repeat' first
   | (with_reducible exact ih0 _ _ _ _)
   | (with_reducible exact LeO.refl _)
   | (with_reducible exact LeO.none _)
   | (with_reducible refine LeO.ite ?_ ?_)
   | (with_reducible refine LeO.bind ?_ (fun _ => ?_))
   | exact ih0 _ _ _ _
   | exact LeO.none _
   | refine LeO.ite ?_ ?_
   | refine LeO.bind ?_ (fun _ => ?_)
set_option maxHeartbeats 8000000 in
set_option maxRecDepth 100000 in
theorem slices_Index_int64_int64P.calls (k : Nat) (A0 : Option Addr) (c0 : Nat) (l0 : List Int) (a1 : Int) (r : Int) (w : World) (hr0 : Kd.C (Kd.int .i64) w A0 l0.length l0) (hc0 : l0.length ≤ c0) (h : slices_Index_int64_int64P.f k l0 a1 = some r) :
  Calls Try.prog 115 #[.slice A0 l0.length c0, .int .i64 a1] w fun e w' => e = .returned (.int .i64 r) ∧ Drawn0 w w' := by
 have HR0 := Aside0.mk hr0
 have HC0 := Aside0.mk hc0
 clear hr0 hc0
 have H : (slices_Index_int64_int64P.l0 k l0 a1 (l0.length : Int) 0) = some r := h
 clear h
 have H' := Aside0.mk H
 clear H
 go_enter Try.func115, Try.ntmps115
 go_wp2
 go_loopg [8] k (fun kq v8 w' => ∃ (x8_1 : Int), v8 = .int .i64 x8_1 ∧ Aside0 (slices_Index_int64_int64P.l0 kq l0 a1 (l0.length : Int) x8_1 = some r) ∧ Aside0 (kq ≤ k) ∧ Drawn0 w w')
 case atStart => exact ⟨(0), (by first | rfl | (simp; done) | (simp [*]; done)), H', ⟨Nat.le_refl _⟩, by repeat (first | exact ddR _ | apply ddS)⟩
 case round =>
  clear H'
  try clear c1
  try clear p2
  obtain ⟨x8_1, rfl, HA, HK1, ⟨m1, rfl⟩⟩ := hrel
  cases gk with
  | zero => exact absurd HA.out (by simp [slices_Index_int64_int64P.l0])
  | succ k1 =>
   have H := HA.out
   clear HA
   simp only [slices_Index_int64_int64P.l0] at H
   by_cases c3 : x8_1 < (l0.length : Int)
   ·
    rw [if_pos c3] at H
    have c3b0 : decide (x8_1 < (l0.length : Int)) = true := decide_eq_true c3
    clear c3
    by_cases c4 : 0 ≤ x8_1
    ·
     rw [if_pos c4] at H
     have c4b0 : decide (0 ≤ x8_1) = true := decide_eq_true c4
     clear c4
     by_cases c5 : x8_1 < (l0.length : Int)
     ·
      rw [if_pos c5] at H
      have c5b0 : decide (x8_1 < (l0.length : Int)) = true := decide_eq_true c5
      clear c5
      by_cases c6 : a1 = (rd l0 x8_1)
      ·
       rw [if_pos c6] at H
       have c6b0 : (a1 == (rd l0 x8_1)) = true := beq_iff_eq.mpr c6
       have c6b1 : (a1 != (rd l0 x8_1)) = false := bne_eq_false_iff_eq.mpr c6
       clear c6
       obtain rfl := Option.some.inj H
       have p105 : 0 ≤ (x8_1 : Int) := of_decide_eq_true (by first | (with_reducible assumption) | assumption)
       have q105 : x8_1 < (l0.length : Int) := of_decide_eq_true (by first | (with_reducible assumption) | assumption)
       obtain ⟨ad105, e105, hx105_0⟩ := Kd.at_int HR0.out x8_1 p105 q105
       cases e105
       replace p105 := eq_true p105
       replace q105 := eq_true q105
       go_wp2
       go_ret
       exact ⟨by first | rfl | (simp; done) | (simp [*]; done), by repeat (first | exact ddR _ | apply ddS)⟩
      ·
       rw [if_neg c6] at H
       have c6b0 : (a1 == (rd l0 x8_1)) = false := beq_eq_false_iff_ne.mpr c6
       have c6b1 : (a1 != (rd l0 x8_1)) = true := bne_iff_ne.mpr c6
       have H' := Aside0.mk H
       clear H
       have p105 : 0 ≤ (x8_1 : Int) := of_decide_eq_true (by first | (with_reducible assumption) | assumption)
       have q105 : x8_1 < (l0.length : Int) := of_decide_eq_true (by first | (with_reducible assumption) | assumption)
       obtain ⟨ad105, e105, hx105_0⟩ := Kd.at_int HR0.out x8_1 p105 q105
       cases e105
       replace p105 := eq_true p105
       replace q105 := eq_true q105
       go_wp2
       go_roundg k1
       case measure => have := HK1.out; omega
       case rel => exact ⟨(wrap64 (x8_1 + 1)), (by first | rfl | (simp; done) | (simp [*]; done)), H', ⟨by have := HK1.out; omega⟩, by repeat (first | exact ddR _ | apply ddS)⟩
     ·
      rw [if_neg c5] at H
      exact absurd H (by simp)
    ·
     rw [if_neg c4] at H
     exact absurd H (by simp)
   ·
    rw [if_neg c3] at H
    have c3b0 : decide (x8_1 < (l0.length : Int)) = false := decide_eq_false c3
    clear c3
    obtain rfl := Option.some.inj H
    go_wp2
    go_ret
    exact ⟨by first | rfl | (simp; done) | (simp [*]; done), by repeat (first | exact ddR _ | apply ddS)⟩

theorem slices_Index_int64_int64P.loop (x0 : List Int) (v : Int) (hb : x0.length ≤ 9223372036854775807) : ∀ (d i : Nat), d + i = x0.length →
    slices_Index_int64_int64P.l0 (d + 1) x0 v (x0.length : Int) (i : Int) = some (idxGo (x0.drop i) v i) := by
  intro d
  induction d with
  | zero =>
    intro i hd
    rw [slices_Index_int64_int64P.l0, if_neg (by omega), List.drop_eq_nil_of_le (by omega)]; rfl
  | succ d ih =>
    intro i hd
    have hi : i < x0.length := by omega
    rw [slices_Index_int64_int64P.l0, if_pos (by omega), if_pos (by omega), if_pos (by omega), show rd x0 (i : Int) = x0[i] from rd_nat hi, List.drop_eq_getElem_cons hi, idxGo]
    by_cases c : v = x0[i]
    · rw [if_pos c, if_pos c]
    · rw [if_neg c, if_neg c, wrap64_of (by unfold I64; omega), show (i : Int) + 1 = ((i + 1 : Nat) : Int) by omega, ih (i + 1) (by omega)]
def slices_Index_int64_int64.f (l0 : List Int) (a1 : Int) : Option Int := some (idxGo l0 a1 0)
theorem slices_Index_int64_int64.calls (A0 : Option Addr) (c0 : Nat) (l0 : List Int) (a1 : Int) (r : Int) (w : World) (hr0 : Kd.C (Kd.int .i64) w A0 l0.length l0) (hc0 : l0.length ≤ c0) (h : slices_Index_int64_int64.f l0 a1 = some r) :
    Calls Try.prog 115 #[.slice A0 l0.length c0, .int .i64 a1] w fun e w' => e = .returned (.int .i64 r) ∧ Drawn0 w w' := by
  refine slices_Index_int64_int64P.calls (l0.length + 1) A0 c0 l0 a1 r w hr0 hc0 (Eq.trans ?_ h)
  have hm := Kd.C_max hr0
  exact slices_Index_int64_int64P.loop l0 a1 hm l0.length 0 (by omega)


/-! ### slices_Max_int64_int64P: function 116 -/
def slices_Max_int64_int64P.l0 : Nat → List Int → Int → Int → Option (Int)
 | 0, _, _, _ => none
 | k + 1, x0, x3, x4 => if x4 < (x0.length : Int) then (if 0 ≤ x4 then (slices_Max_int64_int64P.l0 k x0 (mx x3 (rd x0 x4)) (wrap64 (x4 + 1))) else (none)) else (some x3)
def slices_Max_int64_int64P.f (k : Nat) (l0 : List Int) : Option (Int) := if (l0.length : Int) < 1 then (none) else (if 0 < (l0.length : Int) then (slices_Max_int64_int64P.l0 k l0 (rd l0 0) 1) else (none))
theorem slices_Max_int64_int64P.mono_l : ∀ k, (∀ y0 y1 y2, LeO (slices_Max_int64_int64P.l0 k y0 y1 y2) (slices_Max_int64_int64P.l0 (k + 1) y0 y1 y2))
 | 0 => fun _ _ _ r h => by simp [slices_Max_int64_int64P.l0] at h
 | k + 1 => by
  have ih0 := slices_Max_int64_int64P.mono_l k
  ·
   intro y0 y1 y2
   unfold slices_Max_int64_int64P.l0
   repeat' first
   | (with_reducible exact ih0 _ _ _)
   | (with_reducible exact LeO.refl _)
   | (with_reducible exact LeO.none _)
   | (with_reducible refine LeO.ite ?_ ?_)
   | (with_reducible refine LeO.bind ?_ (fun _ => ?_))
   | exact ih0 _ _ _
   | exact LeO.none _
   | refine LeO.ite ?_ ?_
   | refine LeO.bind ?_ (fun _ => ?_)
theorem slices_Max_int64_int64P.mono : ∀ a0 k, LeO (slices_Max_int64_int64P.f k a0) (slices_Max_int64_int64P.f (k + 1) a0) := by
 intro a0 k
 have ih0 := slices_Max_int64_int64P.mono_l k
 unfold slices_Max_int64_int64P.f
 repeat' first
   | (with_reducible exact ih0 _ _ _)
   | (with_reducible exact LeO.refl _)
   | (with_reducible exact LeO.none _)
   | (with_reducible refine LeO.ite ?_ ?_)
   | (with_reducible refine LeO.bind ?_ (fun _ => ?_))
   | exact ih0 _ _ _
   | exact LeO.none _
   | refine LeO.ite ?_ ?_
   | refine LeO.bind ?_ (fun _ => ?_)
set_option maxHeartbeats 8000000 in
set_option maxRecDepth 100000 in
theorem slices_Max_int64_int64P.calls (k : Nat) (A0 : Option Addr) (c0 : Nat) (l0 : List Int) (r : Int) (w : World) (hr0 : Kd.C (Kd.int .i64) w A0 l0.length l0) (hc0 : l0.length ≤ c0) (h : slices_Max_int64_int64P.f k l0 = some r) :
  Calls Try.prog 116 #[.slice A0 l0.length c0] w fun e w' => e = .returned (.int .i64 r) ∧ Below w.heap.size w w' := by
 have HR0 := Aside0.mk hr0
 have HC0 := Aside0.mk hc0
 clear hr0 hc0
 have HB := Aside0.mk (Below.refl w.heap.size w)
 have H : (if (l0.length : Int) < 1 then (none) else (if 0 < (l0.length : Int) then (slices_Max_int64_int64P.l0 k l0 (rd l0 0) 1) else (none))) = some r := h
 clear h
 by_cases c2 : (l0.length : Int) < 1
 ·
  rw [if_pos c2] at H
  exact absurd H (by simp)
 ·
  rw [if_neg c2] at H
  have c2b0 : decide ((l0.length : Int) < 1) = false := decide_eq_false c2
  have c2b1 : decide (l0.length < 1) = false := decide_eq_false (by omega)
  clear c2
  by_cases c3 : 0 < (l0.length : Int)
  ·
   rw [if_pos c3] at H
   have c3b0 : decide (0 < (l0.length : Int)) = true := decide_eq_true c3
   have c3b1 : decide (0 < l0.length) = true := decide_eq_true (by omega)
   clear c3
   have H' := Aside0.mk H
   clear H
   have p106 : 0 ≤ (0 : Int) := (by omega)
   have q106 : 0 < (l0.length : Int) := of_decide_eq_true (by first | (with_reducible assumption) | assumption)
   obtain ⟨ad106, e106, hx106_0⟩ := Kd.at_int HR0.out 0 p106 q106
   cases e106
   have qi106 : (0 < l0.length) = True := eq_true (by omega)
   (try rw [show ((0 : Int)).toNat = 0 from rfl] at hx106_0)
   (try rw [Addr.add_zero'] at hx106_0)
   replace p106 := eq_true p106
   replace q106 := eq_true q106
   go_enter Try.func116, Try.ntmps116
   go_wp2
   go_loopg [3, 4] k (fun kq v3 v4 w' => ∃ (x3_1 : Int) (x4_1 : Int), v3 = .int .i64 x3_1 ∧ v4 = .int .i64 x4_1 ∧ Aside0 (slices_Max_int64_int64P.l0 kq l0 x3_1 x4_1 = some r) ∧ Aside0 (kq ≤ k) ∧ Aside0 (Below w.heap.size w w'))
   case atStart => exact ⟨(rd l0 0), (1), (by first | rfl | (simp; done) | (simp [*]; done)), (by first | rfl | (simp; done) | (simp [*]; done)), H', ⟨Nat.le_refl _⟩, ⟨by repeat (first | (with_reducible first | exact HB.out | apply zzA | apply zzN | apply zzD) | exact HB.out)⟩⟩
   case round =>
    clear H'
    try clear c1
    try clear p1
    try clear q1
    try clear hx1
    try clear qi1
    try clear c2
    try clear c2b0
    try clear c2b1
    try clear p2
    try clear c3
    try clear c3b0
    try clear c3b1
    try clear hx106_0
    try clear p106
    try clear q106
    obtain ⟨x3_1, x4_1, rfl, rfl, HA, HK1, HB⟩ := hrel
    cases gk with
    | zero => exact absurd HA.out (by simp [slices_Max_int64_int64P.l0])
    | succ k1 =>
     have H := HA.out
     clear HA
     simp only [slices_Max_int64_int64P.l0] at H
     by_cases c4 : x4_1 < (l0.length : Int)
     ·
      rw [if_pos c4] at H
      have c4b0 : decide (x4_1 < (l0.length : Int)) = true := decide_eq_true c4
      clear c4
      by_cases c5 : 0 ≤ x4_1
      ·
       rw [if_pos c5] at H
       have c5b0 : decide (0 ≤ x4_1) = true := decide_eq_true c5
       clear c5
       obtain ⟨ji6, hji6⟩ : ∃ j_ : Int, (mx x3_1 (rd l0 x4_1)) = j_ := ⟨_, rfl⟩
       replace H : (slices_Max_int64_int64P.l0 k1 l0 ji6 (wrap64 (x4_1 + 1))) = some r := by first | (rw [hji6] at H; exact H) | (simp only [hji6] at H ⊢; exact H)
       have hji6_ : (if x3_1 < (rd l0 x4_1) then (rd l0 x4_1) else x3_1) = ji6 := hji6
       have H' := Aside0.mk H
       clear H
       have p107 : 0 ≤ (x4_1 : Int) := of_decide_eq_true (by first | (with_reducible assumption) | assumption)
       have q107 : x4_1 < (l0.length : Int) := of_decide_eq_true (by first | (with_reducible assumption) | assumption)
       obtain ⟨ad107, e107, hx107_0⟩ := Kd.at_int HR0.out x4_1 p107 q107
       obtain rfl : ad106 = ad107 := (by injection e107)
       replace hx107_0 := (HB.out.cell (World.block_lt_of_cell? w _ hx107_0)).trans hx107_0
       replace p107 := eq_true p107
       replace q107 := eq_true q107
       go_wp2
       go_roundg k1
       case measure => have := HK1.out; omega
       case rel => exact ⟨(ji6), (wrap64 (x4_1 + 1)), (by first | rfl | (simp; done) | (simp only [← hji6] <;> (first | rfl | simp)) | (simp [*]; done)), (by first | rfl | (simp; done) | (simp [*]; done)), H', ⟨by have := HK1.out; omega⟩, ⟨by repeat (first | (with_reducible first | exact HB.out | apply zzA | apply zzN | apply zzD) | exact HB.out)⟩⟩
      ·
       rw [if_neg c5] at H
       exact absurd H (by simp)
     ·
      rw [if_neg c4] at H
      have c4b0 : decide (x4_1 < (l0.length : Int)) = false := decide_eq_false c4
      clear c4
      obtain rfl := Option.some.inj H
      go_wp2
      go_ret
      exact ⟨by first | rfl | (simp [errW_none, errW_some] <;> rfl) | (simp [*, errW_none, errW_some] <;> rfl), by repeat (first | (with_reducible first | exact HB.out | apply zzA | apply zzN | apply zzD) | exact HB.out)⟩
  ·
   rw [if_neg c3] at H
   exact absurd H (by simp)

theorem slices_Max_int64_int64P.loop (x0 : List Int) (hb : x0.length ≤ 9223372036854775807) : ∀ (d i : Nat) (m : Int), d + i = x0.length →
    slices_Max_int64_int64P.l0 (d + 1) x0 m (i : Int) = some (maxGo (x0.drop i) m) := by
  intro d
  induction d with
  | zero =>
    intro i m hd
    rw [slices_Max_int64_int64P.l0, if_neg (by omega), List.drop_eq_nil_of_le (by omega)]; rfl
  | succ d ih =>
    intro i m hd
    have hi : i < x0.length := by omega
    rw [slices_Max_int64_int64P.l0, if_pos (by omega), if_pos (by omega), show rd x0 (i : Int) = x0[i] from rd_nat hi, wrap64_of (by unfold I64; omega), show (i : Int) + 1 = ((i + 1 : Nat) : Int) by omega, ih (i + 1) _ (by omega), List.drop_eq_getElem_cons hi]
    rfl
def slices_Max_int64_int64.f (l0 : List Int) : Option Int := if 0 < l0.length then some (maxGo (l0.drop 1) (rd l0 0)) else none
theorem slices_Max_int64_int64.of (l0 : List Int)  (h_ : 0 < l0.length) : slices_Max_int64_int64.f l0 = some (maxGo (l0.drop 1) (rd l0 0)) := if_pos h_
theorem slices_Max_int64_int64.calls (A0 : Option Addr) (c0 : Nat) (l0 : List Int) (r : Int) (w : World) (hr0 : Kd.C (Kd.int .i64) w A0 l0.length l0) (hc0 : l0.length ≤ c0) (h : slices_Max_int64_int64.f l0 = some r) :
    Calls Try.prog 116 #[.slice A0 l0.length c0] w fun e w' => e = .returned (.int .i64 r) ∧ Below w.heap.size w w' := by
  unfold slices_Max_int64_int64.f at h
  split at h
  case isFalse => cases h
  rename_i hl
  refine slices_Max_int64_int64P.calls (l0.length + 1) A0 c0 l0 r w hr0 hc0 (Eq.trans ?_ h)
  have hm := Kd.C_max hr0
  unfold slices_Max_int64_int64P.f
  rw [if_neg (by omega), if_pos (by omega), show (1 : Int) = ((1 : Nat) : Int) from rfl]
  obtain ⟨d, hd⟩ : ∃ d, l0.length = d + 1 := ⟨l0.length - 1, by omega⟩
  have := slices_Max_int64_int64P.loop l0 hm d 1 (rd l0 0) (by omega)
  exact slices_Max_int64_int64P.mono_l _ _ _ _ _ (by rw [hd]; exact this)


/-! ### table_BestP: function 52 -/
def table_BestP.f (l0 : List Int) : Option (Int × Int) := if (l0.length : Int) = 0 then (some (0, 1)) else ((vec_Check.f l0).bind fun t108 => (if t108 = 0 then ((slices_Max_int64_int64.f l0).bind fun t109 => ((slices_Index_int64_int64.f l0 t109).bind fun t110 => (some (t110, 0)))) else (some (0, t108))))
set_option maxHeartbeats 8000000 in
set_option maxRecDepth 100000 in
theorem table_BestP.calls (A0 : Option Addr) (c0 : Nat) (l0 : List Int) (r1 : Int) (r2 : Int) (w : World) (hr0 : Kd.C (Kd.int .i64) w A0 l0.length l0) (hc0 : l0.length ≤ c0) (h : table_BestP.f l0 = some (r1, r2)) :
  Calls Try.prog 52 #[.slice A0 l0.length c0] w fun e w' => e = .returned (.tuple #[.int .i64 r1, .int .i64 r2]) ∧ Below w.heap.size w w' := by
 have HR0 := Aside0.mk hr0
 have HC0 := Aside0.mk hc0
 clear hr0 hc0
 have HB := Aside0.mk (Below.refl w.heap.size w)
 have H : (if (l0.length : Int) = 0 then (some (0, 1)) else ((vec_Check.f l0).bind fun t108 => (if t108 = 0 then ((slices_Max_int64_int64.f l0).bind fun t109 => ((slices_Index_int64_int64.f l0 t109).bind fun t110 => (some (t110, 0)))) else (some (0, t108))))) = some (r1, r2) := h
 clear h
 by_cases c2 : (l0.length : Int) = 0
 ·
  rw [if_pos c2] at H
  have c2b0 : ((l0.length : Int) == 0) = true := beq_iff_eq.mpr c2
  have c2b1 : ((l0.length : Int) != 0) = false := bne_eq_false_iff_eq.mpr c2
  clear c2
  simp only [Option.some.injEq, Prod.mk.injEq] at H
  obtain ⟨rfl, rfl⟩ := H
  go_enter Try.func52, Try.ntmps52
  go_wp2
  go_ret2
  exact ⟨by first | rfl | (simp [errW_none, errW_some] <;> rfl) | (simp [*, errW_none, errW_some] <;> rfl), by repeat (first | (with_reducible first | exact HB.out | apply zzA | apply zzN | apply zzD) | exact HB.out)⟩
 ·
  rw [if_neg c2] at H
  have c2b0 : ((l0.length : Int) == 0) = false := beq_eq_false_iff_ne.mpr c2
  have c2b1 : ((l0.length : Int) != 0) = true := bne_iff_ne.mpr c2
  have c2b2 : ¬ (l0 = []) := fun h_ => c2 (by rw [h_]; rfl)
  replace H := Option.bind_eq_some_iff.mp H
  obtain ⟨t108, A30, H⟩ := H
  replace H : (if t108 = 0 then ((slices_Max_int64_int64.f l0).bind fun t109 => ((slices_Index_int64_int64.f l0 t109).bind fun t110 => (some (t110, 0)))) else (some (0, t108))) = some (r1, r2) := H
  have A3 := Aside0.mk A30
  clear A30
  by_cases c4 : t108 = 0
  ·
   rw [if_pos c4] at H
   have c4b0 : (t108 == 0) = true := beq_iff_eq.mpr c4
   have c4b1 : (t108 != 0) = false := bne_eq_false_iff_eq.mpr c4
   clear c4
   replace H := Option.bind_eq_some_iff.mp H
   obtain ⟨t109, A50, H⟩ := H
   replace H : ((slices_Index_int64_int64.f l0 t109).bind fun t110 => (some (t110, 0))) = some (r1, r2) := H
   have A5 := Aside0.mk A50
   clear A50
   replace H := Option.bind_eq_some_iff.mp H
   obtain ⟨t110, A60, H⟩ := H
   replace H : (some (t110, 0)) = some (r1, r2) := H
   have A6 := Aside0.mk A60
   clear A60
   simp only [Option.some.injEq, Prod.mk.injEq] at H
   obtain ⟨rfl, rfl⟩ := H
   go_enter Try.func52, Try.ntmps52
   go_wp2_with (first | ((with_reducible refine gate_callee (f := 110) rfl ?_); refine goesL_ (some 9) rfl rfl Try.func110 (by kernel_rfl) rfl #[.slice A0 l0.length c0] rfl (by (try simp only [List.map_toArray, List.map_cons, List.map_nil]); first | done | rfl | (simp only [List.length_drop, List.length_take]; rfl)) ?_; (with_reducible refine (vec_Check.calls _ _ l0 t108 _ ?side1 ?side2 A3.out).mono ?_); (case side1 => repeat (first | exact HR0.out | (with_reducible refine ccA ?_ _) | (with_reducible refine ccN ?_ _) | (with_reducible refine ccD ?_))); (case side2 => exact HC0.out); rintro e w' ⟨rfl, ⟨nd, rfl⟩⟩; refine ⟨_, rfl, ?_⟩) | ((with_reducible refine gate_callee (f := 116) rfl ?_); refine goesL_ (some 15) rfl rfl Try.func116 (by kernel_rfl) rfl #[.slice A0 l0.length c0] rfl (by (try simp only [List.map_toArray, List.map_cons, List.map_nil]); first | done | rfl | (simp only [List.length_drop, List.length_take]; rfl)) ?_; (with_reducible refine (slices_Max_int64_int64.calls _ _ l0 t109 _ ?side1 ?side2 A5.out).mono ?_); (case side1 => repeat (first | exact HR0.out | (with_reducible refine ccA ?_ _) | (with_reducible refine ccN ?_ _) | (with_reducible refine ccD ?_))); (case side2 => exact HC0.out); rintro e w7 ⟨rfl, hb⟩; refine ⟨_, rfl, ?_⟩; have n0_ := Aside0.mk (zzT (by repeat (first | (with_reducible first | exact HB.out | apply zzA | apply zzN | apply zzD) | exact HB.out)) hb); clear HB; have HB := n0_; clear n0_; (try clear hb); (try clear hb2); (try clear hk); (try clear hi)) | ((with_reducible refine gate_callee (f := 115) rfl ?_); refine goesL_ (some 16) rfl rfl Try.func115 (by kernel_rfl) rfl #[.slice A0 l0.length c0, .int .i64 t109] rfl (by (try simp only [List.map_toArray, List.map_cons, List.map_nil]); first | done | rfl | (simp only [List.length_drop, List.length_take]; rfl)) ?_; (with_reducible refine (slices_Index_int64_int64.calls _ _ l0 t109 t110 _ ?side1 ?side2 A6.out).mono ?_); (case side1 => repeat (first | exact (Kd.C_below HR0.out HB.out) | (with_reducible refine ccA ?_ _) | (with_reducible refine ccN ?_ _) | (with_reducible refine ccD ?_))); (case side2 => exact HC0.out); rintro e w' ⟨rfl, ⟨nd, rfl⟩⟩; refine ⟨_, rfl, ?_⟩))
   go_ret2
   exact ⟨by first | rfl | (simp [errW_none, errW_some] <;> rfl) | (simp [*, errW_none, errW_some] <;> rfl), by repeat (first | (with_reducible first | exact HB.out | apply zzA | apply zzN | apply zzD) | exact HB.out)⟩
  ·
   rw [if_neg c4] at H
   have c4b0 : (t108 == 0) = false := beq_eq_false_iff_ne.mpr c4
   have c4b1 : (t108 != 0) = true := bne_iff_ne.mpr c4
   simp only [Option.some.injEq, Prod.mk.injEq] at H
   obtain ⟨rfl, rfl⟩ := H
   go_enter Try.func52, Try.ntmps52
   go_wp2_with (first | ((with_reducible refine gate_callee (f := 110) rfl ?_); refine goesL_ (some 9) rfl rfl Try.func110 (by kernel_rfl) rfl #[.slice A0 l0.length c0] rfl (by (try simp only [List.map_toArray, List.map_cons, List.map_nil]); first | done | rfl | (simp only [List.length_drop, List.length_take]; rfl)) ?_; (with_reducible refine (vec_Check.calls _ _ l0 t108 _ ?side1 ?side2 A3.out).mono ?_); (case side1 => repeat (first | exact HR0.out | (with_reducible refine ccA ?_ _) | (with_reducible refine ccN ?_ _) | (with_reducible refine ccD ?_))); (case side2 => exact HC0.out); rintro e w' ⟨rfl, ⟨nd, rfl⟩⟩; refine ⟨_, rfl, ?_⟩))
   go_ret2
   exact ⟨by first | rfl | (simp [errW_none, errW_some] <;> rfl) | (simp [*, errW_none, errW_some] <;> rfl), by repeat (first | (with_reducible first | exact HB.out | apply zzA | apply zzN | apply zzD) | exact HB.out)⟩

def table_Best.f (l0 : List Int) : Option (Int × Int) := some (bestF l0)
theorem table_Best.calls (A0 : Option Addr) (c0 : Nat) (l0 : List Int) (r1 : Int) (r2 : Int) (w : World) (hr0 : Kd.C (Kd.int .i64) w A0 l0.length l0) (hc0 : l0.length ≤ c0) (h : table_Best.f l0 = some (r1, r2)) :
    Calls Try.prog 52 #[.slice A0 l0.length c0] w fun e w' => e = .returned (.tuple #[.int .i64 r1, .int .i64 r2]) ∧ Below w.heap.size w w' := by
  refine table_BestP.calls A0 c0 l0 r1 r2 w hr0 hc0 (Eq.trans ?_ h)
  unfold table_BestP.f table_Best.f bestF
  rw [vec_Check.of]
  simp only [Option.bind_some, checkE]
  by_cases c : l0.length = 0
  · rw [if_pos (by omega), if_pos c]
  · rw [if_neg (by omega), if_neg c]
    by_cases c2 : l0.length > 4096
    · rw [if_pos c2, if_neg (by decide), if_pos c2]
    · rw [if_neg c2, if_pos rfl, if_neg c2]
      unfold slices_Max_int64_int64.f slices_Index_int64_int64.f
      rw [if_pos (by omega)]
      simp only [Option.bind_some]
      rw [idx_max l0 (by omega)]


/-! ### fix_SubP: function 107 -/
def fix_SubP.f (a0 : Int) (a1 : Int) : Option (Int × Int) := if (Go.bits .and .i64 (Go.bits .xor .i64 a0 a1) (Go.bits .xor .i64 a0 (wrap64 (a0 - a1)))) < 0 then (some (0, 2)) else (some (wrap64 (a0 - a1), 0))
set_option maxHeartbeats 8000000 in
set_option maxRecDepth 100000 in
theorem fix_SubP.calls (a0 : Int) (a1 : Int) (r1 : Int) (r2 : Int) (w : World) (h : fix_SubP.f a0 a1 = some (r1, r2)) :
  Calls Try.prog 107 #[.int .i64 a0, .int .i64 a1] w fun e w' => e = .returned (.tuple #[.int .i64 r1, .int .i64 r2]) ∧ Drawn0 w w' := by
 have H : (if (Go.bits .and .i64 (Go.bits .xor .i64 a0 a1) (Go.bits .xor .i64 a0 (wrap64 (a0 - a1)))) < 0 then (some (0, 2)) else (some (wrap64 (a0 - a1), 0))) = some (r1, r2) := h
 clear h
 by_cases c3 : (Go.bits .and .i64 (Go.bits .xor .i64 a0 a1) (Go.bits .xor .i64 a0 (wrap64 (a0 - a1)))) < 0
 ·
  rw [if_pos c3] at H
  have c3b0 : decide ((Go.bits .and .i64 (Go.bits .xor .i64 a0 a1) (Go.bits .xor .i64 a0 (wrap64 (a0 - a1)))) < 0) = true := decide_eq_true c3
  clear c3
  simp only [Option.some.injEq, Prod.mk.injEq] at H
  obtain ⟨rfl, rfl⟩ := H
  go_enter Try.func107, Try.ntmps107
  go_wp2
  go_ret2
  exact ⟨by first | rfl | (simp; done) | (simp [*]; done), by repeat (first | exact ddR _ | apply ddS)⟩
 ·
  rw [if_neg c3] at H
  have c3b0 : decide ((Go.bits .and .i64 (Go.bits .xor .i64 a0 a1) (Go.bits .xor .i64 a0 (wrap64 (a0 - a1)))) < 0) = false := decide_eq_false c3
  clear c3
  simp only [Option.some.injEq, Prod.mk.injEq] at H
  obtain ⟨rfl, rfl⟩ := H
  go_enter Try.func107, Try.ntmps107
  go_wp2
  go_ret2
  exact ⟨by first | rfl | (simp; done) | (simp [*]; done), by repeat (first | exact ddR _ | apply ddS)⟩

def fix_Sub.f (a0 a1 : Int) : Option (Int × Int) := if I64 a0 ∧ I64 a1 then some (res (a0 - a1)) else none
theorem fix_Sub.of (a0 a1 : Int)  (h_ : I64 a0 ∧ I64 a1) : fix_Sub.f a0 a1 = some (res (a0 - a1)) := if_pos h_
theorem fix_Sub.calls (a0 : Int) (a1 : Int) (r1 : Int) (r2 : Int) (w : World) (h : fix_Sub.f a0 a1 = some (r1, r2)) :
    Calls Try.prog 107 #[.int .i64 a0, .int .i64 a1] w fun e w' => e = .returned (.tuple #[.int .i64 r1, .int .i64 r2]) ∧ Drawn0 w w' := by
  unfold fix_Sub.f at h
  split at h
  · rename_i hu
    refine fix_SubP.calls a0 a1 r1 r2 w (Eq.trans ?_ h)
    unfold fix_SubP.f
    have hw := wrap64_i64 (a0 - a1)
    have t := and_neg (xor_i64_i64 a0 a1) (xor_i64_i64 a0 (wrap64 (a0 - a1)))
    rw [xor_neg hu.1 hu.2, xor_neg hu.1 hw] at t
    obtain ⟨h0, h1⟩ := hu
    by_cases c : I64 (a0 - a1)
    · rw [res_of c, wrap64_of c] at *
      rw [if_neg (by rw [t]; omega)]
    · rw [res_not c]
      unfold I64 at h0 h1 c
      rw [if_pos (by rw [t, wrap64_def]; omega)]
  · cases h


/-! ### fix_NegP: function 118 -/
def fix_NegP.f (a0 : Int) : Option (Int × Int) := (fix_Sub.f 0 a0).bind fun bt111 => (some (bt111.1, bt111.2))
set_option maxHeartbeats 8000000 in
set_option maxRecDepth 100000 in
theorem fix_NegP.calls (a0 : Int) (r1 : Int) (r2 : Int) (w : World) (h : fix_NegP.f a0 = some (r1, r2)) :
  Calls Try.prog 118 #[.int .i64 a0] w fun e w' => e = .returned (.tuple #[.int .i64 r1, .int .i64 r2]) ∧ Drawn0 w w' := by
 have H : ((fix_Sub.f 0 a0).bind fun bt111 => (some (bt111.1, bt111.2))) = some (r1, r2) := h
 clear h
 replace H := Option.bind_eq_some_iff.mp H
 obtain ⟨⟨t111, t112⟩, A20, H⟩ := H
 replace H : (some (t111, t112)) = some (r1, r2) := H
 have A2 := Aside0.mk A20
 clear A20
 simp only [Option.some.injEq, Prod.mk.injEq] at H
 obtain ⟨rfl, rfl⟩ := H
 go_enter Try.func118, Try.ntmps118
 go_wp2_with (first | ((with_reducible refine gate_callee (f := 107) rfl ?_); refine goesL_ (some 5) rfl rfl Try.func107 (by kernel_rfl) rfl #[.int .i64 0, .int .i64 a0] rfl (by (try simp only [List.map_toArray, List.map_cons, List.map_nil]); first | done | rfl | (simp only [List.length_drop, List.length_take]; rfl)) ?_; (with_reducible refine (fix_Sub.calls 0 a0 t111 t112 _ A2.out).mono ?_); rintro e w' ⟨rfl, ⟨nd, rfl⟩⟩; refine ⟨_, rfl, ?_⟩))
 go_ret2
 exact ⟨by first | rfl | (simp; done) | (simp [*]; done), by repeat (first | exact ddR _ | apply ddS)⟩

def fix_Neg.f (a0 : Int) : Option (Int × Int) := if I64 a0 then some (res (-a0)) else none
theorem fix_Neg.of (a0 : Int)  (h_ : I64 a0) : fix_Neg.f a0 = some (res (-a0)) := if_pos h_
theorem fix_Neg.calls (a0 : Int) (r1 : Int) (r2 : Int) (w : World) (h : fix_Neg.f a0 = some (r1, r2)) :
    Calls Try.prog 118 #[.int .i64 a0] w fun e w' => e = .returned (.tuple #[.int .i64 r1, .int .i64 r2]) ∧ Drawn0 w w' := by
  unfold fix_Neg.f at h
  split at h
  · rename_i hu
    refine fix_NegP.calls a0 r1 r2 w (Eq.trans ?_ h)
    unfold fix_NegP.f fix_Sub.f
    rw [if_pos ⟨i64_zero, hu⟩]; simp
  · cases h


-- NOT PRINTED: function 161 (math_sqrt)

/-! ### math_Sqrt: function 117 -/
theorem sqrt_enters (x : Nat) (w : World) : ∃ (r m : Nat), (callFunc 161 #[.float .f64 x]).run Try.prog w = .ok (.value (.float .f64 r)) (w.drewN m) :=
  run_sqrt Try.func161 rfl rfl (by kernel_rfl) (by kernel_rfl) x w
set_option maxHeartbeats 2000000 in
set_option maxRecDepth 100000 in
theorem math_Sqrt.calls (x : Nat) (w : World) : Calls Try.prog 117 #[.float .f64 x] w fun e w' => (∃ r : Nat, e = .returned (.float .f64 r)) ∧ Drawn0 w w' := by
  obtain ⟨r, m, hs⟩ := sqrt_enters x w
  go_enter Try.func117, Try.ntmps117
  go_wp2
  go_ret
  exact ⟨⟨r, rfl⟩, ⟨_, rfl⟩⟩


end Go.Proofs.Ytfbdalnjijdknaa.HS
