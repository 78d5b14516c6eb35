/- What Go functions do, each as a plain Lean function with the same answers, and the proof of it, in every world: printed by the session's driver over the kit's print, with texts by hand. -/
import Derived.Test.YtkfhdpnfcaghbaaHQx0
import Derived.Test.YtkfhdpnfcaghbaaHQx3
namespace Go.Proofs.Ytkfhdpnfcaghbaa.HQ
open Go.RowKit Go.Proofs.YtkfhdpnfcaghbaaW.PrintWords Go.Proofs.YtkfhdpnfcaghbaaW.PrintLast Go.Proofs.YtkfhdpnfcaghbaaW.PrintMore
attribute [local go_sem] max2_int min2_int max_two min_two max_three min_three max_four min_four   -- for this text's walks alone
open Go.Proofs.Ytkfhdpnfcaghbaa.Sp
attribute [local go_sem] Go.Proofs.Ytkfhdpnfcaghbaa.Sp.u64_not
set_option linter.unusedVariables false
set_option linter.unusedSimpArgs false

/-! ### vec_MostP: function 65 -/
def vec_MostP.l0 : Nat → Int → List Int → Int → Int → Option (Int × Int)
 | 0, _, _, _, _ => none
 | k + 1, x2, x14, x15, x16 => if x16 < x15 then (if 0 ≤ x16 then (if x16 < (x14.length : Int) then ((fix_Abs.f (rd x14 x16)).bind fun bt117 => (if bt117.2 = 0 then (vec_MostP.l0 k (mx x2 bt117.1) x14 x15 (wrap64 (x16 + 1))) else (some (0, bt117.2)))) else (none)) else (none)) else (some (x2, 0))
def vec_MostP.f (k : Nat) (l0 : List Int) : Option (Int × Int) := (vec_Check.f l0).bind fun t115 => (if t115 = 0 then (vec_MostP.l0 k 0 l0 (l0.length : Int) 0) else (some (0, t115)))
theorem vec_MostP.mono_l : ∀ k, (∀ y0 y1 y2 y3, LeO (vec_MostP.l0 k y0 y1 y2 y3) (vec_MostP.l0 (k + 1) y0 y1 y2 y3))
 | 0 => fun _ _ _ _ r h => by simp [vec_MostP.l0] at h
 | k + 1 => by
  have ih0 := vec_MostP.mono_l k
  ·
   intro y0 y1 y2 y3
   unfold vec_MostP.l0
   repeat' first
   | (with_reducible exact ih0 _ _ _ _)
   | (with_reducible exact LeO.refl _)
   | (with_reducible exact LeO.none _)
   | (with_reducible refine LeO.ite ?_ ?_)
   | (with_reducible refine LeO.bind ?_ (fun _ => ?_))
   | exact ih0 _ _ _ _
   | exact LeO.none _
   | refine LeO.ite ?_ ?_
   | refine LeO.bind ?_ (fun _ => ?_)
theorem vec_MostP.mono : ∀ a0 k, LeO (vec_MostP.f k a0) (vec_MostP.f (k + 1) a0) := by
 intro a0 k
 have ih0 := vec_MostP.mono_l k
 unfold vec_MostP.f
 repeat' first
   | (with_reducible exact ih0 _ _ _ _)
   | (with_reducible exact LeO.refl _)
   | (with_reducible exact LeO.none _)
   | (with_reducible refine LeO.ite ?_ ?_)
   | (with_reducible refine LeO.bind ?_ (fun _ => ?_))
   | exact ih0 _ _ _ _
   | exact LeO.none _
   | refine LeO.ite ?_ ?_
   | refine LeO.bind ?_ (fun _ => ?_)
set_option maxHeartbeats 8000000 in
set_option maxRecDepth 100000 in
theorem vec_MostP.calls (k : Nat) (A0 : Option Addr) (c0 : Nat) (l0 : List Int) (r1 : Int) (r2 : Int) (w : World) (hr0 : Kd.C (Kd.int .i64) w A0 l0.length l0) (hc0 : l0.length ≤ c0) (h : vec_MostP.f k l0 = some (r1, r2)) :
  Calls Try.prog 65 #[.slice A0 l0.length c0] w fun e w' => e = .returned (.tuple #[.int .i64 r1, .int .i64 r2]) ∧ Below w.heap.size w w' := by
 have HR0 := Aside0.mk hr0
 have HC0 := Aside0.mk hc0
 clear hr0 hc0
 have HB := Aside0.mk (Below.refl w.heap.size w)
 have H : ((vec_Check.f l0).bind fun t115 => (if t115 = 0 then (vec_MostP.l0 k 0 l0 (l0.length : Int) 0) else (some (0, t115)))) = some (r1, r2) := h
 clear h
 replace H := Option.bind_eq_some_iff.mp H
 obtain ⟨t115, A20, H⟩ := H
 replace H : (if t115 = 0 then (vec_MostP.l0 k 0 l0 (l0.length : Int) 0) else (some (0, t115))) = some (r1, r2) := H
 have A2 := Aside0.mk A20
 clear A20
 by_cases c3 : t115 = 0
 ·
  rw [if_pos c3] at H
  have c3b0 : (t115 == 0) = true := beq_iff_eq.mpr c3
  have c3b1 : (t115 != 0) = false := bne_eq_false_iff_eq.mpr c3
  clear c3
  have H' := Aside0.mk H
  clear H
  go_enter Try.func65, Try.ntmps65
  go_wp2_with (first | ((with_reducible refine gate_callee (f := 95) rfl ?_); refine goesL_ (some 10) rfl rfl Try.func95 (by kernel_rfl) rfl #[.slice A0 l0.length c0] rfl (by (try simp only [List.map_toArray, List.map_cons, List.map_nil]); first | done | rfl | (simp only [List.length_drop, List.length_take]; rfl)) ?_; (with_reducible refine (vec_Check.calls _ _ l0 t115 _ ?side1 ?side2 A2.out).mono ?_); (case side1 => repeat (first | exact HR0.out | (with_reducible refine ccA ?_ _) | (with_reducible refine ccN ?_ _) | (with_reducible refine ccD ?_))); (case side2 => exact HC0.out); rintro e w' ⟨rfl, ⟨nd, rfl⟩⟩; refine ⟨_, rfl, ?_⟩))
  go_loopg [2, 16] k (fun kq v2 v16 w' => ∃ (x2_1 : Int) (x16_1 : Int), v2 = .int .i64 x2_1 ∧ v16 = .int .i64 x16_1 ∧ Aside0 (vec_MostP.l0 kq x2_1 l0 (l0.length : Int) x16_1 = some (r1, r2)) ∧ Aside0 (kq ≤ k) ∧ Aside0 (Below w.heap.size w w'))
  case atStart => exact ⟨(0), (0), (by first | rfl | (simp; done) | (simp [*]; done)), (by first | rfl | (simp; done) | (simp [*]; done)), H', ⟨Nat.le_refl _⟩, ⟨by repeat (first | (with_reducible first | exact HB.out | apply zzA | apply zzN | apply zzD) | exact HB.out)⟩⟩
  case round =>
   clear H'
   try clear p2
   try clear c3
   try clear c3b0
   try clear c3b1
   obtain ⟨x2_1, x16_1, rfl, rfl, HA, HK1, HB⟩ := hrel
   cases gk with
   | zero => exact absurd HA.out (by simp [vec_MostP.l0])
   | succ k1 =>
    have H := HA.out
    clear HA
    simp only [vec_MostP.l0] at H
    by_cases c4 : x16_1 < (l0.length : Int)
    ·
     rw [if_pos c4] at H
     have c4b0 : decide (x16_1 < (l0.length : Int)) = true := decide_eq_true c4
     clear c4
     by_cases c5 : 0 ≤ x16_1
     ·
      rw [if_pos c5] at H
      have c5b0 : decide (0 ≤ x16_1) = true := decide_eq_true c5
      clear c5
      by_cases c6 : x16_1 < (l0.length : Int)
      ·
       rw [if_pos c6] at H
       have c6b0 : decide (x16_1 < (l0.length : Int)) = true := decide_eq_true c6
       clear c6
       replace H := Option.bind_eq_some_iff.mp H
       obtain ⟨⟨t117, t118⟩, A70, H⟩ := H
       replace H : (if t118 = 0 then (vec_MostP.l0 k1 (mx x2_1 t117) l0 (l0.length : Int) (wrap64 (x16_1 + 1))) else (some (0, t118))) = some (r1, r2) := H
       have A7 := Aside0.mk A70
       clear A70
       by_cases c8 : t118 = 0
       ·
        rw [if_pos c8] at H
        have c8b0 : (t118 == 0) = true := beq_iff_eq.mpr c8
        have c8b1 : (t118 != 0) = false := bne_eq_false_iff_eq.mpr c8
        clear c8
        obtain ⟨ji9, hji9⟩ : ∃ j_ : Int, (mx x2_1 t117) = j_ := ⟨_, rfl⟩
        replace H : (vec_MostP.l0 k1 ji9 l0 (l0.length : Int) (wrap64 (x16_1 + 1))) = some (r1, r2) := by first | (rw [hji9] at H; exact H) | (simp only [hji9] at H ⊢; exact H)
        (try rw [hji9] at A7)
        have hji9_ : (if x2_1 < t117 then t117 else x2_1) = ji9 := hji9
        have H' := Aside0.mk H
        clear H
        have p116 : 0 ≤ (x16_1 : Int) := of_decide_eq_true (by first | (with_reducible assumption) | assumption)
        have q116 : x16_1 < (l0.length : Int) := of_decide_eq_true (by first | (with_reducible assumption) | assumption)
        obtain ⟨ad116, e116, hx116_0⟩ := Kd.at_int HR0.out x16_1 p116 q116
        cases e116
        replace hx116_0 := (HB.out.cell (World.block_lt_of_cell? w _ hx116_0)).trans hx116_0
        replace p116 := eq_true p116
        replace q116 := eq_true q116
        go_wp2_with (first | ((with_reducible refine gate_callee (f := 98) rfl ?_); refine goesL_ (some 22) rfl rfl Try.func98 (by kernel_rfl) rfl #[.int .i64 (rd l0 x16_1)] rfl (by (try simp only [List.map_toArray, List.map_cons, List.map_nil]); first | done | rfl | (simp only [List.length_drop, List.length_take]; rfl)) ?_; (with_reducible refine (fix_Abs.calls (rd l0 x16_1) t117 t118 _ A7.out).mono ?_); rintro e w' ⟨rfl, ⟨nd, rfl⟩⟩; refine ⟨_, rfl, ?_⟩))
        go_roundg k1
        case measure => have := HK1.out; omega
        case rel => exact ⟨(ji9), (wrap64 (x16_1 + 1)), (by first | rfl | (simp; done) | (simp only [← hji9] <;> (first | rfl | simp)) | (simp [*]; done)), (by first | rfl | (simp; done) | (simp [*]; done)), H', ⟨by have := HK1.out; omega⟩, ⟨by repeat (first | (with_reducible first | exact HB.out | apply zzA | apply zzN | apply zzD) | exact HB.out)⟩⟩
       ·
        rw [if_neg c8] at H
        have c8b0 : (t118 == 0) = false := beq_eq_false_iff_ne.mpr c8
        have c8b1 : (t118 != 0) = true := bne_iff_ne.mpr c8
        simp only [Option.some.injEq, Prod.mk.injEq] at H
        obtain ⟨rfl, rfl⟩ := H
        have p116 : 0 ≤ (x16_1 : Int) := of_decide_eq_true (by first | (with_reducible assumption) | assumption)
        have q116 : x16_1 < (l0.length : Int) := of_decide_eq_true (by first | (with_reducible assumption) | assumption)
        obtain ⟨ad116, e116, hx116_0⟩ := Kd.at_int HR0.out x16_1 p116 q116
        cases e116
        replace hx116_0 := (HB.out.cell (World.block_lt_of_cell? w _ hx116_0)).trans hx116_0
        replace p116 := eq_true p116
        replace q116 := eq_true q116
        go_wp2_with (first | ((with_reducible refine gate_callee (f := 98) rfl ?_); refine goesL_ (some 22) rfl rfl Try.func98 (by kernel_rfl) rfl #[.int .i64 (rd l0 x16_1)] rfl (by (try simp only [List.map_toArray, List.map_cons, List.map_nil]); first | done | rfl | (simp only [List.length_drop, List.length_take]; rfl)) ?_; (with_reducible refine (fix_Abs.calls (rd l0 x16_1) t117 t118 _ A7.out).mono ?_); rintro e w' ⟨rfl, ⟨nd, rfl⟩⟩; refine ⟨_, rfl, ?_⟩))
        go_ret2
        exact ⟨by first | rfl | (simp [errW_none, errW_some] <;> rfl) | (simp [*, errW_none, errW_some] <;> rfl), by repeat (first | (with_reducible first | exact HB.out | apply zzA | apply zzN | apply zzD) | exact HB.out)⟩
      ·
       rw [if_neg c6] at H
       exact absurd H (by simp)
     ·
      rw [if_neg c5] at H
      exact absurd H (by simp)
    ·
     rw [if_neg c4] at H
     have c4b0 : decide (x16_1 < (l0.length : Int)) = false := decide_eq_false c4
     clear c4
     simp only [Option.some.injEq, Prod.mk.injEq] at H
     obtain ⟨rfl, rfl⟩ := H
     go_wp2
     go_ret2
     exact ⟨by first | rfl | (simp [errW_none, errW_some] <;> rfl) | (simp [*, errW_none, errW_some] <;> rfl), by repeat (first | (with_reducible first | exact HB.out | apply zzA | apply zzN | apply zzD) | exact HB.out)⟩
 ·
  rw [if_neg c3] at H
  have c3b0 : (t115 == 0) = false := beq_eq_false_iff_ne.mpr c3
  have c3b1 : (t115 != 0) = true := bne_iff_ne.mpr c3
  simp only [Option.some.injEq, Prod.mk.injEq] at H
  obtain ⟨rfl, rfl⟩ := H
  go_enter Try.func65, Try.ntmps65
  go_wp2_with (first | ((with_reducible refine gate_callee (f := 95) rfl ?_); refine goesL_ (some 10) rfl rfl Try.func95 (by kernel_rfl) rfl #[.slice A0 l0.length c0] rfl (by (try simp only [List.map_toArray, List.map_cons, List.map_nil]); first | done | rfl | (simp only [List.length_drop, List.length_take]; rfl)) ?_; (with_reducible refine (vec_Check.calls _ _ l0 t115 _ ?side1 ?side2 A2.out).mono ?_); (case side1 => repeat (first | exact HR0.out | (with_reducible refine ccA ?_ _) | (with_reducible refine ccN ?_ _) | (with_reducible refine ccD ?_))); (case side2 => exact HC0.out); rintro e w' ⟨rfl, ⟨nd, rfl⟩⟩; refine ⟨_, rfl, ?_⟩))
  go_ret2
  exact ⟨by first | rfl | (simp [errW_none, errW_some] <;> rfl) | (simp [*, errW_none, errW_some] <;> rfl), by repeat (first | (with_reducible first | exact HB.out | apply zzA | apply zzN | apply zzD) | exact HB.out)⟩

theorem vec_MostP.loop (x0 : List Int) (hv : V64 x0) (hb : x0.length ≤ 4096) : ∀ (d i : Nat) (m : Int), d + i = x0.length →
    vec_MostP.l0 (d + 1) m x0 (x0.length : Int) (i : Int) = some (mostGo ((x0.drop i).map absF) m) := by
  intro d
  induction d with
  | zero =>
    intro i m hd
    rw [vec_MostP.l0, if_neg (by omega), List.drop_eq_nil_of_le (by omega)]; rfl
  | succ d ih =>
    intro i m hd
    have hi : i < x0.length := by omega
    rw [vec_MostP.l0, if_pos (by omega), if_pos (by omega), if_pos (by omega), fix_Abs.of _ (hv.rd _), List.drop_eq_getElem_cons hi, show rd x0 (i : Int) = x0[i] from rd_nat hi]
    simp only [Option.bind_some, List.map_cons, mostGo]
    by_cases c : (absF x0[i]).2 = 0
    · rw [if_pos c, if_pos (show (res (x0[i].natAbs : Int)).2 = 0 from c), wrap64_of (by unfold I64; omega), show (i : Int) + 1 = ((i + 1 : Nat) : Int) by omega]
      exact ih (i + 1) _ (by omega)
    · rw [if_neg c, if_neg (show ¬ (res (x0[i].natAbs : Int)).2 = 0 from c)]; rfl
def vec_Most.f (l0 : List Int) : Option (Int × Int) := if V64 l0 then some (mostV l0) else none
theorem vec_Most.of (l0 : List Int)  (h_ : V64 l0) : vec_Most.f l0 = some (mostV l0) := if_pos h_
theorem vec_Most.calls (A0 : Option Addr) (c0 : Nat) (l0 : List Int) (r1 : Int) (r2 : Int) (w : World) (hr0 : Kd.C (Kd.int .i64) w A0 l0.length l0) (hc0 : l0.length ≤ c0) (h : vec_Most.f l0 = some (r1, r2)) :
    Calls Try.prog 65 #[.slice A0 l0.length c0] w fun e w' => e = .returned (.tuple #[.int .i64 r1, .int .i64 r2]) ∧ Below w.heap.size w w' := by
  unfold vec_Most.f at h
  split at h
  case isFalse => cases h
  rename_i hv
  refine vec_MostP.calls (l0.length + 1) A0 c0 l0 r1 r2 w hr0 hc0 (Eq.trans ?_ h)
  unfold vec_MostP.f mostV
  rw [vec_Check.of]
  simp only [Option.bind_some]
  by_cases c : checkE l0 = 0
  · rw [if_pos c, if_pos c]
    exact vec_MostP.loop l0 hv (checkE_le c) l0.length 0 0 (by omega)
  · rw [if_neg c, if_neg c]


/-! ### draw_stir_with: function 131 -/
def draw_stir_with.f (a0 : Int) (a1 : Int) : Option (Int) := some (Go.bits .xor .u64 (IntKind.u64.wrap ((Go.bits .xor .u64 a0 (IntKind.u64.wrap (a1))) * 11400714819323198485)) ((IntKind.u64.wrap ((Go.bits .xor .u64 a0 (IntKind.u64.wrap (a1))) * 11400714819323198485)) / 536870912))
set_option maxHeartbeats 8000000 in
set_option maxRecDepth 100000 in
theorem draw_stir_with.calls (a0 : Int) (a1 : Int) (r : Int) (w : World) (h : draw_stir_with.f a0 a1 = some r) :
  Calls Try.prog 131 #[.int .u64 a0, .int .i64 a1] w fun e w' => e = .returned (.int .u64 r) ∧ Drawn0 w w' := by
 have H : (some (Go.bits .xor .u64 (IntKind.u64.wrap ((Go.bits .xor .u64 a0 (IntKind.u64.wrap (a1))) * 11400714819323198485)) ((IntKind.u64.wrap ((Go.bits .xor .u64 a0 (IntKind.u64.wrap (a1))) * 11400714819323198485)) / 536870912))) = some r := h
 clear h
 obtain rfl := Option.some.inj H
 go_enter Try.func131, Try.ntmps131
 go_wp2
 go_ret
 exact ⟨by first | rfl | (simp; done) | (simp [*]; done), by repeat (first | exact ddR _ | apply ddS)⟩

/-! ### draw_over: function 128 -/
def draw_over.l0 : Nat → Int → List Int → Int → Int → Option (Int)
 | 0, _, _, _, _ => none
 | k + 1, x5, x9, x10, x11 => if x11 < x10 then (if 0 ≤ x11 then (if x11 < (x9.length : Int) then ((draw_stir_with.f x5 (rd x9 x11)).bind fun t120 => (draw_over.l0 k t120 x9 x10 (wrap64 (x11 + 1)))) else (none)) else (none)) else (some x5)
def draw_over.f (k : Nat) (a0 : Int) (l1 : List Int) : Option (Int) := draw_over.l0 k a0 l1 (l1.length : Int) 0
theorem draw_over.mono_l : ∀ k, (∀ y0 y1 y2 y3, LeO (draw_over.l0 k y0 y1 y2 y3) (draw_over.l0 (k + 1) y0 y1 y2 y3))
 | 0 => fun _ _ _ _ r h => by simp [draw_over.l0] at h
 | k + 1 => by
  have ih0 := draw_over.mono_l k
  ·
   intro y0 y1 y2 y3
   unfold draw_over.l0
   repeat' first
   | (with_reducible exact ih0 _ _ _ _)
   | (with_reducible exact LeO.refl _)
   | (with_reducible exact LeO.none _)
   | (with_reducible refine LeO.ite ?_ ?_)
   | (with_reducible refine LeO.bind ?_ (fun _ => ?_))
   | exact ih0 _ _ _ _
   | exact LeO.none _
   | refine LeO.ite ?_ ?_
   | refine LeO.bind ?_ (fun _ => ?_)
theorem draw_over.mono : ∀ a0 a1 k, LeO (draw_over.f k a0 a1) (draw_over.f (k + 1) a0 a1) := by
 intro a0 a1 k
 have ih0 := draw_over.mono_l k
 unfold draw_over.f
 repeat' first
   | (with_reducible exact ih0 _ _ _ _)
   | (with_reducible exact LeO.refl _)
   | (with_reducible exact LeO.none _)
   | (with_reducible refine LeO.ite ?_ ?_)
   | (with_reducible refine LeO.bind ?_ (fun _ => ?_))
   | exact ih0 _ _ _ _
   | exact LeO.none _
   | refine LeO.ite ?_ ?_
   | refine LeO.bind ?_ (fun _ => ?_)
set_option maxHeartbeats 8000000 in
set_option maxRecDepth 100000 in
theorem draw_over.calls (k : Nat) (a0 : Int) (A1 : Option Addr) (c1 : Nat) (l1 : List Int) (r : Int) (w : World) (hr1 : Kd.C (Kd.int .i64) w A1 l1.length l1) (hc1 : l1.length ≤ c1) (h : draw_over.f k a0 l1 = some r) :
  Calls Try.prog 128 #[.int .u64 a0, .slice A1 l1.length c1] w fun e w' => e = .returned (.int .u64 r) ∧ Drawn0 w w' := by
 have HR1 := Aside0.mk hr1
 have HC1 := Aside0.mk hc1
 clear hr1 hc1
 have H : (draw_over.l0 k a0 l1 (l1.length : Int) 0) = some r := h
 clear h
 have H' := Aside0.mk H
 clear H
 go_enter Try.func128, Try.ntmps128
 go_wp2
 go_loopg [5, 11] k (fun kq v5 v11 w' => ∃ (x5_1 : Int) (x11_1 : Int), v5 = .int .u64 x5_1 ∧ v11 = .int .i64 x11_1 ∧ Aside0 (draw_over.l0 kq x5_1 l1 (l1.length : Int) x11_1 = some r) ∧ Aside0 (kq ≤ k) ∧ Drawn0 w w')
 case atStart => exact ⟨(a0), (0), (by first | rfl | (simp; done) | (simp [*]; done)), (by first | rfl | (simp; done) | (simp [*]; done)), H', ⟨Nat.le_refl _⟩, by repeat (first | exact ddR _ | apply ddS)⟩
 case round =>
  clear H'
  try clear c1
  try clear p2
  obtain ⟨x5_1, x11_1, rfl, rfl, HA, HK1, ⟨m1, rfl⟩⟩ := hrel
  cases gk with
  | zero => exact absurd HA.out (by simp [draw_over.l0])
  | succ k1 =>
   have H := HA.out
   clear HA
   simp only [draw_over.l0] at H
   by_cases c3 : x11_1 < (l1.length : Int)
   ·
    rw [if_pos c3] at H
    have c3b0 : decide (x11_1 < (l1.length : Int)) = true := decide_eq_true c3
    clear c3
    by_cases c4 : 0 ≤ x11_1
    ·
     rw [if_pos c4] at H
     have c4b0 : decide (0 ≤ x11_1) = true := decide_eq_true c4
     clear c4
     by_cases c5 : x11_1 < (l1.length : Int)
     ·
      rw [if_pos c5] at H
      have c5b0 : decide (x11_1 < (l1.length : Int)) = true := decide_eq_true c5
      clear c5
      replace H := Option.bind_eq_some_iff.mp H
      obtain ⟨t120, A60, H⟩ := H
      replace H : (draw_over.l0 k1 t120 l1 (l1.length : Int) (wrap64 (x11_1 + 1))) = some r := H
      have A6 := Aside0.mk A60
      clear A60
      have H' := Aside0.mk H
      clear H
      have p119 : 0 ≤ (x11_1 : Int) := of_decide_eq_true (by first | (with_reducible assumption) | assumption)
      have q119 : x11_1 < (l1.length : Int) := of_decide_eq_true (by first | (with_reducible assumption) | assumption)
      obtain ⟨ad119, e119, hx119_0⟩ := Kd.at_int HR1.out x11_1 p119 q119
      cases e119
      replace p119 := eq_true p119
      replace q119 := eq_true q119
      go_wp2_with (first | ((with_reducible refine gate_callee (f := 131) rfl ?_); refine goesL_ (some 17) rfl rfl Try.func131 (by kernel_rfl) rfl #[.int .u64 x5_1, .int .i64 (rd l1 x11_1)] rfl (by (try simp only [List.map_toArray, List.map_cons, List.map_nil]); first | done | rfl | (simp only [List.length_drop, List.length_take]; rfl)) ?_; (with_reducible refine (draw_stir_with.calls x5_1 (rd l1 x11_1) t120 _ A6.out).mono ?_); rintro e w' ⟨rfl, ⟨nd, rfl⟩⟩; refine ⟨_, rfl, ?_⟩))
      go_roundg k1
      case measure => have := HK1.out; omega
      case rel => exact ⟨(t120), (wrap64 (x11_1 + 1)), (by first | rfl | (simp; done) | (simp [*]; done)), (by first | rfl | (simp; done) | (simp [*]; done)), H', ⟨by have := HK1.out; omega⟩, by repeat (first | exact ddR _ | apply ddS)⟩
     ·
      rw [if_neg c5] at H
      exact absurd H (by simp)
    ·
     rw [if_neg c4] at H
     exact absurd H (by simp)
   ·
    rw [if_neg c3] at H
    have c3b0 : decide (x11_1 < (l1.length : Int)) = false := decide_eq_false c3
    clear c3
    obtain rfl := Option.some.inj H
    go_wp2
    go_ret
    exact ⟨by first | rfl | (simp; done) | (simp [*]; done), by repeat (first | exact ddR _ | apply ddS)⟩

/-! ### draw_stir_end: function 129 -/
def draw_stir_end.f (a0 : Int) : Option (Int) := some (Go.bits .xor .u64 (IntKind.u64.wrap (a0 * 13787848793156543929)) ((IntKind.u64.wrap (a0 * 13787848793156543929)) / 4294967296))
set_option maxHeartbeats 8000000 in
set_option maxRecDepth 100000 in
theorem draw_stir_end.calls (a0 : Int) (r : Int) (w : World) (h : draw_stir_end.f a0 = some r) :
  Calls Try.prog 129 #[.int .u64 a0] w fun e w' => e = .returned (.int .u64 r) ∧ Drawn0 w w' := by
 have H : (some (Go.bits .xor .u64 (IntKind.u64.wrap (a0 * 13787848793156543929)) ((IntKind.u64.wrap (a0 * 13787848793156543929)) / 4294967296))) = some r := h
 clear h
 obtain rfl := Option.some.inj H
 go_enter Try.func129, Try.ntmps129
 go_wp2
 go_ret
 exact ⟨by first | rfl | (simp; done) | (simp [*]; done), by repeat (first | exact ddR _ | apply ddS)⟩

/-! ### draw_At: function 120 -/
def draw_At.f (k : Nat) (a0 : Int) (l1 : List Int) : Option (Int) := (draw_over.f k a0 l1).bind fun t121 => ((draw_stir_end.f t121).bind fun t122 => (some t122))
theorem draw_At.mono : ∀ a0 a1 k, LeO (draw_At.f k a0 a1) (draw_At.f (k + 1) a0 a1) := by
 intro a0 a1 k
 unfold draw_At.f
 repeat' first
   | (with_reducible exact draw_over.mono _ _ _)
   | (with_reducible exact LeO.refl _)
   | (with_reducible exact LeO.none _)
   | (with_reducible refine LeO.ite ?_ ?_)
   | (with_reducible refine LeO.bind ?_ (fun _ => ?_))
   | exact draw_over.mono _ _ _
   | exact LeO.none _
   | refine LeO.ite ?_ ?_
   | refine LeO.bind ?_ (fun _ => ?_)
set_option maxHeartbeats 8000000 in
set_option maxRecDepth 100000 in
theorem draw_At.calls (k : Nat) (a0 : Int) (A1 : Option Addr) (c1 : Nat) (l1 : List Int) (r : Int) (w : World) (hr1 : Kd.C (Kd.int .i64) w A1 l1.length l1) (hc1 : l1.length ≤ c1) (h : draw_At.f k a0 l1 = some r) :
  Calls Try.prog 120 #[.int .u64 a0, .slice A1 l1.length c1] w fun e w' => e = .returned (.int .u64 r) ∧ Drawn0 w w' := by
 have HR1 := Aside0.mk hr1
 have HC1 := Aside0.mk hc1
 clear hr1 hc1
 have H : ((draw_over.f k a0 l1).bind fun t121 => ((draw_stir_end.f t121).bind fun t122 => (some t122))) = some r := h
 clear h
 replace H := Option.bind_eq_some_iff.mp H
 obtain ⟨t121, A30, H⟩ := H
 replace H : ((draw_stir_end.f t121).bind fun t122 => (some t122)) = some r := H
 have A3 := Aside0.mk A30
 clear A30
 replace H := Option.bind_eq_some_iff.mp H
 obtain ⟨t122, A40, H⟩ := H
 replace H : (some t122) = some r := H
 have A4 := Aside0.mk A40
 clear A40
 obtain rfl := Option.some.inj H
 go_enter Try.func120, Try.ntmps120
 go_wp2_with (first | ((with_reducible refine gate_callee (f := 128) rfl ?_); refine goesL_ (some 7) rfl rfl Try.func128 (by kernel_rfl) rfl #[.int .u64 a0, .slice A1 l1.length c1] rfl (by (try simp only [List.map_toArray, List.map_cons, List.map_nil]); first | done | rfl | (simp only [List.length_drop, List.length_take]; rfl)) ?_; (with_reducible refine (draw_over.calls k a0 _ _ l1 t121 _ ?side1 ?side2 A3.out).mono ?_); (case side1 => repeat (first | exact HR1.out | (with_reducible refine ccA ?_ _) | (with_reducible refine ccN ?_ _) | (with_reducible refine ccD ?_))); (case side2 => exact HC1.out); rintro e w' ⟨rfl, ⟨nd, rfl⟩⟩; refine ⟨_, rfl, ?_⟩) | ((with_reducible refine gate_callee (f := 129) rfl ?_); refine goesL_ (some 8) rfl rfl Try.func129 (by kernel_rfl) rfl #[.int .u64 t121] rfl (by (try simp only [List.map_toArray, List.map_cons, List.map_nil]); first | done | rfl | (simp only [List.length_drop, List.length_take]; rfl)) ?_; (with_reducible refine (draw_stir_end.calls t121 t122 _ A4.out).mono ?_); rintro e w' ⟨rfl, ⟨nd, rfl⟩⟩; refine ⟨_, rfl, ?_⟩))
 go_ret
 exact ⟨by first | rfl | (simp; done) | (simp [*]; done), by repeat (first | exact ddR _ | apply ddS)⟩

/-! ### draw_Below: function 100 -/
def draw_Below.f (k : Nat) (a0 : Int) (a1 : Int) (l2 : List Int) : Option (Int × Int) := if a0 = 0 then (some (0, 1)) else ((draw_At.f k a1 l2).bind fun t123 => (some (Int.tmod t123 a0, 0)))
theorem draw_Below.mono : ∀ a0 a1 a2 k, LeO (draw_Below.f k a0 a1 a2) (draw_Below.f (k + 1) a0 a1 a2) := by
 intro a0 a1 a2 k
 unfold draw_Below.f
 repeat' first
   | (with_reducible exact draw_At.mono _ _ _)
   | (with_reducible exact LeO.refl _)
   | (with_reducible exact LeO.none _)
   | (with_reducible refine LeO.ite ?_ ?_)
   | (with_reducible refine LeO.bind ?_ (fun _ => ?_))
   | exact draw_At.mono _ _ _
   | exact LeO.none _
   | refine LeO.ite ?_ ?_
   | refine LeO.bind ?_ (fun _ => ?_)
set_option maxHeartbeats 8000000 in
set_option maxRecDepth 100000 in
theorem draw_Below.calls (k : Nat) (a0 : Int) (a1 : Int) (A2 : Option Addr) (c2 : Nat) (l2 : List Int) (r1 : Int) (r2 : Int) (w : World) (hr2 : Kd.C (Kd.int .i64) w A2 l2.length l2) (hc2 : l2.length ≤ c2) (h : draw_Below.f k a0 a1 l2 = some (r1, r2)) :
  Calls Try.prog 100 #[.int .u64 a0, .int .u64 a1, .slice A2 l2.length c2] w fun e w' => e = .returned (.tuple #[.int .u64 r1, .int .i64 r2]) ∧ Drawn0 w w' := by
 have HR2 := Aside0.mk hr2
 have HC2 := Aside0.mk hc2
 clear hr2 hc2
 have H : (if a0 = 0 then (some (0, 1)) else ((draw_At.f k a1 l2).bind fun t123 => (some (Int.tmod t123 a0, 0)))) = some (r1, r2) := h
 clear h
 by_cases c4 : a0 = 0
 ·
  rw [if_pos c4] at H
  have c4b0 : (a0 == 0) = true := beq_iff_eq.mpr c4
  have c4b1 : (a0 != 0) = false := bne_eq_false_iff_eq.mpr c4
  clear c4
  simp only [Option.some.injEq, Prod.mk.injEq] at H
  obtain ⟨rfl, rfl⟩ := H
  go_enter Try.func100, Try.ntmps100
  go_wp2
  go_ret2
  exact ⟨by first | rfl | (simp; done) | (simp [*]; done), by repeat (first | exact ddR _ | apply ddS)⟩
 ·
  rw [if_neg c4] at H
  have c4b0 : (a0 == 0) = false := beq_eq_false_iff_ne.mpr c4
  have c4b1 : (a0 != 0) = true := bne_iff_ne.mpr c4
  replace H := Option.bind_eq_some_iff.mp H
  obtain ⟨t123, A50, H⟩ := H
  replace H : (some (Int.tmod t123 a0, 0)) = some (r1, r2) := H
  have A5 := Aside0.mk A50
  clear A50
  simp only [Option.some.injEq, Prod.mk.injEq] at H
  obtain ⟨rfl, rfl⟩ := H
  go_enter Try.func100, Try.ntmps100
  go_wp2_with (first | ((with_reducible refine gate_callee (f := 120) rfl ?_); refine goesL_ (some 12) rfl rfl Try.func120 (by kernel_rfl) rfl #[.int .u64 a1, .slice A2 l2.length c2] rfl (by (try simp only [List.map_toArray, List.map_cons, List.map_nil]); first | done | rfl | (simp only [List.length_drop, List.length_take]; rfl)) ?_; (with_reducible refine (draw_At.calls k a1 _ _ l2 t123 _ ?side1 ?side2 A5.out).mono ?_); (case side1 => repeat (first | exact HR2.out | (with_reducible refine ccA ?_ _) | (with_reducible refine ccN ?_ _) | (with_reducible refine ccD ?_))); (case side2 => exact HC2.out); rintro e w' ⟨rfl, ⟨nd, rfl⟩⟩; refine ⟨_, rfl, ?_⟩))
  go_ret2
  exact ⟨by first | rfl | (simp; done) | (simp [*]; done), by repeat (first | exact ddR _ | apply ddS)⟩

/-! ### draw_Chance: function 86 -/
def draw_Chance.f (k : Nat) (a0 : Int) (a1 : Int) (a2 : Int) (l3 : List Int) : Option (Bool × Int) := if a0 > a1 then (some (false, 1)) else ((draw_Below.f k a1 a2 l3).bind fun bt124 => (if bt124.2 = 0 then (some (decide (bt124.1 < a0), bt124.2)) else (some (false, bt124.2))))
theorem draw_Chance.mono : ∀ a0 a1 a2 a3 k, LeO (draw_Chance.f k a0 a1 a2 a3) (draw_Chance.f (k + 1) a0 a1 a2 a3) := by
 intro a0 a1 a2 a3 k
 unfold draw_Chance.f
 repeat' first
   | (with_reducible exact draw_Below.mono _ _ _ _)
   | (with_reducible exact LeO.refl _)
   | (with_reducible exact LeO.none _)
   | (with_reducible refine LeO.ite ?_ ?_)
   | (with_reducible refine LeO.bind ?_ (fun _ => ?_))
   | exact draw_Below.mono _ _ _ _
   | exact LeO.none _
   | refine LeO.ite ?_ ?_
   | refine LeO.bind ?_ (fun _ => ?_)
set_option maxHeartbeats 8000000 in
set_option maxRecDepth 100000 in
theorem draw_Chance.calls (k : Nat) (a0 : Int) (a1 : Int) (a2 : Int) (A3 : Option Addr) (c3 : Nat) (l3 : List Int) (r1 : Bool) (r2 : Int) (w : World) (hr3 : Kd.C (Kd.int .i64) w A3 l3.length l3) (hc3 : l3.length ≤ c3) (h : draw_Chance.f k a0 a1 a2 l3 = some (r1, r2)) :
  Calls Try.prog 86 #[.int .u64 a0, .int .u64 a1, .int .u64 a2, .slice A3 l3.length c3] w fun e w' => e = .returned (.tuple #[.bool r1, .int .i64 r2]) ∧ Drawn0 w w' := by
 have HR3 := Aside0.mk hr3
 have HC3 := Aside0.mk hc3
 clear hr3 hc3
 have H : (if a0 > a1 then (some (false, 1)) else ((draw_Below.f k a1 a2 l3).bind fun bt124 => (if bt124.2 = 0 then (some (decide (bt124.1 < a0), bt124.2)) else (some (false, bt124.2))))) = some (r1, r2) := h
 clear h
 by_cases c5 : a0 > a1
 ·
  rw [if_pos c5] at H
  have c5b0 : decide (a1 < a0) = true := decide_eq_true c5
  clear c5
  simp only [Option.some.injEq, Prod.mk.injEq] at H
  obtain ⟨rfl, rfl⟩ := H
  go_enter Try.func86, Try.ntmps86
  go_wp2
  go_ret2
  exact ⟨by first | rfl | (simp; done) | (simp [*]; done), by repeat (first | exact ddR _ | apply ddS)⟩
 ·
  rw [if_neg c5] at H
  have c5b0 : decide (a1 < a0) = false := decide_eq_false c5
  clear c5
  replace H := Option.bind_eq_some_iff.mp H
  obtain ⟨⟨t124, t125⟩, A60, H⟩ := H
  replace H : (if t125 = 0 then (some (decide (t124 < a0), t125)) else (some (false, t125))) = some (r1, r2) := H
  have A6 := Aside0.mk A60
  clear A60
  by_cases c7 : t125 = 0
  ·
   rw [if_pos c7] at H
   have c7b0 : (t125 == 0) = true := beq_iff_eq.mpr c7
   have c7b1 : (t125 != 0) = false := bne_eq_false_iff_eq.mpr c7
   clear c7
   simp only [Option.some.injEq, Prod.mk.injEq] at H
   obtain ⟨rfl, rfl⟩ := H
   go_enter Try.func86, Try.ntmps86
   go_wp2_with (first | ((with_reducible refine gate_callee (f := 100) rfl ?_); refine goesL_ (some 19) rfl rfl Try.func100 (by kernel_rfl) rfl #[.int .u64 a1, .int .u64 a2, .slice A3 l3.length c3] rfl (by (try simp only [List.map_toArray, List.map_cons, List.map_nil]); first | done | rfl | (simp only [List.length_drop, List.length_take]; rfl)) ?_; (with_reducible refine (draw_Below.calls k a1 a2 _ _ l3 t124 t125 _ ?side1 ?side2 A6.out).mono ?_); (case side1 => repeat (first | exact HR3.out | (with_reducible refine ccA ?_ _) | (with_reducible refine ccN ?_ _) | (with_reducible refine ccD ?_))); (case side2 => exact HC3.out); rintro e w' ⟨rfl, ⟨nd, rfl⟩⟩; refine ⟨_, rfl, ?_⟩))
   go_ret2
   exact ⟨by first | rfl | (simp; done) | (simp [*]; done), by repeat (first | exact ddR _ | apply ddS)⟩
  ·
   rw [if_neg c7] at H
   have c7b0 : (t125 == 0) = false := beq_eq_false_iff_ne.mpr c7
   have c7b1 : (t125 != 0) = true := bne_iff_ne.mpr c7
   simp only [Option.some.injEq, Prod.mk.injEq] at H
   obtain ⟨rfl, rfl⟩ := H
   go_enter Try.func86, Try.ntmps86
   go_wp2_with (first | ((with_reducible refine gate_callee (f := 100) rfl ?_); refine goesL_ (some 19) rfl rfl Try.func100 (by kernel_rfl) rfl #[.int .u64 a1, .int .u64 a2, .slice A3 l3.length c3] rfl (by (try simp only [List.map_toArray, List.map_cons, List.map_nil]); first | done | rfl | (simp only [List.length_drop, List.length_take]; rfl)) ?_; (with_reducible refine (draw_Below.calls k a1 a2 _ _ l3 t124 t125 _ ?side1 ?side2 A6.out).mono ?_); (case side1 => repeat (first | exact HR3.out | (with_reducible refine ccA ?_ _) | (with_reducible refine ccN ?_ _) | (with_reducible refine ccD ?_))); (case side2 => exact HC3.out); rintro e w' ⟨rfl, ⟨nd, rfl⟩⟩; refine ⟨_, rfl, ?_⟩))
   go_ret2
   exact ⟨by first | rfl | (simp; done) | (simp [*]; done), by repeat (first | exact ddR _ | apply ddS)⟩

end Go.Proofs.Ytkfhdpnfcaghbaa.HQ
