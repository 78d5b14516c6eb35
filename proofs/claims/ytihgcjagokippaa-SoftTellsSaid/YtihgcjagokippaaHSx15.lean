/- What Go functions do, each as a plain Lean function with the same answers, and the proof of it, in every world: printed by the session's driver over the kit's print, with texts by hand. -/
import Derived.Test.YtihgcjagokippaaHSx0
import Derived.Test.YtihgcjagokippaaHSx1
import Derived.Test.YtihgcjagokippaaHSx6
import Derived.Test.YtihgcjagokippaaHSx14
import Derived.Test.YtihgcjagokippaaMini
namespace Go.Proofs.Ytihgcjagokippaa.HS
open Go.RowKit Go.Proofs.YtihgcjagokippaaW.PrintWords Go.Proofs.YtihgcjagokippaaW.PrintLast Go.Proofs.YtihgcjagokippaaW.PrintMore
attribute [local go_sem] max2_int min2_int max_two min_two max_three min_three max_four min_four   -- for this text's walks alone
open Go.Proofs.Ytihgcjagokippaa.Sp
attribute [local go_sem] Go.Proofs.Ytihgcjagokippaa.Sp.u64_not
set_option linter.unusedVariables false
set_option linter.unusedSimpArgs false

/-! ### thrumref15_CheckP: function 19 -/
mutual
def thrumref15_CheckP.l0 : Nat → Int → Int → List (S24) → List (S24) → Int → Int → Option (Int)
 | 0, _, _, _, _, _, _ => none
 | k + 1, x0, x1, x3, x28, x29, x30 => if x30 < x29 then (if 0 ≤ x30 then (if x30 < (x28.length : Int) then (if (((rd_T24 x28 x30).f0).length : Int) = x0 then (thrumref15_CheckP.l0 k x0 x1 x3 x28 x29 (wrap64 (x30 + 1))) else (some 4)) else (none)) else (none)) else (if (x3.length : Int) = 0 then (thrumref15_CheckP.j1 k x1 x3 true) else (thrumref15_CheckP.j1 k x1 x3 (decide ((x3.length : Int) > 64))))
def thrumref15_CheckP.j1 : Nat → Int → List (S24) → Bool → Option (Int)
 | 0, _, _, _ => none
 | k + 1, x1, x3, x47 => if x47 = true then (some 1) else (thrumref15_CheckP.l1 k x1 x3 (x3.length : Int) 0)
def thrumref15_CheckP.l1 : Nat → Int → List (S24) → Int → Int → Option (Int)
 | 0, _, _, _, _ => none
 | k + 1, x1, x48, x49, x50 => if x50 < x49 then (if 0 ≤ x50 then (if x50 < (x48.length : Int) then (if ((rd_T24 x48 x50).f1) < 0 then (some 1) else (if ((rd_T24 x48 x50).f1) ≥ x1 then (some 1) else (thrumref15_CheckP.l1 k x1 x48 x49 (wrap64 (x50 + 1))))) else (none)) else (none)) else (some 0)
end
def thrumref15_CheckP.f (k : Nat) (a0 : Int) (a1 : Int) (l2 : List Int) (l3 : List (S24)) : Option (Int) := (thrumref15_Dim.f a0 a1).bind fun bt364 => (if bt364.2 = 0 then (if (l2.length : Int) = bt364.1 then (thrumref15_CheckP.l0 k a0 a1 l3 l3 (l3.length : Int) 0) else (some 4)) else (some bt364.2))
theorem thrumref15_CheckP.mono_l : ∀ k, (∀ y0 y1 y2 y3 y4 y5, LeO (thrumref15_CheckP.l0 k y0 y1 y2 y3 y4 y5) (thrumref15_CheckP.l0 (k + 1) y0 y1 y2 y3 y4 y5)) ∧ (∀ y0 y1 y2, LeO (thrumref15_CheckP.j1 k y0 y1 y2) (thrumref15_CheckP.j1 (k + 1) y0 y1 y2)) ∧ (∀ y0 y1 y2 y3, LeO (thrumref15_CheckP.l1 k y0 y1 y2 y3) (thrumref15_CheckP.l1 (k + 1) y0 y1 y2 y3))
 | 0 => ⟨fun _ _ _ _ _ _ r h => by simp [thrumref15_CheckP.l0] at h, fun _ _ _ r h => by simp [thrumref15_CheckP.j1] at h, fun _ _ _ _ r h => by simp [thrumref15_CheckP.l1] at h⟩
 | k + 1 => by
  obtain ⟨ih0, ih1, ih2⟩ := thrumref15_CheckP.mono_l k
  refine ⟨?_, ?_, ?_⟩
  ·
   intro y0 y1 y2 y3 y4 y5
   unfold thrumref15_CheckP.l0
   repeat' first
   | (with_reducible exact ih0 _ _ _ _ _ _)
   | (with_reducible exact ih1 _ _ _)
   | (with_reducible exact ih2 _ _ _ _)
   | (with_reducible exact LeO.refl _)
   | (with_reducible exact LeO.none _)
   | (with_reducible refine LeO.ite ?_ ?_)
   | (with_reducible refine LeO.bind ?_ (fun _ => ?_))
  ·
   intro y0 y1 y2
   unfold thrumref15_CheckP.j1
   repeat' first
   | (with_reducible exact ih0 _ _ _ _ _ _)
   | (with_reducible exact ih1 _ _ _)
   | (with_reducible exact ih2 _ _ _ _)
   | (with_reducible exact LeO.refl _)
   | (with_reducible exact LeO.none _)
   | (with_reducible refine LeO.ite ?_ ?_)
   | (with_reducible refine LeO.bind ?_ (fun _ => ?_))
  ·
   intro y0 y1 y2 y3
   unfold thrumref15_CheckP.l1
   repeat' first
   | (with_reducible exact ih0 _ _ _ _ _ _)
   | (with_reducible exact ih1 _ _ _)
   | (with_reducible exact ih2 _ _ _ _)
   | (with_reducible exact LeO.refl _)
   | (with_reducible exact LeO.none _)
   | (with_reducible refine LeO.ite ?_ ?_)
   | (with_reducible refine LeO.bind ?_ (fun _ => ?_))
theorem thrumref15_CheckP.mono : ∀ a0 a1 a2 a3 k, LeO (thrumref15_CheckP.f k a0 a1 a2 a3) (thrumref15_CheckP.f (k + 1) a0 a1 a2 a3) := by
 intro a0 a1 a2 a3 k
 obtain ⟨ih0, ih1, ih2⟩ := thrumref15_CheckP.mono_l k
 unfold thrumref15_CheckP.f
 repeat' first
   | (with_reducible exact ih0 _ _ _ _ _ _)
   | (with_reducible exact ih1 _ _ _)
   | (with_reducible exact ih2 _ _ _ _)
   | (with_reducible exact LeO.refl _)
   | (with_reducible exact LeO.none _)
   | (with_reducible refine LeO.ite ?_ ?_)
   | (with_reducible refine LeO.bind ?_ (fun _ => ?_))
set_option maxHeartbeats 8000000 in
set_option maxRecDepth 100000 in
theorem thrumref15_CheckP.calls (k : Nat) (a0 : Int) (a1 : Int) (A2 : Option Addr) (c2 : Nat) (l2 : List Int) (A3 : Option Addr) (c3 : Nat) (l3 : List (S24)) (r : Int) (w : World) (hr2 : Kd.C (Kd.int .i64) w A2 l2.length l2) (hc2 : l2.length ≤ c2) (hr3 : Kd.C k24 w A3 l3.length l3) (hc3 : l3.length ≤ c3) (h : thrumref15_CheckP.f k a0 a1 l2 l3 = some r) :
  Calls Try.prog 19 #[.int .i64 a0, .int .i64 a1, .slice A2 l2.length c2, .slice A3 l3.length c3] w fun e w' => e = .returned (.int .i64 r) ∧ Below w.heap.size w w' := by
 have hu24 := Try.underlying24
 have HR2 := ZM hr2
 have HC2 := ZM hc2
 clear hr2 hc2
 have HR3 := ZM hr3
 have HC3 := ZM hc3
 clear hr3 hc3
 have HB := ZM (Below.refl w.heap.size w)
 have H : ((thrumref15_Dim.f a0 a1).bind fun bt364 => (if bt364.2 = 0 then (if (l2.length : Int) = bt364.1 then (thrumref15_CheckP.l0 k a0 a1 l3 l3 (l3.length : Int) 0) else (some 4)) else (some bt364.2))) = some r := h
 clear h
 replace H := Option.bind_eq_some_iff.mp H
 obtain ⟨⟨t364, t365⟩, A50, H⟩ := H
 replace H : (if t365 = 0 then (if (l2.length : Int) = t364 then (thrumref15_CheckP.l0 k a0 a1 l3 l3 (l3.length : Int) 0) else (some 4)) else (some t365)) = some r := H
 have A5 := ZM A50
 clear A50
 by_cases c6 : t365 = 0
 case neg =>
  rw [if_neg c6] at H
  have c6b0 : (t365 == 0) = false := beq_eq_false_iff_ne.mpr c6
  have c6b1 : (t365 != 0) = true := bne_iff_ne.mpr c6
  obtain rfl := Option.some.inj H
  go_enter Try.func19, Try.ntmps19
  go_wp2_with (first | ((with_reducible refine gate_callee (f := 15) rfl ?_); refine goesL_ (some 18) rfl rfl Try.func15 (by kernel_rfl) rfl #[.int .i64 a0, .int .i64 a1] rfl Z2 ?_; (with_reducible refine (thrumref15_Dim.calls a0 a1 t364 t365 _ A5.out).mono ?_); rintro e w' ⟨rfl, ⟨nd, rfl⟩⟩; refine ⟨_, rfl, ?_⟩))
  go_ret
  exact ⟨by first | rfl | (simp [errW_none, errW_some] <;> rfl) | (simp [*, errW_none, errW_some] <;> rfl), by repeat (first | (with_reducible first | exact HB.out | apply zzA | apply zzN | apply zzD) | exact HB.out)⟩
 rw [if_pos c6] at H
 have c6b0 : (t365 == 0) = true := beq_iff_eq.mpr c6
 have c6b1 : (t365 != 0) = false := bne_eq_false_iff_eq.mpr c6
 clear c6
 by_cases c7 : (l2.length : Int) = t364
 case neg =>
  rw [if_neg c7] at H
  have c7b0 : ((l2.length : Int) == t364) = false := beq_eq_false_iff_ne.mpr c7
  have c7b1 : ((l2.length : Int) != t364) = true := bne_iff_ne.mpr c7
  obtain rfl := Option.some.inj H
  go_enter Try.func19, Try.ntmps19
  go_wp2_with (first | ((with_reducible refine gate_callee (f := 15) rfl ?_); refine goesL_ (some 18) rfl rfl Try.func15 (by kernel_rfl) rfl #[.int .i64 a0, .int .i64 a1] rfl Z2 ?_; (with_reducible refine (thrumref15_Dim.calls a0 a1 t364 t365 _ A5.out).mono ?_); rintro e w' ⟨rfl, ⟨nd, rfl⟩⟩; refine ⟨_, rfl, ?_⟩))
  go_ret
  exact ⟨by first | rfl | (simp [errW_none, errW_some] <;> rfl) | (simp [*, errW_none, errW_some] <;> rfl), by repeat (first | (with_reducible first | exact HB.out | apply zzA | apply zzN | apply zzD) | exact HB.out)⟩
 rw [if_pos c7] at H
 have c7b0 : ((l2.length : Int) == t364) = true := beq_iff_eq.mpr c7
 have c7b1 : ((l2.length : Int) != t364) = false := bne_eq_false_iff_eq.mpr c7
 clear c7
 have H' := ZM H
 clear H
 go_enter Try.func19, Try.ntmps19
 go_wp2_with (first | ((with_reducible refine gate_callee (f := 15) rfl ?_); refine goesL_ (some 18) rfl rfl Try.func15 (by kernel_rfl) rfl #[.int .i64 a0, .int .i64 a1] rfl Z2 ?_; (with_reducible refine (thrumref15_Dim.calls a0 a1 t364 t365 _ A5.out).mono ?_); rintro e w' ⟨rfl, ⟨nd, rfl⟩⟩; refine ⟨_, rfl, ?_⟩))
 go_loopg [30] k (fun kq v30 w' => ∃ (x30_1 : Int), v30 = .int .i64 x30_1 ∧ Aside0 (thrumref15_CheckP.l0 kq a0 a1 l3 l3 (l3.length : Int) x30_1 = some r) ∧ Aside0 (kq ≤ k) ∧ Aside0 (Below w.heap.size w w'))
 case atStart => exact ⟨(0), Z5, H', ⟨Nat.le_refl _⟩, ⟨by repeat (first | (with_reducible first | exact HB.out | apply zzA | apply zzN | apply zzD) | exact HB.out)⟩⟩
 case round =>
  clear H'
  try clear c2
  try clear c3
  try clear c6
  try clear c6b0
  try clear c6b1
  try clear c7
  try clear c7b0
  try clear c7b1
  obtain ⟨x30_1, rfl, HA, HK1, HB⟩ := hrel
  cases gk with
  | zero => exact absurd HA.out (by simp [thrumref15_CheckP.l0])
  | succ k1 =>
   have H := HA.out
   clear HA
   simp only [thrumref15_CheckP.l0] at H
   by_cases c8 : x30_1 < (l3.length : Int)
   ·
    rw [if_pos c8] at H
    have c8b0 : decide (x30_1 < (l3.length : Int)) = true := decide_eq_true c8
    clear c8
    by_cases c9 : 0 ≤ x30_1
    case neg =>
     rw [if_neg c9] at H
     exact absurd H (by simp)
    rw [if_pos c9] at H
    have c9b0 : decide (0 ≤ x30_1) = true := decide_eq_true c9
    clear c9
    by_cases c10 : x30_1 < (l3.length : Int)
    case neg =>
     rw [if_neg c10] at H
     exact absurd H (by simp)
    rw [if_pos c10] at H
    have c10b0 : decide (x30_1 < (l3.length : Int)) = true := decide_eq_true c10
    clear c10
    by_cases c11 : (((rd_T24 l3 x30_1).f0).length : Int) = a0
    case neg =>
     rw [if_neg c11] at H
     have c11b0 : ((((rd_T24 l3 x30_1).f0).length : Int) == a0) = false := beq_eq_false_iff_ne.mpr c11
     have c11b1 : ((((rd_T24 l3 x30_1).f0).length : Int) != a0) = true := bne_iff_ne.mpr c11
     obtain rfl := Option.some.inj H
     have p366 : 0 ≤ (x30_1 : Int) := of_decide_eq_true Z3
     have q366 : x30_1 < (l3.length : Int) := of_decide_eq_true Z3
     obtain ⟨ad366, A366_0, c366_0, e366, hx366_0, hx366_1, hl366_0, hi366_0⟩ := at_T24 HR3.out x30_1 p366 q366
     cases e366
     replace hx366_0 := (HB.out.cell (World.block_lt_of_cell? w _ hx366_0)).trans hx366_0
     replace hx366_1 := (HB.out.cell (World.block_lt_of_cell? w _ hx366_1)).trans hx366_1
     have HR366_0 := ZM hi366_0
     have HC366_0 := ZM hl366_0
     clear hi366_0 hl366_0
     replace p366 := eq_true p366
     replace q366 := eq_true q366
     go_wp2_with (first | ((with_reducible refine gate_dst (N := 12) rfl ?_); (try (refine gate_guard (by rfl) ?_; dsimp only)); refine box_event ?hg (N := 12) ?hd (cs := #[.slice none 0 0, .int .i64 0]) (t := 24) ?hr ?_; (case hd => rfl); (case hg => rfl); (case hr => exact Z10); intro gb367 hg w14 hbox hb; have BK367 := ZM (hbox); have GW367 := ZM ((by rw [hg]; exact (zzS Z1) : w.heap.size ≤ gb367)); have GE367 := ZM ((by rw [hg]; exact (zzS Z1) : w.heap.size ≤ gb367)); replace HB := ZM (zzT Z1 hb); clear hb hbox hg; obtain ⟨hcz15_0, hcz15_1, hfz15_0, hfz15_1⟩ := Y2f BK367))
     go_ret
     exact ⟨by first | rfl | (simp [errW_none, errW_some] <;> rfl) | (simp [*, errW_none, errW_some] <;> rfl), by repeat (first | (with_reducible first | exact HB.out | apply zzA | apply zzN | apply zzD | refine below_set ?_ GE367.out) | exact HB.out)⟩
    rw [if_pos c11] at H
    have c11b0 : ((((rd_T24 l3 x30_1).f0).length : Int) == a0) = true := beq_iff_eq.mpr c11
    have c11b1 : ((((rd_T24 l3 x30_1).f0).length : Int) != a0) = false := bne_eq_false_iff_eq.mpr c11
    clear c11
    have H' := ZM H
    clear H
    have p366 : 0 ≤ (x30_1 : Int) := of_decide_eq_true Z3
    have q366 : x30_1 < (l3.length : Int) := of_decide_eq_true Z3
    obtain ⟨ad366, A366_0, c366_0, e366, hx366_0, hx366_1, hl366_0, hi366_0⟩ := at_T24 HR3.out x30_1 p366 q366
    cases e366
    replace hx366_0 := (HB.out.cell (World.block_lt_of_cell? w _ hx366_0)).trans hx366_0
    replace hx366_1 := (HB.out.cell (World.block_lt_of_cell? w _ hx366_1)).trans hx366_1
    have HR366_0 := ZM hi366_0
    have HC366_0 := ZM hl366_0
    clear hi366_0 hl366_0
    replace p366 := eq_true p366
    replace q366 := eq_true q366
    go_wp2_with (first | ((with_reducible refine gate_dst (N := 12) rfl ?_); (try (refine gate_guard (by rfl) ?_; dsimp only)); refine box_event ?hg (N := 12) ?hd (cs := #[.slice none 0 0, .int .i64 0]) (t := 24) ?hr ?_; (case hd => rfl); (case hg => rfl); (case hr => exact Z10); intro gb367 hg w12 hbox hb; have BK367 := ZM (hbox); have GW367 := ZM ((by rw [hg]; exact (zzS Z1) : w.heap.size ≤ gb367)); have GE367 := ZM ((by rw [hg]; exact (zzS Z1) : w.heap.size ≤ gb367)); replace HB := ZM (zzT Z1 hb); clear hb hbox hg; obtain ⟨hcz13_0, hcz13_1, hfz13_0, hfz13_1⟩ := Y2f BK367))
    go_roundg k1
    case measure => have := HK1.out; omega
    case rel => exact ⟨(wrap64 (x30_1 + 1)), Z5, H', ⟨by have := HK1.out; omega⟩, ⟨by repeat (first | (with_reducible first | exact HB.out | apply zzA | apply zzN | apply zzD | refine below_set ?_ GE367.out) | exact HB.out)⟩⟩
   rw [if_neg c8] at H
   have c8b0 : decide (x30_1 < (l3.length : Int)) = false := decide_eq_false c8
   clear c8
   have HC16 := ZM H
   clear H
   go_upto_region 12 with (fail)
   go_cut [47] (fun v47 wc => ∃ (kq : Nat) (x47_15 : Bool), v47 = .bool x47_15 ∧ Aside0 (thrumref15_CheckP.j1 kq a1 l3 x47_15 = some r) ∧ Aside0 (kq ≤ k1) ∧ Aside0 (Below w.heap.size w wc))
   case first =>
    have H := HC16.out
    clear HC16
    by_cases c17 : (l3.length : Int) = 0
    case neg =>
     rw [if_neg c17] at H
     have c17b0 : ((l3.length : Int) == 0) = false := beq_eq_false_iff_ne.mpr c17
     have c17b1 : ((l3.length : Int) != 0) = true := bne_iff_ne.mpr c17
     have c17b2 : ¬ (l3 = []) := fun h_ => c17 (by rw [h_]; rfl)
     (first | rw [c17b0] | (simp only [i64_w, i32_w]; rw [c17b0]) | skip)
     have H' := ZM H
     clear H
     go_wp2
     go_meet
     case rel => exact ⟨_, (decide ((l3.length : Int) > 64)), Z5, H', ⟨by have := HK1.out; first | omega | exact Nat.le_refl _⟩, ⟨by repeat (first | (with_reducible first | exact HB.out | apply zzA | apply zzN | apply zzD) | exact HB.out)⟩⟩
    rw [if_pos c17] at H
    have c17b0 : ((l3.length : Int) == 0) = true := beq_iff_eq.mpr c17
    have c17b1 : ((l3.length : Int) != 0) = false := bne_eq_false_iff_eq.mpr c17
    clear c17
    (first | rw [c17b0] | (simp only [i64_w, i32_w]; rw [c17b0]) | skip)
    have H' := ZM H
    clear H
    go_wp2
    go_meet
    case rel => exact ⟨_, (true), Z5, H', ⟨by have := HK1.out; first | omega | exact Nat.le_refl _⟩, ⟨by repeat (first | (with_reducible first | exact HB.out | apply zzA | apply zzN | apply zzD) | exact HB.out)⟩⟩
   clear HC16
   try clear c2
   try clear c3
   try clear c6
   try clear c6b0
   try clear c6b1
   try clear c7
   try clear c7b0
   try clear c7b1
   try clear c8
   try clear c8b0
   obtain ⟨kq, x47_15, rfl, HA, HJ15, HB⟩ := hcut
   cases kq with
   | zero => exact absurd HA.out (by simp [thrumref15_CheckP.j1])
   | succ kj15 =>
    have H := HA.out
    clear HA
    simp only [thrumref15_CheckP.j1] at H
    by_cases c18 : x47_15 = true
    ·
     subst c18
     have H1 : (some 1) = some r := by rw [if_pos rfl] at H; exact H
     clear H
     have H := H1
     clear H1
     obtain rfl := Option.some.inj H
     go_wp2
     go_ret
     exact ⟨by first | rfl | (simp [errW_none, errW_some] <;> rfl) | (simp [*, errW_none, errW_some] <;> rfl), by repeat (first | (with_reducible first | exact HB.out | apply zzA | apply zzN | apply zzD) | exact HB.out)⟩
    replace c18 := Bool.eq_false_iff.mpr c18
    subst c18
    have H1 : (thrumref15_CheckP.l1 kj15 a1 l3 (l3.length : Int) 0) = some r := by rw [if_neg (show ¬ (false = true) by decide)] at H; exact H
    clear H
    have H := H1
    clear H1
    have H' := ZM H
    clear H
    go_wp2
    go_loopg [50] kj15 (fun kq v50 w' => ∃ (x50_3 : Int), v50 = .int .i64 x50_3 ∧ Aside0 (thrumref15_CheckP.l1 kq a1 l3 (l3.length : Int) x50_3 = some r) ∧ Aside0 (kq ≤ kj15) ∧ Aside0 (Below w.heap.size w w'))
    case atStart => exact ⟨(0), Z5, H', ⟨Nat.le_refl _⟩, ⟨by repeat (first | (with_reducible first | exact HB.out | apply zzA | apply zzN | apply zzD) | exact HB.out)⟩⟩
    case round =>
     clear H'
     try clear c2
     try clear c3
     try clear c6
     try clear c6b0
     try clear c6b1
     try clear c7
     try clear c7b0
     try clear c7b1
     try clear c8
     try clear c8b0
     try clear c18
     obtain ⟨x50_3, rfl, HA, HK3, HB⟩ := hrel
     cases gk with
     | zero => exact absurd HA.out (by simp [thrumref15_CheckP.l1])
     | succ k3 =>
      have H := HA.out
      clear HA
      simp only [thrumref15_CheckP.l1] at H
      by_cases c19 : x50_3 < (l3.length : Int)
      case neg =>
       rw [if_neg c19] at H
       have c19b0 : decide (x50_3 < (l3.length : Int)) = false := decide_eq_false c19
       clear c19
       obtain rfl := Option.some.inj H
       go_wp2
       go_ret
       exact ⟨by first | rfl | (simp [errW_none, errW_some] <;> rfl) | (simp [*, errW_none, errW_some] <;> rfl), by repeat (first | (with_reducible first | exact HB.out | apply zzA | apply zzN | apply zzD) | exact HB.out)⟩
      rw [if_pos c19] at H
      have c19b0 : decide (x50_3 < (l3.length : Int)) = true := decide_eq_true c19
      clear c19
      by_cases c20 : 0 ≤ x50_3
      case neg =>
       rw [if_neg c20] at H
       exact absurd H (by simp)
      rw [if_pos c20] at H
      have c20b0 : decide (0 ≤ x50_3) = true := decide_eq_true c20
      clear c20
      by_cases c21 : x50_3 < (l3.length : Int)
      case neg =>
       rw [if_neg c21] at H
       exact absurd H (by simp)
      rw [if_pos c21] at H
      have c21b0 : decide (x50_3 < (l3.length : Int)) = true := decide_eq_true c21
      clear c21
      by_cases c22 : ((rd_T24 l3 x50_3).f1) < 0
      ·
       rw [if_pos c22] at H
       have c22b0 : decide (((rd_T24 l3 x50_3).f1) < 0) = true := decide_eq_true c22
       clear c22
       obtain rfl := Option.some.inj H
       have p368 : 0 ≤ (x50_3 : Int) := of_decide_eq_true Z3
       have q368 : x50_3 < (l3.length : Int) := of_decide_eq_true Z3
       obtain ⟨ad368, A368_0, c368_0, e368, hx368_0, hx368_1, hl368_0, hi368_0⟩ := at_T24 HR3.out x50_3 p368 q368
       cases e368
       replace hx368_0 := (HB.out.cell (World.block_lt_of_cell? w _ hx368_0)).trans hx368_0
       replace hx368_1 := (HB.out.cell (World.block_lt_of_cell? w _ hx368_1)).trans hx368_1
       have HR368_0 := ZM hi368_0
       have HC368_0 := ZM hl368_0
       clear hi368_0 hl368_0
       replace p368 := eq_true p368
       replace q368 := eq_true q368
       go_wp2_with (first | ((with_reducible refine gate_dst (N := 14) rfl ?_); (try (refine gate_guard (by rfl) ?_; dsimp only)); refine box_event ?hg (N := 14) ?hd (cs := #[.slice none 0 0, .int .i64 0]) (t := 24) ?hr ?_; (case hd => rfl); (case hg => rfl); (case hr => exact Z10); intro gb369 hg w23 hbox hb; have BK369 := ZM (hbox); have GW369 := ZM ((by rw [hg]; exact (zzS Z1) : w.heap.size ≤ gb369)); have GE369 := ZM ((by rw [hg]; exact (zzS Z1) : w.heap.size ≤ gb369)); replace HB := ZM (zzT Z1 hb); clear hb hbox hg; obtain ⟨hcz24_0, hcz24_1, hfz24_0, hfz24_1⟩ := Y2f BK369))
       go_ret
       exact ⟨by first | rfl | (simp [errW_none, errW_some] <;> rfl) | (simp [*, errW_none, errW_some] <;> rfl), by repeat (first | (with_reducible first | exact HB.out | apply zzA | apply zzN | apply zzD | refine below_set ?_ GE369.out) | exact HB.out)⟩
      rw [if_neg c22] at H
      have c22b0 : decide (((rd_T24 l3 x50_3).f1) < 0) = false := decide_eq_false c22
      clear c22
      by_cases c25 : ((rd_T24 l3 x50_3).f1) ≥ a1
      ·
       rw [if_pos c25] at H
       have c25b0 : decide (a1 ≤ ((rd_T24 l3 x50_3).f1)) = true := decide_eq_true c25
       clear c25
       obtain rfl := Option.some.inj H
       have p368 : 0 ≤ (x50_3 : Int) := of_decide_eq_true Z3
       have q368 : x50_3 < (l3.length : Int) := of_decide_eq_true Z3
       obtain ⟨ad368, A368_0, c368_0, e368, hx368_0, hx368_1, hl368_0, hi368_0⟩ := at_T24 HR3.out x50_3 p368 q368
       cases e368
       replace hx368_0 := (HB.out.cell (World.block_lt_of_cell? w _ hx368_0)).trans hx368_0
       replace hx368_1 := (HB.out.cell (World.block_lt_of_cell? w _ hx368_1)).trans hx368_1
       have HR368_0 := ZM hi368_0
       have HC368_0 := ZM hl368_0
       clear hi368_0 hl368_0
       replace p368 := eq_true p368
       replace q368 := eq_true q368
       go_wp2_with (first | ((with_reducible refine gate_dst (N := 14) rfl ?_); (try (refine gate_guard (by rfl) ?_; dsimp only)); refine box_event ?hg (N := 14) ?hd (cs := #[.slice none 0 0, .int .i64 0]) (t := 24) ?hr ?_; (case hd => rfl); (case hg => rfl); (case hr => exact Z10); intro gb369 hg w26 hbox hb; have BK369 := ZM (hbox); have GW369 := ZM ((by rw [hg]; exact (zzS Z1) : w.heap.size ≤ gb369)); have GE369 := ZM ((by rw [hg]; exact (zzS Z1) : w.heap.size ≤ gb369)); replace HB := ZM (zzT Z1 hb); clear hb hbox hg; obtain ⟨hcz27_0, hcz27_1, hfz27_0, hfz27_1⟩ := Y2f BK369))
       go_ret
       exact ⟨by first | rfl | (simp [errW_none, errW_some] <;> rfl) | (simp [*, errW_none, errW_some] <;> rfl), by repeat (first | (with_reducible first | exact HB.out | apply zzA | apply zzN | apply zzD | refine below_set ?_ GE369.out) | exact HB.out)⟩
      rw [if_neg c25] at H
      have c25b0 : decide (a1 ≤ ((rd_T24 l3 x50_3).f1)) = false := decide_eq_false c25
      clear c25
      have H' := ZM H
      clear H
      have p368 : 0 ≤ (x50_3 : Int) := of_decide_eq_true Z3
      have q368 : x50_3 < (l3.length : Int) := of_decide_eq_true Z3
      obtain ⟨ad368, A368_0, c368_0, e368, hx368_0, hx368_1, hl368_0, hi368_0⟩ := at_T24 HR3.out x50_3 p368 q368
      cases e368
      replace hx368_0 := (HB.out.cell (World.block_lt_of_cell? w _ hx368_0)).trans hx368_0
      replace hx368_1 := (HB.out.cell (World.block_lt_of_cell? w _ hx368_1)).trans hx368_1
      have HR368_0 := ZM hi368_0
      have HC368_0 := ZM hl368_0
      clear hi368_0 hl368_0
      replace p368 := eq_true p368
      replace q368 := eq_true q368
      go_wp2_with (first | ((with_reducible refine gate_dst (N := 14) rfl ?_); (try (refine gate_guard (by rfl) ?_; dsimp only)); refine box_event ?hg (N := 14) ?hd (cs := #[.slice none 0 0, .int .i64 0]) (t := 24) ?hr ?_; (case hd => rfl); (case hg => rfl); (case hr => exact Z10); intro gb369 hg w28 hbox hb; have BK369 := ZM (hbox); have GW369 := ZM ((by rw [hg]; exact (zzS Z1) : w.heap.size ≤ gb369)); have GE369 := ZM ((by rw [hg]; exact (zzS Z1) : w.heap.size ≤ gb369)); replace HB := ZM (zzT Z1 hb); clear hb hbox hg; obtain ⟨hcz29_0, hcz29_1, hfz29_0, hfz29_1⟩ := Y2f BK369))
      go_roundg k3
      case measure => have := HK1.out; have := HJ15.out; have := HK3.out; omega
      case rel => exact ⟨(wrap64 (x50_3 + 1)), Z5, H', ⟨by have := HK1.out; have := HJ15.out; have := HK3.out; omega⟩, ⟨by repeat (first | (with_reducible first | exact HB.out | apply zzA | apply zzN | apply zzD | refine below_set ?_ GE369.out) | exact HB.out)⟩⟩
def thrumref15_Check.f (a0 a1 : Int) (l2 : List Int) (l3 : List S24) : Option Int := some (checkS a0 a1 l2 (l3.map sm))
theorem thrumref15_CheckP.loop1 (o : Int) (l : List S24) (hb : l.length ≤ 9223372036854775807) : ∀ (d i : Nat), d + i = l.length →
    thrumref15_CheckP.l1 (d + 1) o l (l.length : Int) (i : Int) = some (if ((l.drop i).any fun s => decide (s.f1 < 0 ∨ s.f1 ≥ o)) = true then 1 else 0) := by
  intro d
  induction d with
  | zero =>
    intro i hd
    rw [thrumref15_CheckP.l1, if_neg (by omega), List.drop_eq_nil_of_le (by omega)]
    rfl
  | succ d ih =>
    intro i hd
    have hi : i < l.length := by omega
    rw [thrumref15_CheckP.l1, if_pos (by omega), if_pos (by omega), if_pos (by omega), rd_sm hi, List.drop_eq_getElem_cons hi, List.any_cons]
    by_cases c1 : l[i].f1 < 0
    · rw [if_pos c1, decide_eq_true (.inl c1 : l[i].f1 < 0 ∨ l[i].f1 ≥ o), Bool.true_or, if_pos rfl]
    · by_cases c2 : l[i].f1 ≥ o
      · rw [if_neg c1, if_pos c2, decide_eq_true (.inr c2 : l[i].f1 < 0 ∨ l[i].f1 ≥ o), Bool.true_or, if_pos rfl]
      · rw [if_neg c1, if_neg c2, wrap64_of (by unfold I64; omega), show (i : Int) + 1 = ((i + 1 : Nat) : Int) by omega, ih (i + 1) (by omega), decide_eq_false (show ¬ (l[i].f1 < 0 ∨ l[i].f1 ≥ o) from fun h => h.elim c1 c2), Bool.false_or]
theorem thrumref15_CheckP.loop0 (a o : Int) (l : List S24) (hb : l.length ≤ 9223372036854775807) : ∀ (d i : Nat), d + i = l.length →
    thrumref15_CheckP.l0 (d + 1 + (l.length + 2)) a o l l (l.length : Int) (i : Int) = some (if ((l.drop i).any fun s => (s.f0.length : Int) != a) = true then 4 else if l.length = 0 ∨ l.length > 64 ∨ (l.any fun s => decide (s.f1 < 0 ∨ s.f1 ≥ o)) = true then 1 else 0) := by
  intro d
  induction d with
  | zero =>
    intro i hd
    rw [show 0 + 1 + (l.length + 2) = (l.length + 1 + 1) + 1 by omega, thrumref15_CheckP.l0, if_neg (by omega), List.drop_eq_nil_of_le (by omega), if_neg (show ¬ (([] : List S24).any fun s => (s.f0.length : Int) != a) = true from fun h => by cases h)]
    by_cases c : (l.length : Int) = 0
    · rw [if_pos c, thrumref15_CheckP.j1, if_pos rfl, if_pos (.inl (by omega))]
    · rw [if_neg c, thrumref15_CheckP.j1]
      by_cases c2 : (l.length : Int) > 64
      · rw [if_pos (decide_eq_true c2), if_pos (.inr (.inl (by omega)))]
      · have h1 := thrumref15_CheckP.loop1 o l hb l.length 0 (by omega)
        rw [show ((0 : Nat) : Int) = 0 from rfl, List.drop_zero] at h1
        rw [if_neg (by simpa using c2), h1]
        by_cases c3 : (l.any fun s => decide (s.f1 < 0 ∨ s.f1 ≥ o)) = true
        · rw [if_pos c3, if_pos (.inr (.inr c3))]
        · rw [if_neg c3, if_neg (fun h => h.elim (fun h => c (by omega)) (fun h => h.elim (fun h => c2 (by omega)) c3))]
  | succ d ih =>
    intro i hd
    have hi : i < l.length := by omega
    rw [show d + 1 + 1 + (l.length + 2) = (d + 1 + (l.length + 2)) + 1 by omega, thrumref15_CheckP.l0, if_pos (by omega), if_pos (by omega), if_pos (by omega), rd_sm hi, List.drop_eq_getElem_cons hi, List.any_cons]
    by_cases c : (l[i].f0.length : Int) = a
    · rw [if_pos c, wrap64_of (by unfold I64; omega), show (i : Int) + 1 = ((i + 1 : Nat) : Int) by omega, ih (i + 1) (by omega), show ((l[i].f0.length : Int) != a) = false from bne_eq_false_iff_eq.2 c, Bool.false_or]
    · rw [if_neg c, show ((l[i].f0.length : Int) != a) = true from bne_iff_ne.2 c, Bool.true_or, if_pos rfl]
theorem thrumref15_CheckP.is (a0 a1 : Int) (l2 : List Int) (l3 : List S24) (hb : l3.length ≤ 9223372036854775807) : thrumref15_CheckP.f (l3.length + 1 + (l3.length + 2)) a0 a1 l2 l3 = some (checkS a0 a1 l2 (l3.map sm)) := by
  unfold thrumref15_CheckP.f thrumref15_Dim.f
  rw [Option.bind_some, checkS_any]
  by_cases c : (dimS a0 a1).2 = 0
  · rw [if_pos c, if_neg (not_not_intro c)]
    by_cases c2 : (l2.length : Int) = (dimS a0 a1).1
    · have h0 := thrumref15_CheckP.loop0 a0 a1 l3 hb l3.length 0 (by omega)
      rw [show ((0 : Nat) : Int) = 0 from rfl, List.drop_zero] at h0
      rw [if_pos c2, h0]
      by_cases cA : (l3.any fun s => (s.f0.length : Int) != a0) = true
      · rw [if_pos cA, if_pos (.inr cA)]
      · rw [if_neg cA, if_neg (show ¬ ((l2.length : Int) ≠ (dimS a0 a1).1 ∨ (l3.any fun s => (s.f0.length : Int) != a0) = true) from fun h => h.elim (fun h => h c2) cA)]
    · rw [if_neg c2, if_pos (.inl c2)]
  · rw [if_neg c, if_pos c, dimS_bad c]
theorem thrumref15_Check.calls (a0 : Int) (a1 : Int) (A2 : Option Addr) (c2 : Nat) (l2 : List Int) (A3 : Option Addr) (c3 : Nat) (l3 : List (S24)) (r : Int) (w : World) (hr2 : Kd.C (Kd.int .i64) w A2 l2.length l2) (hc2 : l2.length ≤ c2) (hr3 : Kd.C k24 w A3 l3.length l3) (hc3 : l3.length ≤ c3) (h : thrumref15_Check.f a0 a1 l2 l3 = some r) :
    Calls Try.prog 19 #[.int .i64 a0, .int .i64 a1, .slice A2 l2.length c2, .slice A3 l3.length c3] w fun e w' => e = .returned (.int .i64 r) ∧ Below w.heap.size w w' := by
  unfold thrumref15_Check.f at h
  exact thrumref15_CheckP.calls (l3.length + 1 + (l3.length + 2)) a0 a1 A2 c2 l2 A3 c3 l3 r w hr2 hc2 hr3 hc3 ((thrumref15_CheckP.is a0 a1 l2 l3 (Kd.C_max hr3)).trans h)
























































































































































































































































































































































































































































































































































































































































































































































































































































































































































































































































































































































end Go.Proofs.Ytihgcjagokippaa.HS
