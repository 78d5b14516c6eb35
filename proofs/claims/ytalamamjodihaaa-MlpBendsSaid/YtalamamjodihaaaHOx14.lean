/- What Go functions do, each as a plain Lean function with the same answers, and the proof of it, in every world: printed by the session's driver over the kit's print, with texts by hand. -/
import Derived.Test.YtalamamjodihaaaHOx0
namespace Go.Proofs.Ytalamamjodihaaa.HO
open Go.RowKit Go.Proofs.YtalamamjodihaaaW.PrintWords Go.Proofs.YtalamamjodihaaaW.PrintLast Go.Proofs.YtalamamjodihaaaW.PrintMore
attribute [local go_sem] max2_int min2_int max_two min_two max_three min_three max_four min_four   -- for this text's walks alone
open Go.Proofs.Ytalamamjodihaaa.Sp
attribute [local go_sem] Go.Proofs.Ytalamamjodihaaa.Sp.u64_not
set_option linter.unusedVariables false
set_option linter.unusedSimpArgs false

/-! ### thrumref01_overP: function 88 -/
mutual
def thrumref01_overP.l0 : Nat → Int → Int → Int → Int → Int → Bool → Int → Option (Int × Int × Bool)
 | 0, _, _, _, _, _, _, _ => none
 | k + 1, x0, x1, x2, x9, x10, x11, x12 => if x12 ≥ 0 then (if 0 ≤ (Go.bits .and .i64 x12 63) then (if x12 ≥ 64 then (thrumref01_overP.j1 k x0 x1 x2 x9 x10 x11 x12 (Go.bits .and .u64 (shr .u64 x0 (Go.bits .and .i64 x12 63)) 1)) else (thrumref01_overP.j1 k x0 x1 x2 x9 x10 x11 x12 (Go.bits .and .u64 (shr .u64 x1 (Go.bits .and .i64 x12 63)) 1))) else (none)) else (some (x9, x10, x11))
def thrumref01_overP.j1 : Nat → Int → Int → Int → Int → Int → Bool → Int → Int → Option (Int × Int × Bool)
 | 0, _, _, _, _, _, _, _, _ => none
 | k + 1, x0, x1, x2, x9, x10, x11, x12, x13 => if (x10 / 9223372036854775808) = 1 then (thrumref01_overP.j2 k x0 x1 x2 x9 (Go.bits .or .u64 (IntKind.u64.wrap (x10 * 2)) x13) x11 x12 0 true) else (thrumref01_overP.j2 k x0 x1 x2 x9 (Go.bits .or .u64 (IntKind.u64.wrap (x10 * 2)) x13) x11 x12 0 (decide ((Go.bits .or .u64 (IntKind.u64.wrap (x10 * 2)) x13) ≥ x2)))
def thrumref01_overP.j2 : Nat → Int → Int → Int → Int → Int → Bool → Int → Int → Bool → Option (Int × Int × Bool)
 | 0, _, _, _, _, _, _, _, _, _ => none
 | k + 1, x0, x1, x2, x9, x10, x11, x12, x15, x44 => if x44 = true then (thrumref01_overP.j3 k x0 x1 x2 x9 (IntKind.u64.wrap (x10 - x2)) x11 x12 1) else (thrumref01_overP.j3 k x0 x1 x2 x9 x10 x11 x12 x15)
def thrumref01_overP.j3 : Nat → Int → Int → Int → Int → Int → Bool → Int → Int → Option (Int × Int × Bool)
 | 0, _, _, _, _, _, _, _, _ => none
 | k + 1, x0, x1, x2, x9, x10, x11, x12, x15 => if x12 < 64 then (if 0 ≤ x12 then (thrumref01_overP.l0 k x0 x1 x2 (Go.bits .or .u64 x9 (shl .u64 x15 x12)) x10 x11 (wrap64 (x12 - 1))) else (none)) else (if x15 = 1 then (thrumref01_overP.l0 k x0 x1 x2 x9 x10 false (wrap64 (x12 - 1))) else (thrumref01_overP.l0 k x0 x1 x2 x9 x10 x11 (wrap64 (x12 - 1))))
end
def thrumref01_overP.f (k : Nat) (a0 : Int) (a1 : Int) (a2 : Int) : Option (Int × Int × Bool) := thrumref01_overP.l0 k a0 a1 a2 0 0 true 127
theorem thrumref01_overP.mono_l : ∀ k, (∀ y0 y1 y2 y3 y4 y5 y6, LeO (thrumref01_overP.l0 k y0 y1 y2 y3 y4 y5 y6) (thrumref01_overP.l0 (k + 1) y0 y1 y2 y3 y4 y5 y6)) ∧ (∀ y0 y1 y2 y3 y4 y5 y6 y7, LeO (thrumref01_overP.j1 k y0 y1 y2 y3 y4 y5 y6 y7) (thrumref01_overP.j1 (k + 1) y0 y1 y2 y3 y4 y5 y6 y7)) ∧ (∀ y0 y1 y2 y3 y4 y5 y6 y7 y8, LeO (thrumref01_overP.j2 k y0 y1 y2 y3 y4 y5 y6 y7 y8) (thrumref01_overP.j2 (k + 1) y0 y1 y2 y3 y4 y5 y6 y7 y8)) ∧ (∀ y0 y1 y2 y3 y4 y5 y6 y7, LeO (thrumref01_overP.j3 k y0 y1 y2 y3 y4 y5 y6 y7) (thrumref01_overP.j3 (k + 1) y0 y1 y2 y3 y4 y5 y6 y7))
 | 0 => ⟨fun _ _ _ _ _ _ _ r h => by simp [thrumref01_overP.l0] at h, fun _ _ _ _ _ _ _ _ r h => by simp [thrumref01_overP.j1] at h, fun _ _ _ _ _ _ _ _ _ r h => by simp [thrumref01_overP.j2] at h, fun _ _ _ _ _ _ _ _ r h => by simp [thrumref01_overP.j3] at h⟩
 | k + 1 => by
  obtain ⟨ih0, ih1, ih2, ih3⟩ := thrumref01_overP.mono_l k
  refine ⟨?_, ?_, ?_, ?_⟩
  ·
   intro y0 y1 y2 y3 y4 y5 y6
   unfold thrumref01_overP.l0
   repeat' first
   | (with_reducible exact ih0 _ _ _ _ _ _ _)
   | (with_reducible exact ih1 _ _ _ _ _ _ _ _)
   | (with_reducible exact ih2 _ _ _ _ _ _ _ _ _)
   | (with_reducible exact ih3 _ _ _ _ _ _ _ _)
   | (with_reducible exact LeO.refl _)
   | (with_reducible exact LeO.none _)
   | (with_reducible refine LeO.ite ?_ ?_)
   | (with_reducible refine LeO.bind ?_ (fun _ => ?_))
   | exact ih0 _ _ _ _ _ _ _
   | exact ih1 _ _ _ _ _ _ _ _
   | exact ih2 _ _ _ _ _ _ _ _ _
   | exact ih3 _ _ _ _ _ _ _ _
   | exact LeO.none _
   | refine LeO.ite ?_ ?_
   | refine LeO.bind ?_ (fun _ => ?_)
  ·
   intro y0 y1 y2 y3 y4 y5 y6 y7
   unfold thrumref01_overP.j1
   repeat' first
   | (with_reducible exact ih0 _ _ _ _ _ _ _)
   | (with_reducible exact ih1 _ _ _ _ _ _ _ _)
   | (with_reducible exact ih2 _ _ _ _ _ _ _ _ _)
   | (with_reducible exact ih3 _ _ _ _ _ _ _ _)
   | (with_reducible exact LeO.refl _)
   | (with_reducible exact LeO.none _)
   | (with_reducible refine LeO.ite ?_ ?_)
   | (with_reducible refine LeO.bind ?_ (fun _ => ?_))
   | exact ih0 _ _ _ _ _ _ _
   | exact ih1 _ _ _ _ _ _ _ _
   | exact ih2 _ _ _ _ _ _ _ _ _
   | exact ih3 _ _ _ _ _ _ _ _
   | exact LeO.none _
   | refine LeO.ite ?_ ?_
   | refine LeO.bind ?_ (fun _ => ?_)
  ·
   intro y0 y1 y2 y3 y4 y5 y6 y7 y8
   unfold thrumref01_overP.j2
   repeat' first
   | (with_reducible exact ih0 _ _ _ _ _ _ _)
   | (with_reducible exact ih1 _ _ _ _ _ _ _ _)
   | (with_reducible exact ih2 _ _ _ _ _ _ _ _ _)
   | (with_reducible exact ih3 _ _ _ _ _ _ _ _)
   | (with_reducible exact LeO.refl _)
   | (with_reducible exact LeO.none _)
   | (with_reducible refine LeO.ite ?_ ?_)
   | (with_reducible refine LeO.bind ?_ (fun _ => ?_))
   | exact ih0 _ _ _ _ _ _ _
   | exact ih1 _ _ _ _ _ _ _ _
   | exact ih2 _ _ _ _ _ _ _ _ _
   | exact ih3 _ _ _ _ _ _ _ _
   | exact LeO.none _
   | refine LeO.ite ?_ ?_
   | refine LeO.bind ?_ (fun _ => ?_)
  ·
   intro y0 y1 y2 y3 y4 y5 y6 y7
   unfold thrumref01_overP.j3
   repeat' first
   | (with_reducible exact ih0 _ _ _ _ _ _ _)
   | (with_reducible exact ih1 _ _ _ _ _ _ _ _)
   | (with_reducible exact ih2 _ _ _ _ _ _ _ _ _)
   | (with_reducible exact ih3 _ _ _ _ _ _ _ _)
   | (with_reducible exact LeO.refl _)
   | (with_reducible exact LeO.none _)
   | (with_reducible refine LeO.ite ?_ ?_)
   | (with_reducible refine LeO.bind ?_ (fun _ => ?_))
   | exact ih0 _ _ _ _ _ _ _
   | exact ih1 _ _ _ _ _ _ _ _
   | exact ih2 _ _ _ _ _ _ _ _ _
   | exact ih3 _ _ _ _ _ _ _ _
   | exact LeO.none _
   | refine LeO.ite ?_ ?_
   | refine LeO.bind ?_ (fun _ => ?_)
theorem thrumref01_overP.mono : ∀ a0 a1 a2 k, LeO (thrumref01_overP.f k a0 a1 a2) (thrumref01_overP.f (k + 1) a0 a1 a2) := by
 intro a0 a1 a2 k
 obtain ⟨ih0, ih1, ih2, ih3⟩ := thrumref01_overP.mono_l k
 unfold thrumref01_overP.f
 repeat' first
   | (with_reducible exact ih0 _ _ _ _ _ _ _)
   | (with_reducible exact ih1 _ _ _ _ _ _ _ _)
   | (with_reducible exact ih2 _ _ _ _ _ _ _ _ _)
   | (with_reducible exact ih3 _ _ _ _ _ _ _ _)
   | (with_reducible exact LeO.refl _)
   | (with_reducible exact LeO.none _)
   | (with_reducible refine LeO.ite ?_ ?_)
   | (with_reducible refine LeO.bind ?_ (fun _ => ?_))
   | exact ih0 _ _ _ _ _ _ _
   | exact ih1 _ _ _ _ _ _ _ _
   | exact ih2 _ _ _ _ _ _ _ _ _
   | exact ih3 _ _ _ _ _ _ _ _
   | exact LeO.none _
   | refine LeO.ite ?_ ?_
   | refine LeO.bind ?_ (fun _ => ?_)
set_option maxHeartbeats 8000000 in
set_option maxRecDepth 100000 in
theorem thrumref01_overP.calls (k : Nat) (a0 : Int) (a1 : Int) (a2 : Int) (r1 : Int) (r2 : Int) (r3 : Bool) (w : World) (h : thrumref01_overP.f k a0 a1 a2 = some (r1, r2, r3)) :
  Calls Try.prog 88 #[.int .u64 a0, .int .u64 a1, .int .u64 a2] w fun e w' => e = .returned (.tuple #[.int .u64 r1, .int .u64 r2, .bool r3]) ∧ Drawn0 w w' := by
 have H : (thrumref01_overP.l0 k a0 a1 a2 0 0 true 127) = some (r1, r2, r3) := h
 clear h
 have H' := Aside0.mk H
 clear H
 go_enter Try.func88, Try.ntmps88
 go_wp2
 go_loopg [9, 10, 11, 12] k (fun kq v9 v10 v11 v12 w' => ∃ (x9_1 : Int) (x10_1 : Int) (x11_1 : Bool) (x12_1 : Int), v9 = .int .u64 x9_1 ∧ v10 = .int .u64 x10_1 ∧ v11 = .bool x11_1 ∧ v12 = .int .i64 x12_1 ∧ Aside0 (thrumref01_overP.l0 kq a0 a1 a2 x9_1 x10_1 x11_1 x12_1 = some (r1, r2, r3)) ∧ Aside0 (kq ≤ k) ∧ Drawn0 w w')
 case atStart => exact ⟨(0), (0), (true), (127), (by first | rfl | (simp; done) | (simp [*]; done)), (by first | rfl | (simp; done) | (simp [*]; done)), (by first | rfl | (simp; done) | (simp [*]; done)), (by first | rfl | (simp; done) | (simp [*]; done)), H', ⟨Nat.le_refl _⟩, by repeat (first | exact ddR _ | apply ddS)⟩
 case round =>
  clear H'
  try clear p2
  obtain ⟨x9_1, x10_1, x11_1, x12_1, rfl, rfl, rfl, rfl, HA, HK1, ⟨m1, rfl⟩⟩ := hrel
  cases gk with
  | zero => exact absurd HA.out (by simp [thrumref01_overP.l0])
  | succ k1 =>
   have H := HA.out
   clear HA
   simp only [thrumref01_overP.l0] at H
   by_cases c4 : x12_1 ≥ 0
   ·
    rw [if_pos c4] at H
    have c4b0 : decide (0 ≤ x12_1) = true := decide_eq_true c4
    clear c4
    by_cases c5 : 0 ≤ (Go.bits .and .i64 x12_1 63)
    ·
     rw [if_pos c5] at H
     have c5b0 := eq_true c5
     have c5b1 : decide (0 ≤ (Go.bits .and .i64 x12_1 63)) = true := decide_eq_true c5
     clear c5
     obtain ⟨ji6, hji6⟩ : ∃ j_ : Int, (shr .u64 a1 (Go.bits .and .i64 x12_1 63)) = j_ := ⟨_, rfl⟩
     replace H : (if x12_1 ≥ 64 then (thrumref01_overP.j1 k1 a0 a1 a2 x9_1 x10_1 x11_1 x12_1 (Go.bits .and .u64 (shr .u64 a0 (Go.bits .and .i64 x12_1 63)) 1)) else (thrumref01_overP.j1 k1 a0 a1 a2 x9_1 x10_1 x11_1 x12_1 (Go.bits .and .u64 (ji6) 1))) = some (r1, r2, r3) := by first | (rw [hji6] at H; exact H) | (simp only [hji6] at H ⊢; exact H)
     have hji6_ : (a1 / 2 ^ min (Go.bits .and .i64 x12_1 63).toNat 64) = ji6 := hji6
     have hji6z : (Go.bits .and .i64 x12_1 63) ≤ 64 → (a1 / 2 ^ (Go.bits .and .i64 x12_1 63).toNat) = ji6 := shr_small hji6
     have HC7 := Aside0.mk H
     clear H
     go_upto_if 26 with (fail)
     go_cut [13] (fun v13 wc => ∃ (kq : Nat) (x13_6 : Int), v13 = .int .u64 x13_6 ∧ Aside0 (thrumref01_overP.j1 kq a0 a1 a2 x9_1 x10_1 x11_1 x12_1 x13_6 = some (r1, r2, r3)) ∧ Aside0 (kq ≤ k1) ∧ Drawn0 w wc)
     case first =>
      have H := HC7.out
      clear HC7
      by_cases c8 : x12_1 ≥ 64
      ·
       rw [if_pos c8] at H
       have c8b0 : decide (64 ≤ x12_1) = true := decide_eq_true c8
       clear c8
       (first | rw [c8b0] | (simp only [i64_w, i32_w]; rw [c8b0]) | skip)
       have c9b0 := eq_true (of_decide_eq_true (by first | (with_reducible assumption) | assumption) : 0 ≤ (Go.bits .and .i64 x12_1 63))
       obtain ⟨ji10, hji10⟩ : ∃ j_ : Int, (shr .u64 a0 (Go.bits .and .i64 x12_1 63)) = j_ := ⟨_, rfl⟩
       replace H : (thrumref01_overP.j1 k1 a0 a1 a2 x9_1 x10_1 x11_1 x12_1 (Go.bits .and .u64 (ji10) 1)) = some (r1, r2, r3) := by first | (rw [hji10] at H; exact H) | (simp only [hji10] at H ⊢; exact H)
       have hji10_ : (a0 / 2 ^ min (Go.bits .and .i64 x12_1 63).toNat 64) = ji10 := hji10
       have hji10z : (Go.bits .and .i64 x12_1 63) ≤ 64 → (a0 / 2 ^ (Go.bits .and .i64 x12_1 63).toNat) = ji10 := shr_small hji10
       have H' := Aside0.mk H
       clear H
       go_wp2
       go_meet
       case rel => exact ⟨_, (Go.bits .and .u64 (ji10) 1), (by first | rfl | (simp; done) | (simp only [← hji10] <;> (first | rfl | simp)) | (simp [*]; done)), H', ⟨by have := HK1.out; first | omega | exact Nat.le_refl _⟩, by repeat (first | exact ddR _ | apply ddS)⟩
      ·
       rw [if_neg c8] at H
       have c8b0 : decide (64 ≤ x12_1) = false := decide_eq_false c8
       clear c8
       (first | rw [c8b0] | (simp only [i64_w, i32_w]; rw [c8b0]) | skip)
       have H' := Aside0.mk H
       clear H
       go_wp2
       go_meet
       case rel => exact ⟨_, (Go.bits .and .u64 (ji6) 1), (by first | rfl | (simp; done) | (simp only [← hji6] <;> (first | rfl | simp)) | (simp [*]; done)), H', ⟨by have := HK1.out; first | omega | exact Nat.le_refl _⟩, by repeat (first | exact ddR _ | apply ddS)⟩
     case rest =>
      clear HC7
      try clear p2
      try clear c4
      try clear c4b0
      try clear c5
      try clear c5b0
      try clear c5b1
      try clear c8
      try clear c8b0
      try clear c9
      try clear c9b0
      try clear p2
      obtain ⟨kq, x13_6, rfl, HA, HJ6, ⟨mc6, rfl⟩⟩ := hcut
      cases kq with
      | zero => exact absurd HA.out (by simp [thrumref01_overP.j1])
      | succ kj6 =>
       have H := HA.out
       clear HA
       simp only [thrumref01_overP.j1] at H
       have HC11 := Aside0.mk H
       clear H
       go_upto_region 13 with (fail)
       go_cut [14, 44] (fun v14 v44 wc => ∃ (kq : Nat) (x44_10 : Bool), v44 = .bool x44_10 ∧ Aside0 (thrumref01_overP.j2 kq a0 a1 a2 x9_1 (Go.bits .or .u64 (IntKind.u64.wrap (x10_1 * 2)) x13_6) x11_1 x12_1 0 x44_10 = some (r1, r2, r3)) ∧ Aside0 (kq ≤ kj6) ∧ Drawn0 w wc)
       case first =>
        have H := HC11.out
        clear HC11
        by_cases c12 : (x10_1 / 9223372036854775808) = 1
        ·
         rw [if_pos c12] at H
         have c12b0 : ((x10_1 / 9223372036854775808) == 1) = true := beq_iff_eq.mpr c12
         have c12b1 : ((x10_1 / 9223372036854775808) != 1) = false := bne_eq_false_iff_eq.mpr c12
         clear c12
         (first | rw [c12b0] | (simp only [i64_w, i32_w]; rw [c12b0]) | skip)
         have H' := Aside0.mk H
         clear H
         go_wp2
         go_meet
         case rel => exact ⟨_, (true), (by first | rfl | (simp; done) | (simp [*]; done)), H', ⟨by have := HK1.out; have := HJ6.out; first | omega | exact Nat.le_refl _⟩, by repeat (first | exact ddR _ | apply ddS)⟩
        ·
         rw [if_neg c12] at H
         have c12b0 : ((x10_1 / 9223372036854775808) == 1) = false := beq_eq_false_iff_ne.mpr c12
         have c12b1 : ((x10_1 / 9223372036854775808) != 1) = true := bne_iff_ne.mpr c12
         (first | rw [c12b0] | (simp only [i64_w, i32_w]; rw [c12b0]) | skip)
         have H' := Aside0.mk H
         clear H
         go_wp2
         go_meet
         case rel => exact ⟨_, (decide ((Go.bits .or .u64 (IntKind.u64.wrap (x10_1 * 2)) x13_6) ≥ a2)), (by first | rfl | (simp; done) | (simp [*]; done)), H', ⟨by have := HK1.out; have := HJ6.out; first | omega | exact Nat.le_refl _⟩, by repeat (first | exact ddR _ | apply ddS)⟩
       case rest =>
        clear HC11
        try clear c1
        try clear p2
        try clear c4
        try clear c4b0
        try clear c5
        try clear c5b0
        try clear c5b1
        try clear c6
        try clear c8
        try clear c8b0
        try clear c9
        try clear c9b0
        try clear c12
        try clear c12b0
        try clear c12b1
        try clear p2
        obtain ⟨kq, x44_10, rfl, HA, HJ10, ⟨mc10, rfl⟩⟩ := hcut
        cases kq with
        | zero => exact absurd HA.out (by simp [thrumref01_overP.j2])
        | succ kj10 =>
         have H := HA.out
         clear HA
         simp only [thrumref01_overP.j2] at H
         have HC13 := Aside0.mk H
         clear H
         go_upto_if 44 with (fail)
         go_cut [10, 15] (fun v10 v15 wc => ∃ (kq : Nat) (x10_12 : Int) (x15_12 : Int), v10 = .int .u64 x10_12 ∧ v15 = .int .u64 x15_12 ∧ Aside0 (thrumref01_overP.j3 kq a0 a1 a2 x9_1 x10_12 x11_1 x12_1 x15_12 = some (r1, r2, r3)) ∧ Aside0 (kq ≤ kj10) ∧ Drawn0 w wc)
         case first =>
          have H := HC13.out
          clear HC13
          by_cases c14 : x44_10 = true
          ·
           subst c14
           have H1 : (thrumref01_overP.j3 kj10 a0 a1 a2 x9_1 (IntKind.u64.wrap ((Go.bits .or .u64 (IntKind.u64.wrap (x10_1 * 2)) x13_6) - a2)) x11_1 x12_1 1) = some (r1, r2, r3) := by rw [if_pos rfl] at H; exact H
           clear H
           have H := H1
           clear H1
           have H' := Aside0.mk H
           clear H
           go_wp2
           go_meet
           case rel => exact ⟨_, (IntKind.u64.wrap ((Go.bits .or .u64 (IntKind.u64.wrap (x10_1 * 2)) x13_6) - a2)), (1), (by first | rfl | (simp; done) | (simp [*]; done)), (by first | rfl | (simp; done) | (simp [*]; done)), H', ⟨by have := HK1.out; have := HJ6.out; have := HJ10.out; first | omega | exact Nat.le_refl _⟩, by repeat (first | exact ddR _ | apply ddS)⟩
          ·
           replace c14 := Bool.eq_false_iff.mpr c14
           subst c14
           have H1 : (thrumref01_overP.j3 kj10 a0 a1 a2 x9_1 (Go.bits .or .u64 (IntKind.u64.wrap (x10_1 * 2)) x13_6) x11_1 x12_1 0) = some (r1, r2, r3) := by rw [if_neg (show ¬ (false = true) by decide)] at H; exact H
           clear H
           have H := H1
           clear H1
           have H' := Aside0.mk H
           clear H
           go_wp2
           go_meet
           case rel => exact ⟨_, ((Go.bits .or .u64 (IntKind.u64.wrap (x10_1 * 2)) x13_6)), (0), (by first | rfl | (simp; done) | (simp [*]; done)), (by first | rfl | (simp; done) | (simp [*]; done)), H', ⟨by have := HK1.out; have := HJ6.out; have := HJ10.out; first | omega | exact Nat.le_refl _⟩, by repeat (first | exact ddR _ | apply ddS)⟩
         case rest =>
          clear HC13
          try clear c1
          try clear p2
          try clear c4
          try clear c4b0
          try clear c5
          try clear c5b0
          try clear c5b1
          try clear c6
          try clear c8
          try clear c8b0
          try clear c9
          try clear c9b0
          try clear c10
          try clear c12
          try clear c12b0
          try clear c12b1
          try clear c14
          try clear p2
          obtain ⟨kq, x10_12, x15_12, rfl, rfl, HA, HJ12, ⟨mc12, rfl⟩⟩ := hcut
          cases kq with
          | zero => exact absurd HA.out (by simp [thrumref01_overP.j3])
          | succ kj12 =>
           have H := HA.out
           clear HA
           simp only [thrumref01_overP.j3] at H
           by_cases c15 : x12_1 < 64
           ·
            rw [if_pos c15] at H
            have c15b0 : decide (x12_1 < 64) = true := decide_eq_true c15
            clear c15
            by_cases c16 : 0 ≤ x12_1
            ·
             rw [if_pos c16] at H
             have c16b0 := eq_true c16
             have c16b1 : decide (0 ≤ x12_1) = true := decide_eq_true c16
             clear c16
             obtain ⟨ji17, hji17⟩ : ∃ j_ : Int, (shl .u64 x15_12 x12_1) = j_ := ⟨_, rfl⟩
             replace H : (thrumref01_overP.l0 kj12 a0 a1 a2 (Go.bits .or .u64 x9_1 (ji17)) x10_12 x11_1 (wrap64 (x12_1 - 1))) = some (r1, r2, r3) := by first | (rw [hji17] at H; exact H) | (simp only [hji17] at H ⊢; exact H)
             have hji17_ : (IntKind.u64.wrap (x15_12 * 2 ^ min x12_1.toNat 64)) = ji17 := hji17
             have hji17z : x12_1 ≤ 64 → (IntKind.u64.wrap (x15_12 * 2 ^ x12_1.toNat)) = ji17 := shl_small hji17
             have H' := Aside0.mk H
             clear H
             go_wp2
             go_roundg kj12
             case measure => have := HK1.out; have := HJ6.out; have := HJ10.out; have := HJ12.out; omega
             case rel => exact ⟨(Go.bits .or .u64 x9_1 (ji17)), (x10_12), (x11_1), (wrap64 (x12_1 - 1)), (by first | rfl | (simp; done) | (simp only [← hji17] <;> (first | rfl | simp)) | (simp [*]; done)), (by first | rfl | (simp; done) | (simp [*]; done)), (by first | rfl | (simp; done) | (simp [*]; done)), (by first | rfl | (simp; done) | (simp [*]; done)), H', ⟨by have := HK1.out; have := HJ6.out; have := HJ10.out; have := HJ12.out; omega⟩, by repeat (first | exact ddR _ | apply ddS)⟩
            ·
             rw [if_neg c16] at H
             exact absurd H (by simp)
           ·
            rw [if_neg c15] at H
            have c15b0 : decide (x12_1 < 64) = false := decide_eq_false c15
            clear c15
            by_cases c18 : x15_12 = 1
            ·
             rw [if_pos c18] at H
             have c18b0 : (x15_12 == 1) = true := beq_iff_eq.mpr c18
             have c18b1 : (x15_12 != 1) = false := bne_eq_false_iff_eq.mpr c18
             clear c18
             have H' := Aside0.mk H
             clear H
             go_wp2
             go_roundg kj12
             case measure => have := HK1.out; have := HJ6.out; have := HJ10.out; have := HJ12.out; omega
             case rel => exact ⟨(x9_1), (x10_12), (false), (wrap64 (x12_1 - 1)), (by first | rfl | (simp; done) | (simp [*]; done)), (by first | rfl | (simp; done) | (simp [*]; done)), (by first | rfl | (simp; done) | (simp [*]; done)), (by first | rfl | (simp; done) | (simp [*]; done)), H', ⟨by have := HK1.out; have := HJ6.out; have := HJ10.out; have := HJ12.out; omega⟩, by repeat (first | exact ddR _ | apply ddS)⟩
            ·
             rw [if_neg c18] at H
             have c18b0 : (x15_12 == 1) = false := beq_eq_false_iff_ne.mpr c18
             have c18b1 : (x15_12 != 1) = true := bne_iff_ne.mpr c18
             have H' := Aside0.mk H
             clear H
             go_wp2
             go_roundg kj12
             case measure => have := HK1.out; have := HJ6.out; have := HJ10.out; have := HJ12.out; omega
             case rel => exact ⟨(x9_1), (x10_12), (x11_1), (wrap64 (x12_1 - 1)), (by first | rfl | (simp; done) | (simp [*]; done)), (by first | rfl | (simp; done) | (simp [*]; done)), (by first | rfl | (simp; done) | (simp [*]; done)), (by first | rfl | (simp; done) | (simp [*]; done)), H', ⟨by have := HK1.out; have := HJ6.out; have := HJ10.out; have := HJ12.out; omega⟩, by repeat (first | exact ddR _ | apply ddS)⟩
    ·
     rw [if_neg c5] at H
     exact absurd H (by simp)
   ·
    rw [if_neg c4] at H
    have c4b0 : decide (0 ≤ x12_1) = false := decide_eq_false c4
    clear c4
    simp only [Option.some.injEq, Prod.mk.injEq] at H
    obtain ⟨rfl, rfl, rfl⟩ := H
    go_wp2
    go_ret3
    exact ⟨by first | rfl | (simp; done) | (simp [*]; done), by repeat (first | exact ddR _ | apply ddS)⟩

theorem thrumref01_overP.bit (h l n : Nat) (hh : h < 18446744073709551616) (hl : l < 18446744073709551616) (hn : n < 128) :
    (if (n : Int) ≥ 64 then Go.bits .and .u64 (shr .u64 (h : Int) (Go.bits .and .i64 (n : Int) 63)) 1 else Go.bits .and .u64 (shr .u64 (l : Int) (Go.bits .and .i64 (n : Int) 63)) 1) = (((h * 18446744073709551616 + l) / 2 ^ n % 2 : Nat) : Int) := by
  have e63 : Go.bits .and .i64 (n : Int) 63 = ((n % 64 : Nat) : Int) := by
    have := bits_mask .i64 62 (by decide) (fun m h0 h1 => by rw [IntKind.wrap_i64]; simp only [Int.reducePow] at h1; omega) 6 (by decide) (n : Int) (by omega) (by simp only [Int.reducePow]; omega)
    simp only [Int.reducePow, Int.reduceSub] at this
    rw [this]; omega
  have one : ∀ x : Nat, x < 18446744073709551616 → Go.bits .and .u64 (x : Int) 1 = ((x % 2 : Nat) : Int) := fun x hx => by
    have := u64_and_nat x 1 hx (by omega)
    rw [Nat.and_one_is_mod] at this
    exact this
  have sh : ∀ x m : Nat, m < 64 → shr .u64 (x : Int) (m : Int) = ((x / 2 ^ m : Nat) : Int) := fun x m hm => by
    unfold shr
    rw [show min ((m : Int)).toNat IntKind.u64.bits = m from by show min m 64 = m; omega, Int.natCast_ediv, Int.natCast_pow]; rfl
  rw [e63, sh h _ (by omega), sh l _ (by omega), one _ (Nat.lt_of_le_of_lt (Nat.div_le_self _ _) hh), one _ (Nat.lt_of_le_of_lt (Nat.div_le_self _ _) hl)]
  by_cases c : 64 ≤ n
  · rw [if_pos (by omega)]
    have e : 2 ^ n = 18446744073709551616 * 2 ^ (n % 64) := by
      rw [show (18446744073709551616 : Nat) = 2 ^ 64 from rfl, ← Nat.pow_add]; congr 1; omega
    rw [e, ← Nat.div_div_eq_div_mul, show (h * 18446744073709551616 + l) / 18446744073709551616 = h by omega]
  · rw [if_neg (by omega)]
    have e : h * 18446744073709551616 = 2 ^ n * (2 * (h * 2 ^ (63 - n))) := by
      have : (18446744073709551616 : Nat) = 2 ^ n * (2 * 2 ^ (63 - n)) := by
        rw [← Nat.pow_succ', ← Nat.pow_add, show n + (63 - n + 1) = 64 by omega]
      rw [this]; grind
    rw [e, Nat.mul_add_div (Nat.two_pow_pos n), show n % 64 = n by omega]
    omega

/-- The state ahead of bit n - 1: what stands of the number by 'by', so far. -/
theorem thrumref01_overP.loop (h l b : Nat) (hh : h < 18446744073709551616) (hl : l < 18446744073709551616) (hb0 : 0 < b) (hb : b < 18446744073709551616) (N : Nat) (hN : N = h * 18446744073709551616 + l) (n : Nat) : n ≤ 128 → ∀ k,
    thrumref01_overP.l0 (4 * n + 1 + k) h l b ((N / 2 ^ n / b * 2 ^ n % 18446744073709551616 : Nat) : Int) ((N / 2 ^ n % b : Nat) : Int) (decide (N / 2 ^ n / b * 2 ^ n < 18446744073709551616)) ((n : Int) - 1) = some (((N / b % 18446744073709551616 : Nat) : Int), ((N % b : Nat) : Int), decide (N / b < 18446744073709551616)) := by
  induction n with
  | zero =>
    intro _ k
    rw [show 4 * 0 + 1 + k = k + 1 by omega, thrumref01_overP.l0, if_neg (by omega)]
    simp
  | succ n ih =>
    intro hn k
    have ih := ih (by omega) k
    obtain ⟨T, hT⟩ : ∃ T, T = N / 2 ^ (n + 1) := ⟨_, rfl⟩
    obtain ⟨B, hB⟩ : ∃ B, B = N / 2 ^ n % 2 := ⟨_, rfl⟩
    have hB2 : B < 2 := by omega
    have hTn : N / 2 ^ n = 2 * T + B := by
      have : N / 2 ^ (n + 1) = N / 2 ^ n / 2 := by rw [Nat.pow_succ, Nat.div_div_eq_div_mul]
      omega
    rw [← hT]
    rw [hTn] at ih
    obtain ⟨Q, hQ⟩ : ∃ Q, Q = T / b := ⟨_, rfl⟩
    obtain ⟨L, hL⟩ : ∃ L, L = T % b := ⟨_, rfl⟩
    have hTQ : T = b * Q + L := by rw [hQ, hL]; exact (Nat.div_add_mod T b).symm
    have hLb : L < b := by rw [hL]; exact Nat.mod_lt _ hb0
    rw [← hQ, ← hL]
    -- one more bit
    have step : (2 * T + B) / b = 2 * Q + (if b ≤ 2 * L + B then 1 else 0) ∧ (2 * T + B) % b = (if b ≤ 2 * L + B then 2 * L + B - b else 2 * L + B) := by
      have e : 2 * T + B = b * (2 * Q) + (2 * L + B) := by rw [hTQ]; grind
      rw [e, Nat.mul_add_div hb0, Nat.mul_add_mod]
      by_cases c : b ≤ 2 * L + B
      · rw [if_pos c, if_pos c]
        refine ⟨?_, ?_⟩
        · rw [Nat.div_eq_sub_div hb0 c, Nat.div_eq_of_lt (by omega)]
        · rw [Nat.mod_eq_sub_mod c, Nat.mod_eq_of_lt (by omega)]
      · rw [if_neg c, if_neg c, Nat.div_eq_of_lt (by omega), Nat.mod_eq_of_lt (by omega)]; exact ⟨rfl, rfl⟩
    rw [step.1, step.2] at ih
    clear step hTn hT hTQ hQ hL
    rw [show ((n + 1 : Nat) : Int) - 1 = (n : Int) by omega, show 4 * (n + 1) + 1 + k = (4 * n + 1 + k + 3) + 1 by omega, thrumref01_overP.l0, if_pos (by omega)]
    have hbit := thrumref01_overP.bit h l n hh hl (by omega)
    rw [← hN, ← hB] at hbit
    have nn : 0 ≤ Go.bits .and .i64 (n : Int) 63 := by
      have := bits_mask .i64 62 (by decide) (fun m h0 h1 => by rw [IntKind.wrap_i64]; simp only [Int.reducePow] at h1; omega) 6 (by decide) (n : Int) (by omega) (by simp only [Int.reducePow]; omega)
      simp only [Int.reducePow, Int.reduceSub] at this
      rw [this]; omega
    rw [if_pos nn]
    obtain ⟨q, hq⟩ : ∃ q : Int, q = ((Q * 2 ^ (n + 1) % 18446744073709551616 : Nat) : Int) := ⟨_, rfl⟩
    obtain ⟨f, hf⟩ : ∃ f : Bool, f = decide (Q * 2 ^ (n + 1) < 18446744073709551616) := ⟨_, rfl⟩
    rw [← hq, ← hf]
    have go : (if (n : Int) ≥ 64 then thrumref01_overP.j1 (4 * n + 1 + k + 3) h l b q (L : Int) f (n : Int) (Go.bits .and .u64 (shr .u64 (h : Int) (Go.bits .and .i64 (n : Int) 63)) 1) else thrumref01_overP.j1 (4 * n + 1 + k + 3) h l b q (L : Int) f (n : Int) (Go.bits .and .u64 (shr .u64 (l : Int) (Go.bits .and .i64 (n : Int) 63)) 1)) = thrumref01_overP.j1 (4 * n + 1 + k + 3) h l b q (L : Int) f (n : Int) (B : Int) := by
      rw [← hbit]; split <;> rfl
    rw [go, thrumref01_overP.j1]
    have eor : Go.bits .or .u64 (IntKind.u64.wrap ((L : Int) * 2)) (B : Int) = (((2 * L + B) % 18446744073709551616 : Nat) : Int) := by
      rw [wu, or_join 1 (by unfold U64; omega) (by simp only [Int.reducePow]; omega) (by omega) (by simp only [Int.reducePow]; omega) (by unfold U64; omega)]; omega
    rw [eor]
    -- is it taken away?
    have j2 : (if (L : Int) / 9223372036854775808 = 1 then thrumref01_overP.j2 (4 * n + 1 + k + 2) h l b q (((2 * L + B) % 18446744073709551616 : Nat) : Int) f (n : Int) 0 true else thrumref01_overP.j2 (4 * n + 1 + k + 2) h l b q (((2 * L + B) % 18446744073709551616 : Nat) : Int) f (n : Int) 0 (decide ((((2 * L + B) % 18446744073709551616 : Nat) : Int) ≥ (b : Int)))) = thrumref01_overP.j2 (4 * n + 1 + k + 2) h l b q (((2 * L + B) % 18446744073709551616 : Nat) : Int) f (n : Int) 0 (decide (b ≤ 2 * L + B)) := by
      by_cases c : (L : Int) / 9223372036854775808 = 1
      · rw [if_pos c, decide_eq_true (show b ≤ 2 * L + B by omega)]
      · rw [if_neg c]
        congr 1
        rw [decide_eq_decide]; omega
    rw [j2, thrumref01_overP.j2]
    have e2 : (if decide (b ≤ 2 * L + B) = true then thrumref01_overP.j3 (4 * n + 1 + k + 1) h l b q (IntKind.u64.wrap ((((2 * L + B) % 18446744073709551616 : Nat) : Int) - (b : Int))) f (n : Int) 1 else thrumref01_overP.j3 (4 * n + 1 + k + 1) h l b q (((2 * L + B) % 18446744073709551616 : Nat) : Int) f (n : Int) 0) = thrumref01_overP.j3 (4 * n + 1 + k + 1) h l b q ((if b ≤ 2 * L + B then 2 * L + B - b else 2 * L + B : Nat) : Int) f (n : Int) ((if b ≤ 2 * L + B then 1 else 0 : Nat) : Int) := by
      by_cases c : b ≤ 2 * L + B
      · simp only [c, decide_true, if_true, wu]
        congr 1; omega
      · simp only [c, decide_false, if_false, Bool.false_eq_true]
        congr 1; omega
    rw [e2, thrumref01_overP.j3]
    obtain ⟨o, ho⟩ : ∃ o : Nat, o = if b ≤ 2 * L + B then 1 else 0 := ⟨_, rfl⟩
    have ho1 : o ≤ 1 := by rw [ho]; split <;> omega
    rw [← ho] at ih ⊢
    obtain ⟨P, hP⟩ : ∃ P : Nat, P = 2 ^ n := ⟨_, rfl⟩
    have hPpos : 0 < P := by rw [hP]; exact Nat.two_pow_pos n
    have hP1 : 2 ^ (n + 1) = 2 * P := by rw [Nat.pow_succ, hP]; omega
    rw [hP1] at hq hf
    rw [← hP] at ih
    have eQ : (2 * Q + o) * P = Q * (2 * P) + o * P := by grind
    rw [eQ] at ih
    have hoP : o * P = if o = 1 then P else 0 := by
      have : o = 0 ∨ o = 1 := by omega
      rcases this with r | r <;> rw [r] <;> simp
    by_cases c : n < 64
    · rw [if_pos (by omega), if_pos (by omega)]
      have hPd : ∃ M : Nat, 18446744073709551616 = M * (2 * P) := ⟨2 ^ (63 - n), by rw [hP, ← Nat.pow_succ', ← Nat.pow_add, show 63 - n + (n + 1) = 64 by omega]⟩
      obtain ⟨M, hM⟩ := hPd
      have hMpos : 0 < M := by rcases Nat.eq_zero_or_pos M with r | r; · rw [r] at hM; omega
                               · exact r
      have eq1 : Q * (2 * P) % 18446744073709551616 = Q % M * (2 * P) := by rw [hM]; exact Nat.mul_mod_mul_right _ _ _
      have hle : Q % M * (2 * P) + 2 * P ≤ 18446744073709551616 := by
        have := Nat.mul_le_mul_right (2 * P) (show Q % M + 1 ≤ M from Nat.mod_lt _ hMpos)
        rw [Nat.add_mul] at this; omega
      have eshl : shl .u64 (o : Int) (n : Int) = ((o * P : Nat) : Int) := by
        unfold shl
        rw [show min ((n : Int)).toNat IntKind.u64.bits = n from by show min n 64 = n; omega, wu, show (2 : Int) ^ n = ((P : Nat) : Int) by rw [hP]; simp, ← Int.natCast_mul, hoP]
        split <;> omega
      have hmm : (Q % M * (2 * P)) % (2 * P) = 0 := Nat.mul_mod_left _ _
      have enew : Go.bits .or .u64 q (shl .u64 (o : Int) (n : Int)) = (((Q * (2 * P) + o * P) % 18446744073709551616 : Nat) : Int) := by
        rw [eshl, hq, eq1]
        rw [or_join (n + 1) (by unfold U64; omega) (by rw [show (2 : Int) ^ (n + 1) = ((2 * P : Nat) : Int) by rw [← hP1]; simp, ← Int.natCast_emod, hmm]; rfl) (by omega) (by rw [show (2 : Int) ^ (n + 1) = ((2 * P : Nat) : Int) by rw [← hP1]; simp, hoP]; split <;> omega) (by rw [hoP]; unfold U64; split <;> omega)]
        rw [Nat.add_mod, eq1, hoP]
        split <;> omega
      have ef : f = decide (Q * (2 * P) + o * P < 18446744073709551616) := by
        rw [hf, decide_eq_decide, hoP]
        constructor
        · intro hlt
          have : Q < M := by
            rcases Nat.lt_or_ge Q M with r | r
            · exact r
            · have := Nat.mul_le_mul_right (2 * P) r; omega
          rw [Nat.mod_eq_of_lt this] at hle
          split <;> omega
        · intro hlt; omega
      rw [enew, ef, show wrap64 ((n : Int) - 1) = (n : Int) - 1 from wrap64_of (by unfold I64; omega)]
      exact ih
    · rw [if_neg (by omega)]
      have hbig : ∃ M : Nat, P = M * 18446744073709551616 ∧ 0 < M := ⟨2 ^ (n - 64), by rw [hP, show (18446744073709551616 : Nat) = 2 ^ 64 from rfl, ← Nat.pow_add]; congr 1; omega, Nat.two_pow_pos _⟩
      obtain ⟨M, hM, hMpos⟩ := hbig
      have hPbig : 18446744073709551616 ≤ P := by rw [hM]; have := Nat.mul_le_mul_right 18446744073709551616 (show 1 ≤ M from hMpos); omega
      have hq0 : Q * (2 * P) % 18446744073709551616 = 0 := by rw [hM, show Q * (2 * (M * 18446744073709551616)) = (Q * 2 * M) * 18446744073709551616 by grind]; exact Nat.mul_mod_left _ _
      have hq1 : (Q * (2 * P) + o * P) % 18446744073709551616 = 0 := by rw [hM, show Q * (2 * (M * 18446744073709551616)) + o * (M * 18446744073709551616) = (Q * 2 * M + o * M) * 18446744073709551616 by grind]; exact Nat.mul_mod_left _ _
      rw [hq1] at ih
      rw [hq0] at hq
      have hQ0 : Q * (2 * P) < 18446744073709551616 ↔ Q = 0 := by
        constructor
        · intro hlt
          rcases Nat.eq_zero_or_pos Q with r | r
          · exact r
          · have := Nat.mul_le_mul_right (2 * P) (show 1 ≤ Q from r); omega
        · rintro rfl; omega
      rw [hq, show wrap64 ((n : Int) - 1) = (n : Int) - 1 from wrap64_of (by unfold I64; omega)]
      by_cases c1 : o = 1
      · rw [if_pos (by omega)]
        rw [hoP, if_pos c1, decide_eq_false (by omega)] at ih
        exact ih
      · rw [if_neg (by omega)]
        rw [hoP, if_neg c1] at ih
        have ef : f = decide (Q * (2 * P) + 0 < 18446744073709551616) := by rw [hf]; simp
        rw [ef]
        exact ih
def thrumref01_over.f (a0 a1 a2 : Int) : Option (Int × Int × Bool) := if U64 a0 ∧ U64 a1 ∧ U64 a2 ∧ 0 < a2 then some ((a0 * 18446744073709551616 + a1) / a2 % 18446744073709551616, (a0 * 18446744073709551616 + a1) % a2, decide ((a0 * 18446744073709551616 + a1) / a2 < 18446744073709551616)) else none
theorem thrumref01_over.of (a0 a1 a2 : Int)  (h_ : U64 a0 ∧ U64 a1 ∧ U64 a2 ∧ 0 < a2) : thrumref01_over.f a0 a1 a2 = some ((a0 * 18446744073709551616 + a1) / a2 % 18446744073709551616, (a0 * 18446744073709551616 + a1) % a2, decide ((a0 * 18446744073709551616 + a1) / a2 < 18446744073709551616)) := if_pos h_
theorem thrumref01_overP.spec {a0 a1 a2 : Int} (h0 : U64 a0) (h1 : U64 a1) (h2 : U64 a2) (h : 0 < a2) : thrumref01_overP.f 513 a0 a1 a2 = some ((a0 * 18446744073709551616 + a1) / a2 % 18446744073709551616, (a0 * 18446744073709551616 + a1) % a2, decide ((a0 * 18446744073709551616 + a1) / a2 < 18446744073709551616)) := by
  unfold U64 at h0 h1 h2
  obtain ⟨x, rfl⟩ := Int.eq_ofNat_of_zero_le h0.1
  obtain ⟨y, rfl⟩ := Int.eq_ofNat_of_zero_le h1.1
  obtain ⟨z, rfl⟩ := Int.eq_ofNat_of_zero_le h2.1
  obtain ⟨N, hN⟩ : ∃ N : Nat, N = x * 18446744073709551616 + y := ⟨_, rfl⟩
  have e : (x : Int) * 18446744073709551616 + (y : Int) = (N : Int) := by omega
  have hlt : N < 2 ^ 128 := by
    rw [show (2 : Nat) ^ 128 = 340282366920938463463374607431768211456 from rfl]; omega
  have k := thrumref01_overP.loop x y z (by omega) (by omega) (by omega) (by omega) N hN 128 (Nat.le_refl _) 0
  rw [Nat.div_eq_of_lt hlt] at k
  simp only [Nat.zero_div, Nat.zero_mul, Nat.zero_mod] at k
  rw [e]
  unfold thrumref01_overP.f
  refine Eq.trans (show _ = _ from k) ?_
  simp only [Option.some.injEq, Prod.mk.injEq, decide_eq_decide]
  refine ⟨by simp, by simp, ?_⟩
  rw [← Int.natCast_ediv]; omega
theorem thrumref01_over.calls (a0 : Int) (a1 : Int) (a2 : Int) (r1 : Int) (r2 : Int) (r3 : Bool) (w : World) (h : thrumref01_over.f a0 a1 a2 = some (r1, r2, r3)) :
    Calls Try.prog 88 #[.int .u64 a0, .int .u64 a1, .int .u64 a2] w fun e w' => e = .returned (.tuple #[.int .u64 r1, .int .u64 r2, .bool r3]) ∧ Drawn0 w w' := by
  unfold thrumref01_over.f at h
  split at h
  · rename_i hu
    exact thrumref01_overP.calls 513 a0 a1 a2 r1 r2 r3 w ((thrumref01_overP.spec hu.1 hu.2.1 hu.2.2.1 hu.2.2.2).trans h)
  · cases h


end Go.Proofs.Ytalamamjodihaaa.HO
