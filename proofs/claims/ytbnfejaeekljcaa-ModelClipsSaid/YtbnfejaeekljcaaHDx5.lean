/- What Go functions do, each as a plain Lean function with the same answers, and the proof of it, in every world: printed by the session's driver over the kit's print, with texts by hand. -/
import Derived.Test.YtbnfejaeekljcaaHDx0
import Derived.Test.YtbnfejaeekljcaaHDx4
namespace Go.Proofs.Ytbnfejaeekljcaa.HD
open Go.RowKit Go.Proofs.YtbnfejaeekljcaaW.PrintWords Go.Proofs.YtbnfejaeekljcaaW.PrintLast Go.Proofs.YtbnfejaeekljcaaW.PrintMore
attribute [local go_sem] max2_int min2_int max_two min_two max_three min_three max_four min_four   -- for this text's walks alone
open Go.Proofs.Ytbnfejaeekljcaa.Sp
attribute [local go_sem] Go.Proofs.Ytbnfejaeekljcaa.Sp.u64_not
set_option linter.unusedVariables false
set_option linter.unusedSimpArgs false

/-! ### bits_Div64P: function 90 -/
mutual
def bits_Div64P.j2 : Nat → Int → Int → Int → Int → Int → Int → Int → Int → Option (Int × Int)
 | 0, _, _, _, _, _, _, _, _ => none
 | k + 1, x2, x8, x9, x10, x11, x13, x14, x15 => if x9 = 0 then (none) else (bits_Div64P.l1 k x2 x8 x9 x10 x14 x15 (IntKind.u64.wrap ((IntKind.u64.wrap ((IntKind.u64.wrap ((IntKind.u64.wrap (x11 * 4294967296)) + x13)) - (IntKind.u64.wrap (x15 * x2)))) - (IntKind.u64.wrap ((IntKind.u64.wrap (Int.tdiv (IntKind.u64.wrap ((IntKind.u64.wrap ((IntKind.u64.wrap (x11 * 4294967296)) + x13)) - (IntKind.u64.wrap (x15 * x2)))) x9)) * x9)))) (IntKind.u64.wrap ((IntKind.u64.wrap ((IntKind.u64.wrap (x11 * 4294967296)) + x13)) - (IntKind.u64.wrap (x15 * x2)))) (IntKind.u64.wrap (Int.tdiv (IntKind.u64.wrap ((IntKind.u64.wrap ((IntKind.u64.wrap (x11 * 4294967296)) + x13)) - (IntKind.u64.wrap (x15 * x2)))) x9)))
def bits_Div64P.l1 : Nat → Int → Int → Int → Int → Int → Int → Int → Int → Int → Option (Int × Int)
 | 0, _, _, _, _, _, _, _, _, _ => none
 | k + 1, x2, x8, x9, x10, x14, x15, x16, x17, x18 => if x18 ≥ 4294967296 then (bits_Div64P.j4 k x2 x8 x9 x10 x14 x15 x16 x17 x18 true) else (bits_Div64P.j4 k x2 x8 x9 x10 x14 x15 x16 x17 x18 (decide ((IntKind.u64.wrap (x18 * x10)) > (IntKind.u64.wrap ((IntKind.u64.wrap (4294967296 * x16)) + x14)))))
def bits_Div64P.j4 : Nat → Int → Int → Int → Int → Int → Int → Int → Int → Int → Bool → Option (Int × Int)
 | 0, _, _, _, _, _, _, _, _, _, _ => none
 | k + 1, x2, x8, x9, x10, x14, x15, x16, x17, x18, x113 => if x113 = true then (if (IntKind.u64.wrap (x16 + x9)) ≥ 4294967296 then (if 0 ≤ x8 then (some (IntKind.u64.wrap ((IntKind.u64.wrap (x15 * 4294967296)) + (IntKind.u64.wrap (x18 - 1))), shr .u64 (IntKind.u64.wrap ((IntKind.u64.wrap ((IntKind.u64.wrap (x17 * 4294967296)) + x14)) - (IntKind.u64.wrap ((IntKind.u64.wrap (x18 - 1)) * x2)))) x8)) else (none)) else (bits_Div64P.l1 k x2 x8 x9 x10 x14 x15 (IntKind.u64.wrap (x16 + x9)) x17 (IntKind.u64.wrap (x18 - 1)))) else (if 0 ≤ x8 then (some (IntKind.u64.wrap ((IntKind.u64.wrap (x15 * 4294967296)) + x18), shr .u64 (IntKind.u64.wrap ((IntKind.u64.wrap ((IntKind.u64.wrap (x17 * 4294967296)) + x14)) - (IntKind.u64.wrap (x18 * x2)))) x8)) else (none))
def bits_Div64P.l0 : Nat → Int → Int → Int → Int → Int → Int → Int → Int → Int → Option (Int × Int)
 | 0, _, _, _, _, _, _, _, _, _ => none
 | k + 1, x2, x8, x9, x10, x11, x13, x14, x15, x16 => if x15 ≥ 4294967296 then (bits_Div64P.j1 k x2 x8 x9 x10 x11 x13 x14 x15 x16 true) else (bits_Div64P.j1 k x2 x8 x9 x10 x11 x13 x14 x15 x16 (decide ((IntKind.u64.wrap (x15 * x10)) > (IntKind.u64.wrap ((IntKind.u64.wrap (4294967296 * x16)) + x13)))))
def bits_Div64P.j1 : Nat → Int → Int → Int → Int → Int → Int → Int → Int → Int → Bool → Option (Int × Int)
 | 0, _, _, _, _, _, _, _, _, _, _ => none
 | k + 1, x2, x8, x9, x10, x11, x13, x14, x15, x16, x78 => if x78 = true then (if (IntKind.u64.wrap (x16 + x9)) ≥ 4294967296 then (bits_Div64P.j2 k x2 x8 x9 x10 x11 x13 x14 (IntKind.u64.wrap (x15 - 1))) else (bits_Div64P.l0 k x2 x8 x9 x10 x11 x13 x14 (IntKind.u64.wrap (x15 - 1)) (IntKind.u64.wrap (x16 + x9)))) else (bits_Div64P.j2 k x2 x8 x9 x10 x11 x13 x14 x15)
end
def bits_Div64P.f (k : Nat) (a0 : Int) (a1 : Int) (a2 : Int) : Option (Int × Int) := if a2 = 0 then (none) else (if a2 ≤ a0 then (none) else (if a0 = 0 then (some (IntKind.u64.wrap (Int.tdiv a1 a2), Int.tmod a1 a2)) else ((bits_LeadingZeros64.f a2).bind fun t179 => (if 0 ≤ (IntKind.u64.wrap (t179)) then (if 0 ≤ (IntKind.u64.wrap (64 - (IntKind.u64.wrap (t179)))) then (if ((shl .u64 a2 (IntKind.u64.wrap (t179))) / 4294967296) = 0 then (none) else (bits_Div64P.l0 k (shl .u64 a2 (IntKind.u64.wrap (t179))) (IntKind.u64.wrap (t179)) ((shl .u64 a2 (IntKind.u64.wrap (t179))) / 4294967296) (Go.bits .and .u64 (shl .u64 a2 (IntKind.u64.wrap (t179))) 4294967295) (Go.bits .or .u64 (shl .u64 a0 (IntKind.u64.wrap (t179))) (shr .u64 a1 (IntKind.u64.wrap (64 - (IntKind.u64.wrap (t179)))))) ((shl .u64 a1 (IntKind.u64.wrap (t179))) / 4294967296) (Go.bits .and .u64 (shl .u64 a1 (IntKind.u64.wrap (t179))) 4294967295) (IntKind.u64.wrap (Int.tdiv (Go.bits .or .u64 (shl .u64 a0 (IntKind.u64.wrap (t179))) (shr .u64 a1 (IntKind.u64.wrap (64 - (IntKind.u64.wrap (t179)))))) ((shl .u64 a2 (IntKind.u64.wrap (t179))) / 4294967296))) (IntKind.u64.wrap ((Go.bits .or .u64 (shl .u64 a0 (IntKind.u64.wrap (t179))) (shr .u64 a1 (IntKind.u64.wrap (64 - (IntKind.u64.wrap (t179)))))) - (IntKind.u64.wrap ((IntKind.u64.wrap (Int.tdiv (Go.bits .or .u64 (shl .u64 a0 (IntKind.u64.wrap (t179))) (shr .u64 a1 (IntKind.u64.wrap (64 - (IntKind.u64.wrap (t179)))))) ((shl .u64 a2 (IntKind.u64.wrap (t179))) / 4294967296))) * ((shl .u64 a2 (IntKind.u64.wrap (t179))) / 4294967296))))))) else (none)) else (none)))))
theorem bits_Div64P.mono_l : ∀ k, (∀ y0 y1 y2 y3 y4 y5 y6 y7, LeO (bits_Div64P.j2 k y0 y1 y2 y3 y4 y5 y6 y7) (bits_Div64P.j2 (k + 1) y0 y1 y2 y3 y4 y5 y6 y7)) ∧ (∀ y0 y1 y2 y3 y4 y5 y6 y7 y8, LeO (bits_Div64P.l1 k y0 y1 y2 y3 y4 y5 y6 y7 y8) (bits_Div64P.l1 (k + 1) y0 y1 y2 y3 y4 y5 y6 y7 y8)) ∧ (∀ y0 y1 y2 y3 y4 y5 y6 y7 y8 y9, LeO (bits_Div64P.j4 k y0 y1 y2 y3 y4 y5 y6 y7 y8 y9) (bits_Div64P.j4 (k + 1) y0 y1 y2 y3 y4 y5 y6 y7 y8 y9)) ∧ (∀ y0 y1 y2 y3 y4 y5 y6 y7 y8, LeO (bits_Div64P.l0 k y0 y1 y2 y3 y4 y5 y6 y7 y8) (bits_Div64P.l0 (k + 1) y0 y1 y2 y3 y4 y5 y6 y7 y8)) ∧ (∀ y0 y1 y2 y3 y4 y5 y6 y7 y8 y9, LeO (bits_Div64P.j1 k y0 y1 y2 y3 y4 y5 y6 y7 y8 y9) (bits_Div64P.j1 (k + 1) y0 y1 y2 y3 y4 y5 y6 y7 y8 y9))
 | 0 => ⟨fun _ _ _ _ _ _ _ _ r h => by simp [bits_Div64P.j2] at h, fun _ _ _ _ _ _ _ _ _ r h => by simp [bits_Div64P.l1] at h, fun _ _ _ _ _ _ _ _ _ _ r h => by simp [bits_Div64P.j4] at h, fun _ _ _ _ _ _ _ _ _ r h => by simp [bits_Div64P.l0] at h, fun _ _ _ _ _ _ _ _ _ _ r h => by simp [bits_Div64P.j1] at h⟩
 | k + 1 => by
  obtain ⟨ih0, ih1, ih2, ih3, ih4⟩ := bits_Div64P.mono_l k
  refine ⟨?_, ?_, ?_, ?_, ?_⟩
  ·
   intro y0 y1 y2 y3 y4 y5 y6 y7
   unfold bits_Div64P.j2
   repeat' first
   | (with_reducible exact ih0 _ _ _ _ _ _ _ _)
   | (with_reducible exact ih1 _ _ _ _ _ _ _ _ _)
   | (with_reducible exact ih2 _ _ _ _ _ _ _ _ _ _)
   | (with_reducible exact ih3 _ _ _ _ _ _ _ _ _)
   | (with_reducible exact ih4 _ _ _ _ _ _ _ _ _ _)
   | (with_reducible exact LeO.refl _)
   | (with_reducible exact LeO.none _)
   | (with_reducible refine LeO.ite ?_ ?_)
   | (with_reducible refine LeO.bind ?_ (fun _ => ?_))
   | exact ih0 _ _ _ _ _ _ _ _
   | exact ih1 _ _ _ _ _ _ _ _ _
   | exact ih2 _ _ _ _ _ _ _ _ _ _
   | exact ih3 _ _ _ _ _ _ _ _ _
   | exact ih4 _ _ _ _ _ _ _ _ _ _
   | exact LeO.none _
   | refine LeO.ite ?_ ?_
   | refine LeO.bind ?_ (fun _ => ?_)
  ·
   intro y0 y1 y2 y3 y4 y5 y6 y7 y8
   unfold bits_Div64P.l1
   repeat' first
   | (with_reducible exact ih0 _ _ _ _ _ _ _ _)
   | (with_reducible exact ih1 _ _ _ _ _ _ _ _ _)
   | (with_reducible exact ih2 _ _ _ _ _ _ _ _ _ _)
   | (with_reducible exact ih3 _ _ _ _ _ _ _ _ _)
   | (with_reducible exact ih4 _ _ _ _ _ _ _ _ _ _)
   | (with_reducible exact LeO.refl _)
   | (with_reducible exact LeO.none _)
   | (with_reducible refine LeO.ite ?_ ?_)
   | (with_reducible refine LeO.bind ?_ (fun _ => ?_))
   | exact ih0 _ _ _ _ _ _ _ _
   | exact ih1 _ _ _ _ _ _ _ _ _
   | exact ih2 _ _ _ _ _ _ _ _ _ _
   | exact ih3 _ _ _ _ _ _ _ _ _
   | exact ih4 _ _ _ _ _ _ _ _ _ _
   | exact LeO.none _
   | refine LeO.ite ?_ ?_
   | refine LeO.bind ?_ (fun _ => ?_)
  ·
   intro y0 y1 y2 y3 y4 y5 y6 y7 y8 y9
   unfold bits_Div64P.j4
   repeat' first
   | (with_reducible exact ih0 _ _ _ _ _ _ _ _)
   | (with_reducible exact ih1 _ _ _ _ _ _ _ _ _)
   | (with_reducible exact ih2 _ _ _ _ _ _ _ _ _ _)
   | (with_reducible exact ih3 _ _ _ _ _ _ _ _ _)
   | (with_reducible exact ih4 _ _ _ _ _ _ _ _ _ _)
   | (with_reducible exact LeO.refl _)
   | (with_reducible exact LeO.none _)
   | (with_reducible refine LeO.ite ?_ ?_)
   | (with_reducible refine LeO.bind ?_ (fun _ => ?_))
   | exact ih0 _ _ _ _ _ _ _ _
   | exact ih1 _ _ _ _ _ _ _ _ _
   | exact ih2 _ _ _ _ _ _ _ _ _ _
   | exact ih3 _ _ _ _ _ _ _ _ _
   | exact ih4 _ _ _ _ _ _ _ _ _ _
   | exact LeO.none _
   | refine LeO.ite ?_ ?_
   | refine LeO.bind ?_ (fun _ => ?_)
  ·
   intro y0 y1 y2 y3 y4 y5 y6 y7 y8
   unfold bits_Div64P.l0
   repeat' first
   | (with_reducible exact ih0 _ _ _ _ _ _ _ _)
   | (with_reducible exact ih1 _ _ _ _ _ _ _ _ _)
   | (with_reducible exact ih2 _ _ _ _ _ _ _ _ _ _)
   | (with_reducible exact ih3 _ _ _ _ _ _ _ _ _)
   | (with_reducible exact ih4 _ _ _ _ _ _ _ _ _ _)
   | (with_reducible exact LeO.refl _)
   | (with_reducible exact LeO.none _)
   | (with_reducible refine LeO.ite ?_ ?_)
   | (with_reducible refine LeO.bind ?_ (fun _ => ?_))
   | exact ih0 _ _ _ _ _ _ _ _
   | exact ih1 _ _ _ _ _ _ _ _ _
   | exact ih2 _ _ _ _ _ _ _ _ _ _
   | exact ih3 _ _ _ _ _ _ _ _ _
   | exact ih4 _ _ _ _ _ _ _ _ _ _
   | exact LeO.none _
   | refine LeO.ite ?_ ?_
   | refine LeO.bind ?_ (fun _ => ?_)
  ·
   intro y0 y1 y2 y3 y4 y5 y6 y7 y8 y9
   unfold bits_Div64P.j1
   repeat' first
   | (with_reducible exact ih0 _ _ _ _ _ _ _ _)
   | (with_reducible exact ih1 _ _ _ _ _ _ _ _ _)
   | (with_reducible exact ih2 _ _ _ _ _ _ _ _ _ _)
   | (with_reducible exact ih3 _ _ _ _ _ _ _ _ _)
   | (with_reducible exact ih4 _ _ _ _ _ _ _ _ _ _)
   | (with_reducible exact LeO.refl _)
   | (with_reducible exact LeO.none _)
   | (with_reducible refine LeO.ite ?_ ?_)
   | (with_reducible refine LeO.bind ?_ (fun _ => ?_))
   | exact ih0 _ _ _ _ _ _ _ _
   | exact ih1 _ _ _ _ _ _ _ _ _
   | exact ih2 _ _ _ _ _ _ _ _ _ _
   | exact ih3 _ _ _ _ _ _ _ _ _
   | exact ih4 _ _ _ _ _ _ _ _ _ _
   | exact LeO.none _
   | refine LeO.ite ?_ ?_
   | refine LeO.bind ?_ (fun _ => ?_)
theorem bits_Div64P.mono : ∀ a0 a1 a2 k, LeO (bits_Div64P.f k a0 a1 a2) (bits_Div64P.f (k + 1) a0 a1 a2) := by
 intro a0 a1 a2 k
 obtain ⟨ih0, ih1, ih2, ih3, ih4⟩ := bits_Div64P.mono_l k
 unfold bits_Div64P.f
 repeat' first
   | (with_reducible exact ih0 _ _ _ _ _ _ _ _)
   | (with_reducible exact ih1 _ _ _ _ _ _ _ _ _)
   | (with_reducible exact ih2 _ _ _ _ _ _ _ _ _ _)
   | (with_reducible exact ih3 _ _ _ _ _ _ _ _ _)
   | (with_reducible exact ih4 _ _ _ _ _ _ _ _ _ _)
   | (with_reducible exact LeO.refl _)
   | (with_reducible exact LeO.none _)
   | (with_reducible refine LeO.ite ?_ ?_)
   | (with_reducible refine LeO.bind ?_ (fun _ => ?_))
   | exact ih0 _ _ _ _ _ _ _ _
   | exact ih1 _ _ _ _ _ _ _ _ _
   | exact ih2 _ _ _ _ _ _ _ _ _ _
   | exact ih3 _ _ _ _ _ _ _ _ _
   | exact ih4 _ _ _ _ _ _ _ _ _ _
   | exact LeO.none _
   | refine LeO.ite ?_ ?_
   | refine LeO.bind ?_ (fun _ => ?_)
set_option maxHeartbeats 8000000 in
set_option maxRecDepth 100000 in
theorem bits_Div64P.calls (k : Nat) (a0 : Int) (a1 : Int) (a2 : Int) (r1 : Int) (r2 : Int) (w : World) (h : bits_Div64P.f k a0 a1 a2 = some (r1, r2)) :
  Calls Try.prog 90 #[.int .u64 a0, .int .u64 a1, .int .u64 a2] w fun e w' => e = .returned (.tuple #[.int .u64 r1, .int .u64 r2]) ∧ Drawn0 w w' := by
 have H : (if a2 = 0 then (none) else (if a2 ≤ a0 then (none) else (if a0 = 0 then (some (IntKind.u64.wrap (Int.tdiv a1 a2), Int.tmod a1 a2)) else ((bits_LeadingZeros64.f a2).bind fun t179 => (if 0 ≤ (IntKind.u64.wrap (t179)) then (if 0 ≤ (IntKind.u64.wrap (64 - (IntKind.u64.wrap (t179)))) then (if ((shl .u64 a2 (IntKind.u64.wrap (t179))) / 4294967296) = 0 then (none) else (bits_Div64P.l0 k (shl .u64 a2 (IntKind.u64.wrap (t179))) (IntKind.u64.wrap (t179)) ((shl .u64 a2 (IntKind.u64.wrap (t179))) / 4294967296) (Go.bits .and .u64 (shl .u64 a2 (IntKind.u64.wrap (t179))) 4294967295) (Go.bits .or .u64 (shl .u64 a0 (IntKind.u64.wrap (t179))) (shr .u64 a1 (IntKind.u64.wrap (64 - (IntKind.u64.wrap (t179)))))) ((shl .u64 a1 (IntKind.u64.wrap (t179))) / 4294967296) (Go.bits .and .u64 (shl .u64 a1 (IntKind.u64.wrap (t179))) 4294967295) (IntKind.u64.wrap (Int.tdiv (Go.bits .or .u64 (shl .u64 a0 (IntKind.u64.wrap (t179))) (shr .u64 a1 (IntKind.u64.wrap (64 - (IntKind.u64.wrap (t179)))))) ((shl .u64 a2 (IntKind.u64.wrap (t179))) / 4294967296))) (IntKind.u64.wrap ((Go.bits .or .u64 (shl .u64 a0 (IntKind.u64.wrap (t179))) (shr .u64 a1 (IntKind.u64.wrap (64 - (IntKind.u64.wrap (t179)))))) - (IntKind.u64.wrap ((IntKind.u64.wrap (Int.tdiv (Go.bits .or .u64 (shl .u64 a0 (IntKind.u64.wrap (t179))) (shr .u64 a1 (IntKind.u64.wrap (64 - (IntKind.u64.wrap (t179)))))) ((shl .u64 a2 (IntKind.u64.wrap (t179))) / 4294967296))) * ((shl .u64 a2 (IntKind.u64.wrap (t179))) / 4294967296))))))) else (none)) else (none)))))) = some (r1, r2) := h
 clear h
 by_cases c4 : a2 = 0
 ·
  rw [if_pos c4] at H
  exact absurd H (by simp)
 ·
  rw [if_neg c4] at H
  have c4b0 : (a2 == 0) = false := beq_eq_false_iff_ne.mpr c4
  have c4b1 : (a2 != 0) = true := bne_iff_ne.mpr c4
  by_cases c5 : a2 ≤ a0
  ·
   rw [if_pos c5] at H
   exact absurd H (by simp)
  ·
   rw [if_neg c5] at H
   have c5b0 : decide (a2 ≤ a0) = false := decide_eq_false c5
   clear c5
   by_cases c6 : a0 = 0
   ·
    rw [if_pos c6] at H
    have c6b0 : (a0 == 0) = true := beq_iff_eq.mpr c6
    have c6b1 : (a0 != 0) = false := bne_eq_false_iff_eq.mpr c6
    clear c6
    simp only [Option.some.injEq, Prod.mk.injEq] at H
    obtain ⟨rfl, rfl⟩ := H
    go_enter Try.func90, Try.ntmps90
    go_wp2
    repeat (go_quiet (fail); try go_wp2)
    go_ret2
    exact ⟨by first | rfl | (simp; done) | (simp [*]; done), by repeat (first | exact ddR _ | apply ddS)⟩
   ·
    rw [if_neg c6] at H
    have c6b0 : (a0 == 0) = false := beq_eq_false_iff_ne.mpr c6
    have c6b1 : (a0 != 0) = true := bne_iff_ne.mpr c6
    replace H := Option.bind_eq_some_iff.mp H
    obtain ⟨t179, A70, H⟩ := H
    replace H : (if 0 ≤ (IntKind.u64.wrap (t179)) then (if 0 ≤ (IntKind.u64.wrap (64 - (IntKind.u64.wrap (t179)))) then (if ((shl .u64 a2 (IntKind.u64.wrap (t179))) / 4294967296) = 0 then (none) else (bits_Div64P.l0 k (shl .u64 a2 (IntKind.u64.wrap (t179))) (IntKind.u64.wrap (t179)) ((shl .u64 a2 (IntKind.u64.wrap (t179))) / 4294967296) (Go.bits .and .u64 (shl .u64 a2 (IntKind.u64.wrap (t179))) 4294967295) (Go.bits .or .u64 (shl .u64 a0 (IntKind.u64.wrap (t179))) (shr .u64 a1 (IntKind.u64.wrap (64 - (IntKind.u64.wrap (t179)))))) ((shl .u64 a1 (IntKind.u64.wrap (t179))) / 4294967296) (Go.bits .and .u64 (shl .u64 a1 (IntKind.u64.wrap (t179))) 4294967295) (IntKind.u64.wrap (Int.tdiv (Go.bits .or .u64 (shl .u64 a0 (IntKind.u64.wrap (t179))) (shr .u64 a1 (IntKind.u64.wrap (64 - (IntKind.u64.wrap (t179)))))) ((shl .u64 a2 (IntKind.u64.wrap (t179))) / 4294967296))) (IntKind.u64.wrap ((Go.bits .or .u64 (shl .u64 a0 (IntKind.u64.wrap (t179))) (shr .u64 a1 (IntKind.u64.wrap (64 - (IntKind.u64.wrap (t179)))))) - (IntKind.u64.wrap ((IntKind.u64.wrap (Int.tdiv (Go.bits .or .u64 (shl .u64 a0 (IntKind.u64.wrap (t179))) (shr .u64 a1 (IntKind.u64.wrap (64 - (IntKind.u64.wrap (t179)))))) ((shl .u64 a2 (IntKind.u64.wrap (t179))) / 4294967296))) * ((shl .u64 a2 (IntKind.u64.wrap (t179))) / 4294967296))))))) else (none)) else (none)) = some (r1, r2) := H
    have A7 := Aside0.mk A70
    clear A70
    obtain ⟨ji8, hji8⟩ : ∃ j_ : Int, (IntKind.u64.wrap (t179)) = j_ := ⟨_, rfl⟩
    replace H : (if 0 ≤ (ji8) then (if 0 ≤ (IntKind.u64.wrap (64 - (ji8))) then (if ((shl .u64 a2 (ji8)) / 4294967296) = 0 then (none) else (bits_Div64P.l0 k (shl .u64 a2 (ji8)) ji8 ((shl .u64 a2 (ji8)) / 4294967296) (Go.bits .and .u64 (shl .u64 a2 (ji8)) 4294967295) (Go.bits .or .u64 (shl .u64 a0 (ji8)) (shr .u64 a1 (IntKind.u64.wrap (64 - (ji8))))) ((shl .u64 a1 (ji8)) / 4294967296) (Go.bits .and .u64 (shl .u64 a1 (ji8)) 4294967295) (IntKind.u64.wrap (Int.tdiv (Go.bits .or .u64 (shl .u64 a0 (ji8)) (shr .u64 a1 (IntKind.u64.wrap (64 - (ji8))))) ((shl .u64 a2 (ji8)) / 4294967296))) (IntKind.u64.wrap ((Go.bits .or .u64 (shl .u64 a0 (ji8)) (shr .u64 a1 (IntKind.u64.wrap (64 - (ji8))))) - (IntKind.u64.wrap ((IntKind.u64.wrap (Int.tdiv (Go.bits .or .u64 (shl .u64 a0 (ji8)) (shr .u64 a1 (IntKind.u64.wrap (64 - (ji8))))) ((shl .u64 a2 (ji8)) / 4294967296))) * ((shl .u64 a2 (ji8)) / 4294967296))))))) else (none)) else (none)) = some (r1, r2) := by first | (rw [hji8] at H; exact H) | (simp only [hji8] at H ⊢; exact H)
    (try rw [hji8] at A7)
    by_cases c9 : 0 ≤ (ji8)
    ·
     rw [if_pos c9] at H
     have c9b0 := eq_true c9
     have c9b1 : decide (0 ≤ (ji8)) = true := decide_eq_true c9
     clear c9
     obtain ⟨ji10, hji10⟩ : ∃ j_ : Int, (shl .u64 a2 (ji8)) = j_ := ⟨_, rfl⟩
     replace H : (if 0 ≤ (IntKind.u64.wrap (64 - (ji8))) then (if ((ji10) / 4294967296) = 0 then (none) else (bits_Div64P.l0 k ji10 ji8 ((ji10) / 4294967296) (Go.bits .and .u64 (ji10) 4294967295) (Go.bits .or .u64 (shl .u64 a0 (ji8)) (shr .u64 a1 (IntKind.u64.wrap (64 - (ji8))))) ((shl .u64 a1 (ji8)) / 4294967296) (Go.bits .and .u64 (shl .u64 a1 (ji8)) 4294967295) (IntKind.u64.wrap (Int.tdiv (Go.bits .or .u64 (shl .u64 a0 (ji8)) (shr .u64 a1 (IntKind.u64.wrap (64 - (ji8))))) ((ji10) / 4294967296))) (IntKind.u64.wrap ((Go.bits .or .u64 (shl .u64 a0 (ji8)) (shr .u64 a1 (IntKind.u64.wrap (64 - (ji8))))) - (IntKind.u64.wrap ((IntKind.u64.wrap (Int.tdiv (Go.bits .or .u64 (shl .u64 a0 (ji8)) (shr .u64 a1 (IntKind.u64.wrap (64 - (ji8))))) ((ji10) / 4294967296))) * ((ji10) / 4294967296))))))) else (none)) = some (r1, r2) := by first | (rw [hji10] at H; exact H) | (simp only [hji10] at H ⊢; exact H)
     (try rw [hji10] at A7)
     have hji10_ : (IntKind.u64.wrap (a2 * 2 ^ min (ji8).toNat 64)) = ji10 := hji10
     have hji10z : (ji8) ≤ 64 → (IntKind.u64.wrap (a2 * 2 ^ (ji8).toNat)) = ji10 := shl_small hji10
     have c11b0 := eq_true (of_decide_eq_true (by first | (with_reducible assumption) | assumption) : 0 ≤ (ji8))
     obtain ⟨ji12, hji12⟩ : ∃ j_ : Int, (shl .u64 a0 (ji8)) = j_ := ⟨_, rfl⟩
     replace H : (if 0 ≤ (IntKind.u64.wrap (64 - (ji8))) then (if ((ji10) / 4294967296) = 0 then (none) else (bits_Div64P.l0 k ji10 ji8 ((ji10) / 4294967296) (Go.bits .and .u64 (ji10) 4294967295) (Go.bits .or .u64 (ji12) (shr .u64 a1 (IntKind.u64.wrap (64 - (ji8))))) ((shl .u64 a1 (ji8)) / 4294967296) (Go.bits .and .u64 (shl .u64 a1 (ji8)) 4294967295) (IntKind.u64.wrap (Int.tdiv (Go.bits .or .u64 (ji12) (shr .u64 a1 (IntKind.u64.wrap (64 - (ji8))))) ((ji10) / 4294967296))) (IntKind.u64.wrap ((Go.bits .or .u64 (ji12) (shr .u64 a1 (IntKind.u64.wrap (64 - (ji8))))) - (IntKind.u64.wrap ((IntKind.u64.wrap (Int.tdiv (Go.bits .or .u64 (ji12) (shr .u64 a1 (IntKind.u64.wrap (64 - (ji8))))) ((ji10) / 4294967296))) * ((ji10) / 4294967296))))))) else (none)) = some (r1, r2) := by first | (rw [hji12] at H; exact H) | (simp only [hji12] at H ⊢; exact H)
     (try rw [hji12] at A7)
     have hji12_ : (IntKind.u64.wrap (a0 * 2 ^ min (ji8).toNat 64)) = ji12 := hji12
     have hji12z : (ji8) ≤ 64 → (IntKind.u64.wrap (a0 * 2 ^ (ji8).toNat)) = ji12 := shl_small hji12
     obtain ⟨ji13, hji13⟩ : ∃ j_ : Int, (IntKind.u64.wrap (64 - (ji8))) = j_ := ⟨_, rfl⟩
     replace H : (if 0 ≤ (ji13) then (if ((ji10) / 4294967296) = 0 then (none) else (bits_Div64P.l0 k ji10 ji8 ((ji10) / 4294967296) (Go.bits .and .u64 (ji10) 4294967295) (Go.bits .or .u64 (ji12) (shr .u64 a1 (ji13))) ((shl .u64 a1 (ji8)) / 4294967296) (Go.bits .and .u64 (shl .u64 a1 (ji8)) 4294967295) (IntKind.u64.wrap (Int.tdiv (Go.bits .or .u64 (ji12) (shr .u64 a1 (ji13))) ((ji10) / 4294967296))) (IntKind.u64.wrap ((Go.bits .or .u64 (ji12) (shr .u64 a1 (ji13))) - (IntKind.u64.wrap ((IntKind.u64.wrap (Int.tdiv (Go.bits .or .u64 (ji12) (shr .u64 a1 (ji13))) ((ji10) / 4294967296))) * ((ji10) / 4294967296))))))) else (none)) = some (r1, r2) := by first | (rw [hji13] at H; exact H) | (simp only [hji13] at H ⊢; exact H)
     (try rw [hji13] at A7)
     by_cases c14 : 0 ≤ (ji13)
     ·
      rw [if_pos c14] at H
      have c14b0 := eq_true c14
      have c14b1 : decide (0 ≤ (ji13)) = true := decide_eq_true c14
      clear c14
      obtain ⟨ji15, hji15⟩ : ∃ j_ : Int, (shr .u64 a1 (ji13)) = j_ := ⟨_, rfl⟩
      replace H : (if ((ji10) / 4294967296) = 0 then (none) else (bits_Div64P.l0 k ji10 ji8 ((ji10) / 4294967296) (Go.bits .and .u64 (ji10) 4294967295) (Go.bits .or .u64 (ji12) (ji15)) ((shl .u64 a1 (ji8)) / 4294967296) (Go.bits .and .u64 (shl .u64 a1 (ji8)) 4294967295) (IntKind.u64.wrap (Int.tdiv (Go.bits .or .u64 (ji12) (ji15)) ((ji10) / 4294967296))) (IntKind.u64.wrap ((Go.bits .or .u64 (ji12) (ji15)) - (IntKind.u64.wrap ((IntKind.u64.wrap (Int.tdiv (Go.bits .or .u64 (ji12) (ji15)) ((ji10) / 4294967296))) * ((ji10) / 4294967296))))))) = some (r1, r2) := by first | (rw [hji15] at H; exact H) | (simp only [hji15] at H ⊢; exact H)
      (try rw [hji15] at A7)
      have hji15_ : (a1 / 2 ^ min (ji13).toNat 64) = ji15 := hji15
      have hji15z : (ji13) ≤ 64 → (a1 / 2 ^ (ji13).toNat) = ji15 := shr_small hji15
      have c16b0 := eq_true (of_decide_eq_true (by first | (with_reducible assumption) | assumption) : 0 ≤ (ji8))
      obtain ⟨ji17, hji17⟩ : ∃ j_ : Int, (shl .u64 a1 (ji8)) = j_ := ⟨_, rfl⟩
      replace H : (if ((ji10) / 4294967296) = 0 then (none) else (bits_Div64P.l0 k ji10 ji8 ((ji10) / 4294967296) (Go.bits .and .u64 (ji10) 4294967295) (Go.bits .or .u64 (ji12) (ji15)) ((ji17) / 4294967296) (Go.bits .and .u64 (ji17) 4294967295) (IntKind.u64.wrap (Int.tdiv (Go.bits .or .u64 (ji12) (ji15)) ((ji10) / 4294967296))) (IntKind.u64.wrap ((Go.bits .or .u64 (ji12) (ji15)) - (IntKind.u64.wrap ((IntKind.u64.wrap (Int.tdiv (Go.bits .or .u64 (ji12) (ji15)) ((ji10) / 4294967296))) * ((ji10) / 4294967296))))))) = some (r1, r2) := by first | (rw [hji17] at H; exact H) | (simp only [hji17] at H ⊢; exact H)
      (try rw [hji17] at A7)
      have hji17_ : (IntKind.u64.wrap (a1 * 2 ^ min (ji8).toNat 64)) = ji17 := hji17
      have hji17z : (ji8) ≤ 64 → (IntKind.u64.wrap (a1 * 2 ^ (ji8).toNat)) = ji17 := shl_small hji17
      by_cases c18 : ((ji10) / 4294967296) = 0
      ·
       rw [if_pos c18] at H
       exact absurd H (by simp)
      ·
       rw [if_neg c18] at H
       have c18b0 : (((ji10) / 4294967296) == 0) = false := beq_eq_false_iff_ne.mpr c18
       have c18b1 : (((ji10) / 4294967296) != 0) = true := bne_iff_ne.mpr c18
       have HC19 := Aside0.mk H
       clear H
       go_enter Try.func90, Try.ntmps90
       go_upto_block 0 with (first | (go_at_call 97; (with_reducible refine (bits_LeadingZeros64.calls a2 t179 _ A7.out).mono ?_); rintro e w' ⟨rfl, ⟨nd, rfl⟩⟩; (try first | exact ⟨rfl, _, wwN _ _ _⟩ | exact ⟨rfl, _, ww3 _ _ _ _⟩)))
       repeat (go_quiet (first | (go_at_call 97; (with_reducible refine (bits_LeadingZeros64.calls a2 t179 _ A7.out).mono ?_); rintro e w' ⟨rfl, ⟨nd, rfl⟩⟩; (try first | exact ⟨rfl, _, wwN _ _ _⟩ | exact ⟨rfl, _, ww3 _ _ _ _⟩))); go_upto_block 0 with (first | (go_at_call 97; (with_reducible refine (bits_LeadingZeros64.calls a2 t179 _ A7.out).mono ?_); rintro e w' ⟨rfl, ⟨nd, rfl⟩⟩; (try first | exact ⟨rfl, _, wwN _ _ _⟩ | exact ⟨rfl, _, ww3 _ _ _ _⟩))))
       (try simp only [Act.put, List.setIfInBounds_toArray, List.set_cons_zero, List.set_cons_succ])
       go_cut [15] (fun v15 wc => ∃ (kq : Nat) (x15_18 : Int), v15 = .int .u64 x15_18 ∧ Aside0 (bits_Div64P.j2 kq ji10 ji8 ((ji10) / 4294967296) (Go.bits .and .u64 (ji10) 4294967295) (Go.bits .or .u64 (ji12) (ji15)) ((ji17) / 4294967296) (Go.bits .and .u64 (ji17) 4294967295) x15_18 = some (r1, r2)) ∧ Aside0 (kq ≤ k) ∧ Drawn0 w wc)
       case first =>
        have H := HC19.out
        clear HC19
        have H' := Aside0.mk H
        clear H
        go_wp2
        repeat (go_quiet (fail); try go_wp2)
        go_loopg [15, 16] k (fun kq v15 v16 w' => ∃ (x15_1 : Int) (x16_1 : Int), v15 = .int .u64 x15_1 ∧ v16 = .int .u64 x16_1 ∧ Aside0 (bits_Div64P.l0 kq ji10 ji8 ((ji10) / 4294967296) (Go.bits .and .u64 (ji10) 4294967295) (Go.bits .or .u64 (ji12) (ji15)) ((ji17) / 4294967296) (Go.bits .and .u64 (ji17) 4294967295) x15_1 x16_1 = some (r1, r2)) ∧ Aside0 (kq ≤ k) ∧ Drawn0 w w')
        case atStart => exact ⟨(IntKind.u64.wrap (Int.tdiv (Go.bits .or .u64 (ji12) (ji15)) ((ji10) / 4294967296))), (IntKind.u64.wrap ((Go.bits .or .u64 (ji12) (ji15)) - (IntKind.u64.wrap ((IntKind.u64.wrap (Int.tdiv (Go.bits .or .u64 (ji12) (ji15)) ((ji10) / 4294967296))) * ((ji10) / 4294967296))))), (by first | rfl | (simp; done) | (simp only [← hji10, ← hji12, ← hji15] <;> (first | rfl | simp)) | (simp [*]; done)), (by first | rfl | (simp; done) | (simp only [← hji10, ← hji12, ← hji15] <;> (first | rfl | simp)) | (simp [*]; done)), H', ⟨Nat.le_refl _⟩, by repeat (first | exact ddR _ | apply ddS)⟩
        case round =>
         clear H'
         try clear c1
         try clear p2
         try clear c4
         try clear c4b0
         try clear c4b1
         try clear c5
         try clear c5b0
         try clear c6
         try clear c6b0
         try clear c6b1
         try clear c9
         try clear c9b0
         try clear c9b1
         try clear c11
         try clear c11b0
         try clear c14
         try clear c14b0
         try clear c14b1
         try clear c16
         try clear c16b0
         try clear c18
         try clear c18b0
         try clear c18b1
         obtain ⟨x15_1, x16_1, rfl, rfl, HA, HK1, ⟨m1, rfl⟩⟩ := hrel
         cases gk with
         | zero => exact absurd HA.out (by simp [bits_Div64P.l0])
         | succ k1 =>
          have H := HA.out
          clear HA
          simp only [bits_Div64P.l0] at H
          have HC20 := Aside0.mk H
          clear H
          go_upto_region 17 with (fail)
          repeat (go_quiet (fail); go_upto_region 17 with (fail))
          go_cut [78] (fun v78 wc => ∃ (kq : Nat) (x78_19 : Bool), v78 = .bool x78_19 ∧ Aside0 (bits_Div64P.j1 kq ji10 ji8 ((ji10) / 4294967296) (Go.bits .and .u64 (ji10) 4294967295) (Go.bits .or .u64 (ji12) (ji15)) ((ji17) / 4294967296) (Go.bits .and .u64 (ji17) 4294967295) x15_1 x16_1 x78_19 = some (r1, r2)) ∧ Aside0 (kq ≤ k1) ∧ Drawn0 w wc)
          case first =>
           have H := HC20.out
           clear HC20
           by_cases c21 : x15_1 ≥ 4294967296
           ·
            rw [if_pos c21] at H
            have c21b0 : decide (4294967296 ≤ x15_1) = true := decide_eq_true c21
            clear c21
            (first | rw [c21b0] | (simp only [i64_w, i32_w]; rw [c21b0]) | skip)
            have H' := Aside0.mk H
            clear H
            go_wp2
            repeat (go_quiet (fail); try go_wp2)
            go_meet
            case rel => exact ⟨_, (true), (by first | rfl | (simp; done) | (simp [*]; done)), H', ⟨by have := HK1.out; first | omega | exact Nat.le_refl _⟩, by repeat (first | exact ddR _ | apply ddS)⟩
           ·
            rw [if_neg c21] at H
            have c21b0 : decide (4294967296 ≤ x15_1) = false := decide_eq_false c21
            clear c21
            (first | rw [c21b0] | (simp only [i64_w, i32_w]; rw [c21b0]) | skip)
            have H' := Aside0.mk H
            clear H
            go_wp2
            repeat (go_quiet (fail); try go_wp2)
            go_meet
            case rel => exact ⟨_, (decide ((IntKind.u64.wrap (x15_1 * (Go.bits .and .u64 (ji10) 4294967295))) > (IntKind.u64.wrap ((IntKind.u64.wrap (4294967296 * x16_1)) + ((ji17) / 4294967296))))), (by first | rfl | (simp; done) | (simp only [← hji10, ← hji17] <;> (first | rfl | simp)) | (simp [*]; done)), H', ⟨by have := HK1.out; first | omega | exact Nat.le_refl _⟩, by repeat (first | exact ddR _ | apply ddS)⟩
          case rest =>
           clear HC20
           try clear c1
           try clear c2
           try clear p2
           try clear c4
           try clear c4b0
           try clear c4b1
           try clear c5
           try clear c5b0
           try clear c6
           try clear c6b0
           try clear c6b1
           try clear c9
           try clear c9b0
           try clear c9b1
           try clear c11
           try clear c11b0
           try clear c14
           try clear c14b0
           try clear c14b1
           try clear c16
           try clear c16b0
           try clear c18
           try clear c18b0
           try clear c18b1
           try clear c21
           try clear c21b0
           try clear p2
           obtain ⟨kq, x78_19, rfl, HA, HJ19, ⟨mc19, rfl⟩⟩ := hcut
           cases kq with
           | zero => exact absurd HA.out (by simp [bits_Div64P.j1])
           | succ kj19 =>
            have H := HA.out
            clear HA
            simp only [bits_Div64P.j1] at H
            by_cases c22 : x78_19 = true
            ·
             subst c22
             have H1 : (if (IntKind.u64.wrap (x16_1 + ((ji10) / 4294967296))) ≥ 4294967296 then (bits_Div64P.j2 kj19 ji10 ji8 ((ji10) / 4294967296) (Go.bits .and .u64 (ji10) 4294967295) (Go.bits .or .u64 (ji12) (ji15)) ((ji17) / 4294967296) (Go.bits .and .u64 (ji17) 4294967295) (IntKind.u64.wrap (x15_1 - 1))) else (bits_Div64P.l0 kj19 ji10 ji8 ((ji10) / 4294967296) (Go.bits .and .u64 (ji10) 4294967295) (Go.bits .or .u64 (ji12) (ji15)) ((ji17) / 4294967296) (Go.bits .and .u64 (ji17) 4294967295) (IntKind.u64.wrap (x15_1 - 1)) (IntKind.u64.wrap (x16_1 + ((ji10) / 4294967296))))) = some (r1, r2) := by rw [if_pos rfl] at H; exact H
             clear H
             have H := H1
             clear H1
             by_cases c23 : (IntKind.u64.wrap (x16_1 + ((ji10) / 4294967296))) ≥ 4294967296
             ·
              rw [if_pos c23] at H
              have c23b0 : decide (4294967296 ≤ (IntKind.u64.wrap (x16_1 + ((ji10) / 4294967296)))) = true := decide_eq_true c23
              clear c23
              have H' := Aside0.mk H
              clear H
              go_wp2
              repeat (go_quiet (fail); try go_wp2)
              go_meet
              case rel => exact ⟨_, (IntKind.u64.wrap (x15_1 - 1)), (by first | rfl | (simp; done) | (simp [*]; done)), H', ⟨by have := HK1.out; have := HJ19.out; first | omega | exact Nat.le_refl _⟩, by repeat (first | exact ddR _ | apply ddS)⟩
             ·
              rw [if_neg c23] at H
              have c23b0 : decide (4294967296 ≤ (IntKind.u64.wrap (x16_1 + ((ji10) / 4294967296)))) = false := decide_eq_false c23
              clear c23
              have H' := Aside0.mk H
              clear H
              go_wp2
              repeat (go_quiet (fail); try go_wp2)
              go_roundg kj19
              case measure => have := HK1.out; have := HJ19.out; omega
              case rel => exact ⟨(IntKind.u64.wrap (x15_1 - 1)), (IntKind.u64.wrap (x16_1 + ((ji10) / 4294967296))), (by first | rfl | (simp; done) | (simp [*]; done)), (by first | rfl | (simp; done) | (simp only [← hji10] <;> (first | rfl | simp)) | (simp [*]; done)), H', ⟨by have := HK1.out; have := HJ19.out; omega⟩, by repeat (first | exact ddR _ | apply ddS)⟩
            ·
             replace c22 := Bool.eq_false_iff.mpr c22
             subst c22
             have H1 : (bits_Div64P.j2 kj19 ji10 ji8 ((ji10) / 4294967296) (Go.bits .and .u64 (ji10) 4294967295) (Go.bits .or .u64 (ji12) (ji15)) ((ji17) / 4294967296) (Go.bits .and .u64 (ji17) 4294967295) x15_1) = some (r1, r2) := by rw [if_neg (show ¬ (false = true) by decide)] at H; exact H
             clear H
             have H := H1
             clear H1
             have H' := Aside0.mk H
             clear H
             go_wp2
             repeat (go_quiet (fail); try go_wp2)
             go_meet
             case rel => exact ⟨_, (x15_1), (by first | rfl | (simp; done) | (simp [*]; done)), H', ⟨by have := HK1.out; have := HJ19.out; first | omega | exact Nat.le_refl _⟩, by repeat (first | exact ddR _ | apply ddS)⟩
       case rest =>
        clear HC19
        try clear c1
        try clear c2
        try clear p2
        try clear c4
        try clear c4b0
        try clear c4b1
        try clear c5
        try clear c5b0
        try clear c6
        try clear c6b0
        try clear c6b1
        try clear c9
        try clear c9b0
        try clear c9b1
        try clear c11
        try clear c11b0
        try clear c14
        try clear c14b0
        try clear c14b1
        try clear c16
        try clear c16b0
        try clear c18
        try clear c18b0
        try clear c18b1
        try clear c19
        try clear c21
        try clear c21b0
        try clear c22
        try clear c23
        try clear c23b0
        try clear p2
        obtain ⟨kq, x15_18, rfl, HA, HJ18, ⟨mc18, rfl⟩⟩ := hcut
        cases kq with
        | zero => exact absurd HA.out (by simp [bits_Div64P.j2])
        | succ kj18 =>
         have H := HA.out
         clear HA
         simp only [bits_Div64P.j2] at H
         by_cases c24 : ((ji10) / 4294967296) = 0
         ·
          rw [if_pos c24] at H
          exact absurd H (by simp)
         ·
          rw [if_neg c24] at H
          have c24b0 : (((ji10) / 4294967296) == 0) = false := beq_eq_false_iff_ne.mpr c24
          have c24b1 : (((ji10) / 4294967296) != 0) = true := bne_iff_ne.mpr c24
          have H' := Aside0.mk H
          clear H
          go_wp2
          repeat (go_quiet (fail); try go_wp2)
          go_loopg [16, 18] kj18 (fun kq v16 v18 w' => ∃ (x16_2 : Int) (x18_2 : Int), v16 = .int .u64 x16_2 ∧ v18 = .int .u64 x18_2 ∧ Aside0 (bits_Div64P.l1 kq ji10 ji8 ((ji10) / 4294967296) (Go.bits .and .u64 (ji10) 4294967295) (Go.bits .and .u64 (ji17) 4294967295) x15_18 x16_2 (IntKind.u64.wrap ((IntKind.u64.wrap ((IntKind.u64.wrap ((Go.bits .or .u64 (ji12) (ji15)) * 4294967296)) + ((ji17) / 4294967296))) - (IntKind.u64.wrap (x15_18 * ji10)))) x18_2 = some (r1, r2)) ∧ Aside0 (kq ≤ kj18) ∧ Drawn0 w w')
          case atStart => exact ⟨(IntKind.u64.wrap ((IntKind.u64.wrap ((IntKind.u64.wrap ((IntKind.u64.wrap ((Go.bits .or .u64 (ji12) (ji15)) * 4294967296)) + ((ji17) / 4294967296))) - (IntKind.u64.wrap (x15_18 * ji10)))) - (IntKind.u64.wrap ((IntKind.u64.wrap (Int.tdiv (IntKind.u64.wrap ((IntKind.u64.wrap ((IntKind.u64.wrap ((Go.bits .or .u64 (ji12) (ji15)) * 4294967296)) + ((ji17) / 4294967296))) - (IntKind.u64.wrap (x15_18 * ji10)))) ((ji10) / 4294967296))) * ((ji10) / 4294967296))))), (IntKind.u64.wrap (Int.tdiv (IntKind.u64.wrap ((IntKind.u64.wrap ((IntKind.u64.wrap ((Go.bits .or .u64 (ji12) (ji15)) * 4294967296)) + ((ji17) / 4294967296))) - (IntKind.u64.wrap (x15_18 * ji10)))) ((ji10) / 4294967296))), (by first | rfl | (simp; done) | (simp only [← hji10, ← hji12, ← hji15, ← hji17] <;> (first | rfl | simp)) | (simp [*]; done)), (by first | rfl | (simp; done) | (simp only [← hji10, ← hji12, ← hji15, ← hji17] <;> (first | rfl | simp)) | (simp [*]; done)), H', ⟨Nat.le_refl _⟩, by repeat (first | exact ddR _ | apply ddS)⟩
          case round =>
           clear H'
           try clear c1
           try clear c2
           try clear p2
           try clear c4
           try clear c4b0
           try clear c4b1
           try clear c5
           try clear c5b0
           try clear c6
           try clear c6b0
           try clear c6b1
           try clear c9
           try clear c9b0
           try clear c9b1
           try clear c11
           try clear c11b0
           try clear c14
           try clear c14b0
           try clear c14b1
           try clear c16
           try clear c16b0
           try clear c18
           try clear c18b0
           try clear c18b1
           try clear c19
           try clear c21
           try clear c21b0
           try clear c22
           try clear c23
           try clear c23b0
           try clear c24
           try clear c24b0
           try clear c24b1
           try clear p2
           obtain ⟨x16_2, x18_2, rfl, rfl, HA, HK2, ⟨m2, rfl⟩⟩ := hrel
           cases gk with
           | zero => exact absurd HA.out (by simp [bits_Div64P.l1])
           | succ k2 =>
            have H := HA.out
            clear HA
            simp only [bits_Div64P.l1] at H
            have HC25 := Aside0.mk H
            clear H
            go_upto_region 24 with (fail)
            repeat (go_quiet (fail); go_upto_region 24 with (fail))
            go_cut [113] (fun v113 wc => ∃ (kq : Nat) (x113_24 : Bool), v113 = .bool x113_24 ∧ Aside0 (bits_Div64P.j4 kq ji10 ji8 ((ji10) / 4294967296) (Go.bits .and .u64 (ji10) 4294967295) (Go.bits .and .u64 (ji17) 4294967295) x15_18 x16_2 (IntKind.u64.wrap ((IntKind.u64.wrap ((IntKind.u64.wrap ((Go.bits .or .u64 (ji12) (ji15)) * 4294967296)) + ((ji17) / 4294967296))) - (IntKind.u64.wrap (x15_18 * ji10)))) x18_2 x113_24 = some (r1, r2)) ∧ Aside0 (kq ≤ k2) ∧ Drawn0 w wc)
            case first =>
             have H := HC25.out
             clear HC25
             by_cases c26 : x18_2 ≥ 4294967296
             ·
              rw [if_pos c26] at H
              have c26b0 : decide (4294967296 ≤ x18_2) = true := decide_eq_true c26
              clear c26
              (first | rw [c26b0] | (simp only [i64_w, i32_w]; rw [c26b0]) | skip)
              have H' := Aside0.mk H
              clear H
              go_wp2
              repeat (go_quiet (fail); try go_wp2)
              go_meet
              case rel => exact ⟨_, (true), (by first | rfl | (simp; done) | (simp [*]; done)), H', ⟨by have := HJ18.out; have := HK2.out; first | omega | exact Nat.le_refl _⟩, by repeat (first | exact ddR _ | apply ddS)⟩
             ·
              rw [if_neg c26] at H
              have c26b0 : decide (4294967296 ≤ x18_2) = false := decide_eq_false c26
              clear c26
              (first | rw [c26b0] | (simp only [i64_w, i32_w]; rw [c26b0]) | skip)
              have H' := Aside0.mk H
              clear H
              go_wp2
              repeat (go_quiet (fail); try go_wp2)
              go_meet
              case rel => exact ⟨_, (decide ((IntKind.u64.wrap (x18_2 * (Go.bits .and .u64 (ji10) 4294967295))) > (IntKind.u64.wrap ((IntKind.u64.wrap (4294967296 * x16_2)) + (Go.bits .and .u64 (ji17) 4294967295))))), (by first | rfl | (simp; done) | (simp only [← hji10, ← hji17] <;> (first | rfl | simp)) | (simp [*]; done)), H', ⟨by have := HJ18.out; have := HK2.out; first | omega | exact Nat.le_refl _⟩, by repeat (first | exact ddR _ | apply ddS)⟩
            case rest =>
             clear HC25
             try clear c1
             try clear c2
             try clear p2
             try clear c4
             try clear c4b0
             try clear c4b1
             try clear c5
             try clear c5b0
             try clear c6
             try clear c6b0
             try clear c6b1
             try clear c9
             try clear c9b0
             try clear c9b1
             try clear c11
             try clear c11b0
             try clear c14
             try clear c14b0
             try clear c14b1
             try clear c16
             try clear c16b0
             try clear c18
             try clear c18b0
             try clear c18b1
             try clear c19
             try clear c21
             try clear c21b0
             try clear c22
             try clear c23
             try clear c23b0
             try clear c24
             try clear c24b0
             try clear c24b1
             try clear c26
             try clear c26b0
             try clear p2
             obtain ⟨kq, x113_24, rfl, HA, HJ24, ⟨mc24, rfl⟩⟩ := hcut
             cases kq with
             | zero => exact absurd HA.out (by simp [bits_Div64P.j4])
             | succ kj24 =>
              have H := HA.out
              clear HA
              simp only [bits_Div64P.j4] at H
              by_cases c27 : x113_24 = true
              ·
               subst c27
               have H1 : (if (IntKind.u64.wrap (x16_2 + ((ji10) / 4294967296))) ≥ 4294967296 then (if 0 ≤ ji8 then (some (IntKind.u64.wrap ((IntKind.u64.wrap (x15_18 * 4294967296)) + (IntKind.u64.wrap (x18_2 - 1))), shr .u64 (IntKind.u64.wrap ((IntKind.u64.wrap ((IntKind.u64.wrap ((IntKind.u64.wrap ((IntKind.u64.wrap ((IntKind.u64.wrap ((Go.bits .or .u64 (ji12) (ji15)) * 4294967296)) + ((ji17) / 4294967296))) - (IntKind.u64.wrap (x15_18 * ji10)))) * 4294967296)) + (Go.bits .and .u64 (ji17) 4294967295))) - (IntKind.u64.wrap ((IntKind.u64.wrap (x18_2 - 1)) * ji10)))) ji8)) else (none)) else (bits_Div64P.l1 kj24 ji10 ji8 ((ji10) / 4294967296) (Go.bits .and .u64 (ji10) 4294967295) (Go.bits .and .u64 (ji17) 4294967295) x15_18 (IntKind.u64.wrap (x16_2 + ((ji10) / 4294967296))) (IntKind.u64.wrap ((IntKind.u64.wrap ((IntKind.u64.wrap ((Go.bits .or .u64 (ji12) (ji15)) * 4294967296)) + ((ji17) / 4294967296))) - (IntKind.u64.wrap (x15_18 * ji10)))) (IntKind.u64.wrap (x18_2 - 1)))) = some (r1, r2) := by rw [if_pos rfl] at H; exact H
               clear H
               have H := H1
               clear H1
               by_cases c28 : (IntKind.u64.wrap (x16_2 + ((ji10) / 4294967296))) ≥ 4294967296
               ·
                rw [if_pos c28] at H
                have c28b0 : decide (4294967296 ≤ (IntKind.u64.wrap (x16_2 + ((ji10) / 4294967296)))) = true := decide_eq_true c28
                clear c28
                by_cases c29 : 0 ≤ ji8
                ·
                 rw [if_pos c29] at H
                 have c29b0 := eq_true c29
                 have c29b1 : decide (0 ≤ ji8) = true := decide_eq_true c29
                 clear c29
                 obtain ⟨ji30, hji30⟩ : ∃ j_ : Int, (shr .u64 (IntKind.u64.wrap ((IntKind.u64.wrap ((IntKind.u64.wrap ((IntKind.u64.wrap ((IntKind.u64.wrap ((IntKind.u64.wrap ((Go.bits .or .u64 (ji12) (ji15)) * 4294967296)) + ((ji17) / 4294967296))) - (IntKind.u64.wrap (x15_18 * ji10)))) * 4294967296)) + (Go.bits .and .u64 (ji17) 4294967295))) - (IntKind.u64.wrap ((IntKind.u64.wrap (x18_2 - 1)) * ji10)))) ji8) = j_ := ⟨_, rfl⟩
                 replace H : (some (IntKind.u64.wrap ((IntKind.u64.wrap (x15_18 * 4294967296)) + (IntKind.u64.wrap (x18_2 - 1))), ji30)) = some (r1, r2) := by first | (rw [hji30] at H; exact H) | (simp only [hji30] at H ⊢; exact H)
                 have hji30_ : ((IntKind.u64.wrap ((IntKind.u64.wrap ((IntKind.u64.wrap ((IntKind.u64.wrap ((IntKind.u64.wrap ((IntKind.u64.wrap ((Go.bits .or .u64 (ji12) (ji15)) * 4294967296)) + ((ji17) / 4294967296))) - (IntKind.u64.wrap (x15_18 * ji10)))) * 4294967296)) + (Go.bits .and .u64 (ji17) 4294967295))) - (IntKind.u64.wrap ((IntKind.u64.wrap (x18_2 - 1)) * ji10)))) / 2 ^ min ji8.toNat 64) = ji30 := hji30
                 have hji30z : ji8 ≤ 64 → ((IntKind.u64.wrap ((IntKind.u64.wrap ((IntKind.u64.wrap ((IntKind.u64.wrap ((IntKind.u64.wrap ((IntKind.u64.wrap ((Go.bits .or .u64 (ji12) (ji15)) * 4294967296)) + ((ji17) / 4294967296))) - (IntKind.u64.wrap (x15_18 * ji10)))) * 4294967296)) + (Go.bits .and .u64 (ji17) 4294967295))) - (IntKind.u64.wrap ((IntKind.u64.wrap (x18_2 - 1)) * ji10)))) / 2 ^ ji8.toNat) = ji30 := shr_small hji30
                 simp only [Option.some.injEq, Prod.mk.injEq] at H
                 obtain ⟨rfl, rfl⟩ := H
                 go_wp2
                 repeat (go_quiet (fail); try go_wp2)
                 go_ret2
                 exact ⟨by first | rfl | (simp; done) | (simp only [← hji8, ← hji10, ← hji12, ← hji13, ← hji15, ← hji17, ← hji30] <;> (first | rfl | simp)) | (simp [*]; done), by repeat (first | exact ddR _ | apply ddS)⟩
                ·
                 rw [if_neg c29] at H
                 exact absurd H (by simp)
               ·
                rw [if_neg c28] at H
                have c28b0 : decide (4294967296 ≤ (IntKind.u64.wrap (x16_2 + ((ji10) / 4294967296)))) = false := decide_eq_false c28
                clear c28
                have H' := Aside0.mk H
                clear H
                go_wp2
                repeat (go_quiet (fail); try go_wp2)
                go_roundg kj24
                case measure => have := HJ18.out; have := HK2.out; have := HJ24.out; omega
                case rel => exact ⟨(IntKind.u64.wrap (x16_2 + ((ji10) / 4294967296))), (IntKind.u64.wrap (x18_2 - 1)), (by first | rfl | (simp; done) | (simp only [← hji10] <;> (first | rfl | simp)) | (simp [*]; done)), (by first | rfl | (simp; done) | (simp [*]; done)), H', ⟨by have := HJ18.out; have := HK2.out; have := HJ24.out; omega⟩, by repeat (first | exact ddR _ | apply ddS)⟩
              ·
               replace c27 := Bool.eq_false_iff.mpr c27
               subst c27
               have H1 : (if 0 ≤ ji8 then (some (IntKind.u64.wrap ((IntKind.u64.wrap (x15_18 * 4294967296)) + x18_2), shr .u64 (IntKind.u64.wrap ((IntKind.u64.wrap ((IntKind.u64.wrap ((IntKind.u64.wrap ((IntKind.u64.wrap ((IntKind.u64.wrap ((Go.bits .or .u64 (ji12) (ji15)) * 4294967296)) + ((ji17) / 4294967296))) - (IntKind.u64.wrap (x15_18 * ji10)))) * 4294967296)) + (Go.bits .and .u64 (ji17) 4294967295))) - (IntKind.u64.wrap (x18_2 * ji10)))) ji8)) else (none)) = some (r1, r2) := by rw [if_neg (show ¬ (false = true) by decide)] at H; exact H
               clear H
               have H := H1
               clear H1
               by_cases c31 : 0 ≤ ji8
               ·
                rw [if_pos c31] at H
                have c31b0 := eq_true c31
                have c31b1 : decide (0 ≤ ji8) = true := decide_eq_true c31
                clear c31
                obtain ⟨ji32, hji32⟩ : ∃ j_ : Int, (shr .u64 (IntKind.u64.wrap ((IntKind.u64.wrap ((IntKind.u64.wrap ((IntKind.u64.wrap ((IntKind.u64.wrap ((IntKind.u64.wrap ((Go.bits .or .u64 (ji12) (ji15)) * 4294967296)) + ((ji17) / 4294967296))) - (IntKind.u64.wrap (x15_18 * ji10)))) * 4294967296)) + (Go.bits .and .u64 (ji17) 4294967295))) - (IntKind.u64.wrap (x18_2 * ji10)))) ji8) = j_ := ⟨_, rfl⟩
                replace H : (some (IntKind.u64.wrap ((IntKind.u64.wrap (x15_18 * 4294967296)) + x18_2), ji32)) = some (r1, r2) := by first | (rw [hji32] at H; exact H) | (simp only [hji32] at H ⊢; exact H)
                have hji32_ : ((IntKind.u64.wrap ((IntKind.u64.wrap ((IntKind.u64.wrap ((IntKind.u64.wrap ((IntKind.u64.wrap ((IntKind.u64.wrap ((Go.bits .or .u64 (ji12) (ji15)) * 4294967296)) + ((ji17) / 4294967296))) - (IntKind.u64.wrap (x15_18 * ji10)))) * 4294967296)) + (Go.bits .and .u64 (ji17) 4294967295))) - (IntKind.u64.wrap (x18_2 * ji10)))) / 2 ^ min ji8.toNat 64) = ji32 := hji32
                have hji32z : ji8 ≤ 64 → ((IntKind.u64.wrap ((IntKind.u64.wrap ((IntKind.u64.wrap ((IntKind.u64.wrap ((IntKind.u64.wrap ((IntKind.u64.wrap ((Go.bits .or .u64 (ji12) (ji15)) * 4294967296)) + ((ji17) / 4294967296))) - (IntKind.u64.wrap (x15_18 * ji10)))) * 4294967296)) + (Go.bits .and .u64 (ji17) 4294967295))) - (IntKind.u64.wrap (x18_2 * ji10)))) / 2 ^ ji8.toNat) = ji32 := shr_small hji32
                simp only [Option.some.injEq, Prod.mk.injEq] at H
                obtain ⟨rfl, rfl⟩ := H
                go_wp2
                repeat (go_quiet (fail); try go_wp2)
                go_ret2
                exact ⟨by first | rfl | (simp; done) | (simp only [← hji8, ← hji10, ← hji12, ← hji13, ← hji15, ← hji17, ← hji32] <;> (first | rfl | simp)) | (simp [*]; done), by repeat (first | exact ddR _ | apply ddS)⟩
               ·
                rw [if_neg c31] at H
                exact absurd H (by simp)
     ·
      rw [if_neg c14] at H
      exact absurd H (by simp)
    ·
     rw [if_neg c9] at H
     exact absurd H (by simp)

theorem bits_Div64P.l0_spec (y s y1 y0 U u u0 Q : Int) (d : Nat) : ∀ (q r : Int) (k : Nat), Guess y y1 y0 U u q r Q → (q - Q).toNat = d → ∃ k', k ≤ k' ∧ bits_Div64P.l0 (2 * d + 2 + k) y s y1 y0 U u u0 q r = bits_Div64P.j2 k' y s y1 y0 U u u0 Q := by
  induction d with
  | zero =>
    intro q r k g hd
    have hq : q = Q := by have := g.Qq; omega
    refine ⟨k, Nat.le_refl _, ?_⟩
    have hn : ¬ (4294967296 * r + u < q * y0) := by rw [← g.above]; omega
    have hs := g.small (by have := g.Qlt; omega)
    have := g.r0; have := g.ru; have := g.ul; have := g.uu
    rw [show 2 * 0 + 2 + k = (k + 1) + 1 by omega, bits_Div64P.l0, if_neg (by have := g.Qlt; omega), decide_eq_false (by simp only [wu]; omega), bits_Div64P.j1, if_neg (by decide), hq]
  | succ d ih =>
    intro q r k g hd
    have hq : Q < q := by omega
    have hr0 := g.r0; have hru := g.ru; have := g.ul; have := g.uu; have := g.y1l; have := g.y1u; have hQ0 := g.Q0; have hqu := g.qu
    have key : bits_Div64P.l0 (2 * (d + 1) + 2 + k) y s y1 y0 U u u0 q r = bits_Div64P.j1 (2 * d + 2 + k + 1) y s y1 y0 U u u0 q r true := by
      rw [show 2 * (d + 1) + 2 + k = (2 * d + 2 + k + 1) + 1 by omega, bits_Div64P.l0]
      by_cases c : q ≥ 4294967296
      · rw [if_pos c]
      · have hn := g.above.1 hq
        have hs := g.small (by omega)
        rw [if_neg c, decide_eq_true (by simp only [wu]; omega)]
    rw [key, bits_Div64P.j1, if_pos rfl]
    have e1 : IntKind.u64.wrap (r + y1) = r + y1 := by rw [wu]; omega
    have e2 : IntKind.u64.wrap (q - 1) = q - 1 := by rw [wu]; omega
    rw [e1, e2]
    by_cases c : r + y1 ≥ 4294967296
    · rw [if_pos c, g.stop hq c]
      exact ⟨_, by omega, rfl⟩
    · rw [if_neg c]
      exact ih (q - 1) (r + y1) k (g.next hq (by omega)) (by omega)

theorem bits_Div64P.l1_spec (y s y1 y0 x15 R u0 Q : Int) (hs : 0 ≤ s) (d : Nat) : ∀ (q r : Int) (k : Nat), Guess y y1 y0 R u0 q r Q → (q - Q).toNat = d →
    bits_Div64P.l1 (2 * d + 2 + k) y s y1 y0 u0 x15 r R q = some (IntKind.u64.wrap (IntKind.u64.wrap (x15 * 4294967296) + Q), shr .u64 (IntKind.u64.wrap (IntKind.u64.wrap (IntKind.u64.wrap (R * 4294967296) + u0) - IntKind.u64.wrap (Q * y))) s) := by
  induction d with
  | zero =>
    intro q r k g hd
    have hq : q = Q := by have := g.Qq; omega
    have hn : ¬ (4294967296 * r + u0 < q * y0) := by rw [← g.above]; omega
    have hsm := g.small (by have := g.Qlt; omega)
    have := g.r0; have := g.ru; have := g.ul; have := g.uu
    rw [show 2 * 0 + 2 + k = (k + 1) + 1 by omega, bits_Div64P.l1, if_neg (by have := g.Qlt; omega), decide_eq_false (by simp only [wu]; omega), bits_Div64P.j4, if_neg (by decide), if_pos hs, hq]
  | succ d ih =>
    intro q r k g hd
    have hq : Q < q := by omega
    have hr0 := g.r0; have hru := g.ru; have := g.ul; have := g.uu; have := g.y1l; have := g.y1u; have hQ0 := g.Q0; have hqu := g.qu
    have key : bits_Div64P.l1 (2 * (d + 1) + 2 + k) y s y1 y0 u0 x15 r R q = bits_Div64P.j4 (2 * d + 2 + k + 1) y s y1 y0 u0 x15 r R q true := by
      rw [show 2 * (d + 1) + 2 + k = (2 * d + 2 + k + 1) + 1 by omega, bits_Div64P.l1]
      by_cases c : q ≥ 4294967296
      · rw [if_pos c]
      · have hn := g.above.1 hq
        have hsm := g.small (by omega)
        rw [if_neg c, decide_eq_true (by simp only [wu]; omega)]
    rw [key, bits_Div64P.j4, if_pos rfl]
    have e1 : IntKind.u64.wrap (r + y1) = r + y1 := by rw [wu]; omega
    have e2 : IntKind.u64.wrap (q - 1) = q - 1 := by rw [wu]; omega
    rw [e1, e2]
    by_cases c : r + y1 ≥ 4294967296
    · rw [if_pos c, g.stop hq c, if_pos hs]
    · rw [if_neg c]
      exact ih (q - 1) (r + y1) k (g.next hq (by omega)) (by omega)

theorem bits_Div64P.digits (s y1 y0 U u u0 y : Int) (hy : y = y1 * 4294967296 + y0) (y1l : 2147483648 ≤ y1) (y1u : y1 < 4294967296) (y0l : 0 ≤ y0) (y0u : y0 < 4294967296) (Ul : 0 ≤ U) (Uu : U < y) (ul : 0 ≤ u) (uu : u < 4294967296) (u0l : 0 ≤ u0) (u0u : u0 < 4294967296) (hs : 0 ≤ s) :
    ∃ k, bits_Div64P.l0 k y s y1 y0 U u u0 (U / y1) (U - U / y1 * y1) = some (((U * 4294967296 + u) * 4294967296 + u0) / y, shr .u64 (((U * 4294967296 + u) * 4294967296 + u0) % y) s) := by
  have yp : 0 < y := by omega
  have ylt : y < 18446744073709551616 := by omega
  have g := Guess.first hy y1l y1u y0l y0u Ul Uu ul uu
  generalize hQ : (U * 4294967296 + u) / y = Q at g
  generalize hR : (U * 4294967296 + u) % y = R
  have hR0 : 0 ≤ R := by rw [← hR]; exact Int.emod_nonneg _ (by omega)
  have hRu : R < y := by rw [← hR]; exact Int.emod_lt_of_pos _ yp
  have eQR : U * 4294967296 + u = Q * y + R := by have := Int.emod_add_mul_ediv (U * 4294967296 + u) y; rw [hQ, hR] at this; have := Int.mul_comm y Q; omega
  have g2 := Guess.first hy y1l y1u y0l y0u hR0 hRu u0l u0u
  generalize hQ2 : (R * 4294967296 + u0) / y = Q2 at g2
  generalize hR2 : (R * 4294967296 + u0) % y = R2
  have hR20 : 0 ≤ R2 := by rw [← hR2]; exact Int.emod_nonneg _ (by omega)
  have hR2u : R2 < y := by rw [← hR2]; exact Int.emod_lt_of_pos _ yp
  have eQR2 : R * 4294967296 + u0 = Q2 * y + R2 := by have := Int.emod_add_mul_ediv (R * 4294967296 + u0) y; rw [hQ2, hR2] at this; have := Int.mul_comm y Q2; omega
  have q0 := g.Q0
  have q1 := g.Qlt
  have q20 := g2.Q0
  have q21 := g2.Qlt
  have tot : (U * 4294967296 + u) * 4294967296 + u0 = R2 + y * (Q * 4294967296 + Q2) := by
    have : y * (Q * 4294967296 + Q2) = Q * y * 4294967296 + Q2 * y := by grind
    omega
  have d1 : ((U * 4294967296 + u) * 4294967296 + u0) / y = Q * 4294967296 + Q2 := by
    rw [tot, Int.add_mul_ediv_left _ _ (by omega), Int.ediv_eq_zero_of_lt hR20 hR2u]; omega
  have d2 : ((U * 4294967296 + u) * 4294967296 + u0) % y = R2 := by
    rw [tot, Int.add_mul_emod_self_left, Int.emod_eq_of_lt hR20 hR2u]
  rw [d1, d2]
  obtain ⟨k', hk, h1⟩ := bits_Div64P.l0_spec y s y1 y0 U u u0 Q _ _ _ ((2 * (R / y1 - Q2).toNat + 2 + 0) + 1) g rfl
  refine ⟨_, h1.trans ?_⟩
  obtain ⟨j, rfl⟩ : ∃ j, k' = (2 * (R / y1 - Q2).toNat + 2 + j) + 1 := ⟨k' - (2 * (R / y1 - Q2).toNat + 2 + 1), by omega⟩
  rw [bits_Div64P.j2, if_neg (show ¬ y1 = 0 by omega)]
  have hW : IntKind.u64.wrap (IntKind.u64.wrap (IntKind.u64.wrap (U * 4294967296) + u) - IntKind.u64.wrap (Q * y)) = R := by
    simp only [wu]; generalize Q * y = P at *; omega
  have hD : IntKind.u64.wrap (Int.tdiv R y1) = R / y1 := by
    rw [Int.tdiv_eq_ediv_of_nonneg hR0, wu]
    have := g2.qu; have := g2.q0; omega
  have hr := g2.e; have := g2.r0; have := g2.ru
  have hS : IntKind.u64.wrap (R - IntKind.u64.wrap (R / y1 * y1)) = R - R / y1 * y1 := by
    simp only [wu]; generalize R / y1 * y1 = P at *; omega
  rw [hW, hD, hS, bits_Div64P.l1_spec y s y1 y0 Q R u0 Q2 hs _ _ _ j g2 rfl]
  have e1 : IntKind.u64.wrap (IntKind.u64.wrap (Q * 4294967296) + Q2) = Q * 4294967296 + Q2 := by simp only [wu]; omega
  have e2 : IntKind.u64.wrap (IntKind.u64.wrap (IntKind.u64.wrap (R * 4294967296) + u0) - IntKind.u64.wrap (Q2 * y)) = R2 := by
    simp only [wu]; generalize Q2 * y = P at *; omega
  rw [e1, e2]

theorem bits_Div64P.spec {a0 a1 a2 : Int} (h0 : U64 a0) (h1 : U64 a1) (h2 : U64 a2) (h : a0 < a2) : ∃ k, bits_Div64P.f k a0 a1 a2 = some ((a0 * 18446744073709551616 + a1) / a2, (a0 * 18446744073709551616 + a1) % a2) := by
  unfold U64 at h0 h1 h2
  by_cases c0 : a0 = 0
  · refine ⟨0, ?_⟩
    unfold bits_Div64P.f
    rw [if_neg (by omega), if_neg (by omega), if_pos c0, c0, Int.tdiv_eq_ediv_of_nonneg h1.1, Int.tmod_eq_emod_of_nonneg h1.1, wu]
    have : a1 / a2 ≤ a1 := Int.ediv_le_self _ h1.1
    have := Int.ediv_nonneg h1.1 h2.1
    rw [Int.emod_eq_of_lt (by omega) (by omega)]
    simp
  · have hbl := bl_lt a2.toNat
    have hbg := bl_ge (x := a2.toNat) (by omega)
    have hb64 := bl_le (x := a2.toNat) (k := 64) (by omega)
    have hb1 := bl_pos (x := a2.toNat) (by omega)
    obtain ⟨s, hs⟩ : ∃ s : Nat, s = 64 - bl a2.toNat := ⟨_, rfl⟩
    have hbs : bl a2.toNat = 64 - s := by omega
    have hs63 : s ≤ 63 := by omega
    rw [hbs] at hbl hbg
    have hL : bits_LeadingZeros64.f a2 = some (s : Int) := by
      unfold bits_LeadingZeros64.f
      rw [if_pos (by unfold U64; omega), hbs]
      simp only [Option.some.injEq]; omega
    have hm : (2 : Nat) ^ s * 2 ^ (64 - s) = 18446744073709551616 := by rw [← Nat.pow_add, show s + (64 - s) = 64 by omega]
    have hm2 : (2 : Nat) ^ s * 2 ^ (64 - s - 1) = 9223372036854775808 := by rw [← Nat.pow_add, show s + (64 - s - 1) = 63 by omega]
    have hA : a2.toNat * 2 ^ s < 18446744073709551616 := by
      rw [← hm, Nat.mul_comm (2 ^ s)]; exact Nat.mul_lt_mul_of_pos_right hbl (Nat.two_pow_pos s)
    have hB : 9223372036854775808 ≤ a2.toNat * 2 ^ s := by
      rw [← hm2, Nat.mul_comm (2 ^ s)]; exact Nat.mul_le_mul_right _ hbg
    obtain ⟨P, hP⟩ : ∃ P : Nat, P = 2 ^ s := ⟨_, rfl⟩
    obtain ⟨M, hM⟩ : ∃ M : Nat, M = 2 ^ (64 - s) := ⟨_, rfl⟩
    rw [← hP] at hm hA hB
    rw [← hM] at hm
    have hPpos : 0 < P := by rw [hP]; exact Nat.two_pow_pos s
    have hMpos : 0 < M := by rw [hM]; exact Nat.two_pow_pos _
    obtain ⟨n0, rfl⟩ := Int.eq_ofNat_of_zero_le h0.1
    obtain ⟨n1, rfl⟩ := Int.eq_ofNat_of_zero_le h1.1
    obtain ⟨n2, rfl⟩ := Int.eq_ofNat_of_zero_le h2.1
    simp only [Int.toNat_natCast] at hA hB
    have hn : n0 < n2 := by omega
    have hnP : n0 * P + P ≤ n2 * P := by have := Nat.mul_le_mul_right P (show n0 + 1 ≤ n2 from hn); rw [Nat.add_mul] at this; omega
    have cP : (2 : Int) ^ s = ((P : Nat) : Int) := by rw [hP]; simp
    have cM : (2 : Int) ^ (64 - s) = ((M : Nat) : Int) := by rw [hM]; simp
    have shl_ : ∀ n : Nat, shl .u64 (n : Int) (s : Int) = ((n * P % 18446744073709551616 : Nat) : Int) := fun n => by
      unfold shl
      rw [show min ((s : Int)).toNat IntKind.u64.bits = s from by show min s 64 = s; omega, cP, wu, ← Int.natCast_mul]; omega
    have e0 : shl .u64 (n0 : Int) (s : Int) = ((n0 * P : Nat) : Int) := by rw [shl_, Nat.mod_eq_of_lt (by omega)]
    have e2 : shl .u64 (n2 : Int) (s : Int) = ((n2 * P : Nat) : Int) := by rw [shl_, Nat.mod_eq_of_lt (by omega)]
    have er : shr .u64 (n1 : Int) (64 - (s : Int)) = ((n1 / M : Nat) : Int) := by
      unfold shr
      rw [show min ((64 - (s : Int))).toNat IntKind.u64.bits = 64 - s from by show min ((64 - (s : Int))).toNat 64 = 64 - s; omega, cM, Int.natCast_ediv]
    have hMP : n1 / M < P := by rw [Nat.div_lt_iff_lt_mul hMpos]; omega
    obtain ⟨D, hDD⟩ : ∃ D : Nat, D = n1 / M := ⟨_, rfl⟩
    rw [← hDD] at er hMP
    have eor : Go.bits .or .u64 ((n0 * P : Nat) : Int) ((D : Nat) : Int) = ((n0 * P + D : Nat) : Int) := by
      rw [or_join s (by unfold U64; omega) (by rw [cP, ← Int.natCast_emod, Nat.mul_mod_left]; rfl) (by omega) (by rw [cP]; omega) (by unfold U64; omega)]
      omega
    have w1 : IntKind.u64.wrap (s : Int) = (s : Int) := by rw [wu]; omega
    have w2 : IntKind.u64.wrap (64 - (s : Int)) = 64 - (s : Int) := by rw [wu]; omega
    obtain ⟨y, hy⟩ : ∃ y : Nat, y = n2 * P := ⟨_, rfl⟩
    obtain ⟨U, hU⟩ : ∃ U : Nat, U = n0 * P + D := ⟨_, rfl⟩
    obtain ⟨l, hl⟩ : ∃ l : Nat, l = n1 * P % 18446744073709551616 := ⟨_, rfl⟩
    have a32y : Go.bits .and .u64 ((y : Nat) : Int) 4294967295 = (y : Int) % 4294967296 := and32 (by unfold U64; omega)
    have a32l : Go.bits .and .u64 ((l : Nat) : Int) 4294967295 = (l : Int) % 4294967296 := and32 (by unfold U64; omega)
    have hUy : U < y := by omega
    have htot : ((U : Int) * 4294967296 + (l : Int) / 4294967296) * 4294967296 + (l : Int) % 4294967296 = (((n0 * 18446744073709551616 + n1) * P : Nat) : Int) := by
      have k1 : n1 * P / 18446744073709551616 = D := by rw [hDD, ← hm, Nat.mul_comm P M]; exact Nat.mul_div_mul_right n1 M hPpos
      have k2 : (n0 * 18446744073709551616 + n1) * P = n0 * P * 18446744073709551616 + n1 * P := by grind
      have k3 := Nat.div_add_mod (n1 * P) 18446744073709551616
      rw [k1, ← hl] at k3
      omega
    obtain ⟨k, hk⟩ := bits_Div64P.digits (s : Int) ((y : Int) / 4294967296) ((y : Int) % 4294967296) (U : Int) ((l : Int) / 4294967296) ((l : Int) % 4294967296) (y : Int)
      (by omega) (by omega) (by omega) (by omega) (by omega) (by omega) (by omega) (by omega) (by omega) (by omega) (by omega) (by omega)
    refine ⟨k, ?_⟩
    rw [htot] at hk
    unfold bits_Div64P.f
    rw [if_neg (by omega), if_neg (by omega), if_neg c0, hL]
    simp only [Option.bind_some, w1, w2]
    rw [if_pos (by omega), if_pos (by omega), e0, e2, er, eor, shl_ n1, ← hy, ← hU, ← hl, a32y, a32l, if_neg (by omega)]
    have hd : IntKind.u64.wrap (Int.tdiv (U : Int) ((y : Int) / 4294967296)) = (U : Int) / ((y : Int) / 4294967296) := by
      rw [Int.tdiv_eq_ediv_of_nonneg (by omega), wu]
      have g := Guess.first (y := (y : Int)) (y1 := (y : Int) / 4294967296) (y0 := (y : Int) % 4294967296) (U := (U : Int)) (u := 0) (by omega) (by omega) (by omega) (by omega) (by omega) (by omega) (by omega) (by omega) (by omega)
      have := g.qu; have := g.q0; omega
    have hr : IntKind.u64.wrap ((U : Int) - IntKind.u64.wrap ((U : Int) / ((y : Int) / 4294967296) * ((y : Int) / 4294967296))) = (U : Int) - (U : Int) / ((y : Int) / 4294967296) * ((y : Int) / 4294967296) := by
      have g := Guess.first (y := (y : Int)) (y1 := (y : Int) / 4294967296) (y0 := (y : Int) % 4294967296) (U := (U : Int)) (u := 0) (by omega) (by omega) (by omega) (by omega) (by omega) (by omega) (by omega) (by omega) (by omega)
      have := g.r0; have := g.ru
      simp only [wu]
      generalize (U : Int) / ((y : Int) / 4294967296) * ((y : Int) / 4294967296) = X at *
      omega
    rw [hd, hr, hk]
    have f1 : (((n0 * 18446744073709551616 + n1) * P : Nat) : Int) / (y : Int) = ((n0 : Int) * 18446744073709551616 + n1) / (n2 : Int) := by
      rw [hy, ← Int.natCast_ediv, Nat.mul_div_mul_right _ _ hPpos]; simp
    have f2 : shr .u64 ((((n0 * 18446744073709551616 + n1) * P : Nat) : Int) % (y : Int)) (s : Int) = ((n0 : Int) * 18446744073709551616 + n1) % (n2 : Int) := by
      unfold shr
      rw [show min ((s : Int)).toNat IntKind.u64.bits = s from by show min s 64 = s; omega, cP, hy, ← Int.natCast_emod, Nat.mul_mod_mul_right, ← Int.natCast_ediv, Nat.mul_div_cancel _ hPpos]; simp
    rw [f1, f2]
def bits_Div64.f (a0 a1 a2 : Int) : Option (Int × Int) := if U64 a0 ∧ U64 a1 ∧ U64 a2 ∧ a0 < a2 then some ((a0 * 18446744073709551616 + a1) / a2, (a0 * 18446744073709551616 + a1) % a2) else none
theorem bits_Div64.of (a0 a1 a2 : Int)  (h_ : U64 a0 ∧ U64 a1 ∧ U64 a2 ∧ a0 < a2) : bits_Div64.f a0 a1 a2 = some ((a0 * 18446744073709551616 + a1) / a2, (a0 * 18446744073709551616 + a1) % a2) := if_pos h_
theorem bits_Div64.calls (a0 : Int) (a1 : Int) (a2 : Int) (r1 : Int) (r2 : Int) (w : World) (h : bits_Div64.f a0 a1 a2 = some (r1, r2)) :
    Calls Try.prog 90 #[.int .u64 a0, .int .u64 a1, .int .u64 a2] w fun e w' => e = .returned (.tuple #[.int .u64 r1, .int .u64 r2]) ∧ Drawn0 w w' := by
  unfold bits_Div64.f at h
  split at h
  · rename_i hu
    obtain ⟨k, hk⟩ := bits_Div64P.spec hu.1 hu.2.1 hu.2.2.1 hu.2.2.2
    exact bits_Div64P.calls k a0 a1 a2 r1 r2 w (hk.trans h)
  · cases h


end Go.Proofs.Ytbnfejaeekljcaa.HD
