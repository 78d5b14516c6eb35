/- FixClips: clipped, a number is not too great, and is the number, if it was not, for all numbers. -/
import Derived.Test.YtllicjinmlkcfaaHAx15
namespace Go.Proofs.Ytllicjinmlkcfaa.Pure
open Go.RowKit Go.Proofs.Ytllicjinmlkcfaa.HA Go.Proofs.YtllicjinmlkcfaaW.PrintWords Go.Proofs.YtllicjinmlkcfaaW.PrintLast Go.Proofs.YtllicjinmlkcfaaW.PrintMore Go.Proofs.Ytllicjinmlkcfaa.Sp
set_option linter.unusedVariables false
set_option linter.unusedSimpArgs false
theorem FixClips : thrumlaw01_FixClips.Pure := by
  intro a0 a1 w0 w1
  have h0 := i64_of_wf w0
  have h1 := i64_of_wf w1
  unfold thrumlaw01_FixClips.f thrumlaw01_live.f
  simp only [Option.bind_some, if_true]
  rw [fix_Clip.of _ _ ⟨h0, h1⟩]
  by_cases c : a1 < 0
  · rw [show clipF a0 a1 = (0, 1) from if_pos c]
    simp only [Option.bind_some]
    rw [if_neg (by decide), if_pos c]; simp
  · obtain ⟨x, hx⟩ : ∃ x, x = if a0 < -a1 then -a1 else if a1 < a0 then a1 else a0 := ⟨_, rfl⟩
    have e : clipF a0 a1 = (x, 0) := by unfold clipF; rw [if_neg c, hx]
    have b : -a1 ≤ x ∧ x ≤ a1 ∧ (x = a0 ↔ -a1 ≤ a0 ∧ a0 ≤ a1) := by rw [hx]; split <;> (try split) <;> omega
    have hx64 : I64 x := by unfold I64 at *; omega
    have e2 : clipF x a1 = (x, 0) := by unfold clipF; rw [if_neg c, if_neg (by omega), if_neg (by omega)]
    rw [e]
    simp only [Option.bind_some, if_true]
    rw [fix_Clip.of _ _ ⟨hx64, h1⟩, e2, fix_Abs.of _ hx64, fix_Abs.of _ h0, res_of (show I64 (x.natAbs : Int) by unfold I64 at *; omega)]
    simp only [Option.bind_some, if_true]
    rw [if_neg (by omega), wrap64_of (show I64 (-a1) by unfold I64 at *; omega)]
    have e3 : ((res (a0.natAbs : Int)).2 == 2) = (a0 == -9223372036854775808) := by
      by_cases k : I64 (a0.natAbs : Int)
      · rw [res_of k]; unfold I64 at k; simp; omega
      · rw [res_not k]; unfold I64 at k h0; simp; omega
    rw [e3, if_neg (by simp)]
    by_cases k : a0 ≥ -a1
    · rw [if_pos k]
      have : (x == a0) = decide (a0 ≤ a1) := by rw [Bool.eq_iff_iff]; simp; omega
      rw [this]; simp
    · rw [if_neg k]
      have : (x == a0) = false := by simp; omega
      rw [this]; simp
end Go.Proofs.Ytllicjinmlkcfaa.Pure
