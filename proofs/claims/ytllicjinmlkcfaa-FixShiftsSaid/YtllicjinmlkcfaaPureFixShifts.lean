/- FixShifts: shifted by so many bits, and by more, a number is shifted by both, for all numbers. -/
import Derived.Test.YtllicjinmlkcfaaHAx16
namespace Go.Proofs.Ytllicjinmlkcfaa.Pure
open Go.RowKit Go.Proofs.Ytllicjinmlkcfaa.HA Go.Proofs.YtllicjinmlkcfaaW.PrintWords Go.Proofs.YtllicjinmlkcfaaW.PrintLast Go.Proofs.YtllicjinmlkcfaaW.PrintMore Go.Proofs.Ytllicjinmlkcfaa.Sp
set_option linter.unusedVariables false
set_option linter.unusedSimpArgs false
theorem FixShifts : thrumlaw01_FixShifts.Pure := by
  intro a m n w0 w1 w2
  have h0 := i64_of_wf w0
  obtain ⟨m0, m1⟩ := turn_bd m 32 (by omega) (by omega)
  obtain ⟨n0, n1⟩ := turn_bd n 31 (by omega) (by omega)
  unfold thrumlaw01_FixShifts.f thrumlaw01_live.f
  generalize Int.tmod (wrap64 (Int.tmod m 32 + 32)) 32 = x at *
  generalize Int.tmod (wrap64 (Int.tmod n 31 + 31)) 31 = y at *
  have py := pow_bd y 30 (by omega)
  simp only [Int.reducePow] at py
  have s : ∀ (b k : Int), 0 ≤ k → k ≤ 62 → fix_Shift.f b k = some (b / 2 ^ k.toNat, 0) := fun b k k0 k1 => by
    unfold fix_Shift.f shiftF; rw [if_neg (by omega)]
  simp only [Option.bind_some, if_true]
  rw [s a x (by omega) (by omega), wrap64_of (show I64 (x + y) by unfold I64; omega), s a (x + y) (by omega) (by omega), s a y (by omega) (by omega), shl_i64 y (by omega)]
  simp only [Option.bind_some]
  rw [s _ y (by omega) (by omega), fix_Quot.of _ _ ⟨h0, by unfold I64; omega⟩]
  have e : a / 2 ^ x.toNat / 2 ^ y.toNat = a / 2 ^ (x + y).toNat := by
    rw [Int.ediv_ediv_of_nonneg (Int.le_of_lt (Int.pow_pos (by omega))), ← Int.pow_add, show x.toNat + y.toNat = (x + y).toNat by omega]
  have d : divF a (2 ^ y.toNat) 0 = (a / 2 ^ y.toNat, 0) := by
    unfold divF divQ
    rw [if_neg (by omega), if_pos py.1]
    simp only [Int.toNat_zero, Int.pow_zero, Int.mul_one]
    refine res_of ?_
    generalize hP : (2 : Int) ^ y.toNat = P at *
    have hp := Int.emod_add_mul_ediv a P
    have q0 := Int.emod_nonneg a (show P ≠ 0 by omega)
    have q1 := Int.emod_lt_of_pos a py.1
    unfold I64 at h0 ⊢
    constructor
    · rw [Int.le_ediv_iff_mul_le py.1]
      have : (-9223372036854775808 : Int) * P ≤ -9223372036854775808 * 1 := Int.mul_le_mul_of_nonpos_left (by omega) (by omega)
      omega
    · have : a / P < 9223372036854775808 := by
        rw [Int.ediv_lt_iff_lt_mul py.1]
        have : (9223372036854775808 : Int) * 1 ≤ 9223372036854775808 * P := Int.mul_le_mul_of_nonneg_left (by omega) (by omega)
        omega
      omega
  rw [d]
  simp only [Option.bind_some, if_true]
  rw [if_pos n0, if_pos e]; simp
end Go.Proofs.Ytllicjinmlkcfaa.Pure
