/- FixSmall: products and quotients of small numbers are what they are, for all numbers. -/
import Derived.Test.YtllicjinmlkcfaaHAx14
namespace Go.Proofs.Ytllicjinmlkcfaa.Pure
open Go.RowKit Go.Proofs.Ytllicjinmlkcfaa.HA Go.Proofs.YtllicjinmlkcfaaW.PrintWords Go.Proofs.YtllicjinmlkcfaaW.PrintLast Go.Proofs.YtllicjinmlkcfaaW.PrintMore Go.Proofs.Ytllicjinmlkcfaa.Sp
set_option linter.unusedVariables false
set_option linter.unusedSimpArgs false
theorem FixSmall : thrumlaw01_FixSmall.Pure := by
  intro x y n w0 w1 w2
  have h0 := i32_of_wf w0
  have h1 := i32_of_wf w1
  obtain ⟨n0, n1⟩ := turn_bd n 17 (by omega) (by omega)
  refine ⟨1, ?_⟩
  unfold thrumlaw01_FixSmall.f thrumlaw01_live.f
  generalize Int.tmod (wrap64 (Int.tmod n 17 + 17)) 17 = f at *
  rw [wrap64_of (show I64 x by unfold I64; omega), wrap64_of (show I64 y by unfold I64; omega)]
  have t1 := Int.tmod_lt_of_pos y (show (0 : Int) < 16384 by omega)
  have t2 := Int.lt_tmod_of_pos y (show (0 : Int) < 16384 by omega)
  generalize Int.tmod y 16384 = b at *
  have py := pow_bd f 16 (by omega)
  simp only [Int.reducePow] at py
  rw [shl_i64 f (by omega)]
  have hxb : I64 x ∧ I64 b := by unfold I64; omega
  rw [fix_Mul.of _ _ _ hxb]
  have hab : -35184372088832 ≤ x * b ∧ x * b ≤ 35184372088832 := by
    have hn : x.natAbs * b.natAbs ≤ 2147483648 * 16384 := Nat.mul_le_mul (by omega) (by omega)
    rw [← Int.natAbs_mul] at hn
    generalize x * b = p at *
    omega
  have hm : mulF x b f = res (x * b / 2 ^ f.toNat) := by unfold mulF; rw [if_pos (by omega)]
  rw [hm]
  obtain ⟨P, hP⟩ : ∃ P : Int, P = 2 ^ f.toNat := ⟨_, rfl⟩
  rw [← hP] at py ⊢
  have e1 := Int.emod_add_mul_ediv (x * b) P
  have e2 := Int.emod_nonneg (x * b) (show P ≠ 0 by omega)
  have e3 := Int.emod_lt_of_pos (x * b) py.1
  rw [Int.mul_comm P] at e1
  have hpq : -35184372088833 ≤ x * b / P ∧ x * b / P ≤ 35184372088832 := by
    constructor
    · rw [Int.le_ediv_iff_mul_le py.1]
      have : (-35184372088833 : Int) * P ≤ -35184372088833 * 1 := Int.mul_le_mul_of_nonpos_left (by omega) (by omega)
      omega
    · have : x * b / P < 35184372088833 := by
        rw [Int.ediv_lt_iff_lt_mul py.1]
        have : (35184372088833 : Int) * 1 ≤ 35184372088833 * P := Int.mul_le_mul_of_nonneg_left (by omega) (by omega)
        omega
      omega
  rw [res_of (show I64 (x * b / P) by unfold I64; omega)]
  simp only [Option.bind_some, if_true]
  rw [if_pos n0, wrap64_of (show I64 (x * b) by unfold I64; omega), wrap64_of (show I64 (x * b / P * P) by unfold I64; omega), wrap64_of (show I64 (x * b - x * b / P * P) by unfold I64; omega), if_neg (by omega)]
  rw [decide_eq_false (by omega), show (1 : Nat) = 0 + 1 from rfl, thrumlaw01_FixSmall.j0, if_neg (by decide)]
  rw [fix_Div.of _ _ _ hxb]
  simp only [Option.bind_some, if_true]
  by_cases c : b = 0
  · rw [if_pos c, show divF x b f = (0, 1) from if_pos (.inr (.inr c))]; simp
  · rw [if_neg c, if_pos n0, shl_i64 f (by omega), ← hP]
    have hxP : -140737488355328 ≤ x * P ∧ x * P ≤ 140737488355328 := by
      have hn : x.natAbs * P.natAbs ≤ 2147483648 * 65536 := Nat.mul_le_mul (by omega) (by omega)
      rw [← Int.natAbs_mul] at hn
      generalize x * P = p at *
      omega
    have hd : divF x b f = res (divQ (x * P) b) := by unfold divF; rw [if_neg (by omega), ← hP]
    rw [hd]
    rw [wrap64_of (show I64 (x * P) by unfold I64; omega)]
    generalize x * P = X at *
    by_cases d : b > 0
    · have q : divQ X b = X / b := if_pos d
      have k1 := Int.emod_add_mul_ediv X b
      have k2 := Int.emod_nonneg X (show b ≠ 0 by omega)
      have k3 := Int.emod_lt_of_pos X d
      rw [Int.mul_comm b] at k1
      have hq : -140737488355329 ≤ X / b ∧ X / b ≤ 140737488355328 := by
        constructor
        · rw [Int.le_ediv_iff_mul_le d]
          have : (-140737488355329 : Int) * b ≤ -140737488355329 * 1 := Int.mul_le_mul_of_nonpos_left (by omega) (by omega)
          omega
        · have : X / b < 140737488355329 := by
            rw [Int.ediv_lt_iff_lt_mul d]
            have : (140737488355329 : Int) * 1 ≤ 140737488355329 * b := Int.mul_le_mul_of_nonneg_left (by omega) (by omega)
            omega
          omega
      rw [q, res_of (show I64 (X / b) by unfold I64; omega)]
      simp only [if_true]
      rw [wrap64_of (show I64 (X / b * b) by unfold I64; omega), wrap64_of (show I64 (X - X / b * b) by unfold I64; omega), if_pos d, if_pos (by omega), if_pos (by omega)]
    · have q : divQ X b = (-X) / (-b) := if_neg d
      have d' : 0 < -b := by omega
      have k1 := Int.emod_add_mul_ediv (-X) (-b)
      have k2 := Int.emod_nonneg (-X) (show -b ≠ 0 by omega)
      have k3 := Int.emod_lt_of_pos (-X) d'
      have hq : -140737488355329 ≤ (-X) / (-b) ∧ (-X) / (-b) ≤ 140737488355328 := by
        constructor
        · rw [Int.le_ediv_iff_mul_le d']
          have : (-140737488355329 : Int) * (-b) ≤ -140737488355329 * 1 := Int.mul_le_mul_of_nonpos_left (by omega) (by omega)
          omega
        · have : (-X) / (-b) < 140737488355329 := by
            rw [Int.ediv_lt_iff_lt_mul d']
            have : (140737488355329 : Int) * 1 ≤ 140737488355329 * (-b) := Int.mul_le_mul_of_nonneg_left (by omega) (by omega)
            omega
          omega
      rw [q, res_of (show I64 ((-X) / (-b)) by unfold I64; omega)]
      generalize (-X) / (-b) = u at *
      generalize (-X) % (-b) = v at *
      have k4 : u * b = v + X := by have : -b * u = -(u * b) := by grind
                                    omega
      simp only [if_true]
      rw [k4, wrap64_of (show I64 (v + X) by unfold I64; omega), wrap64_of (show I64 (X - (v + X)) by unfold I64; omega), if_neg d, if_pos (by omega), if_pos (by omega), decide_eq_true (by omega)]
end Go.Proofs.Ytllicjinmlkcfaa.Pure
