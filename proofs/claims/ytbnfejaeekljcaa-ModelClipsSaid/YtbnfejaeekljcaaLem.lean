/- Plain facts on the words in which printed functions are told: shifts, remainders. -/
import Derived.Test.YtbnfejaeekljcaaBase
import Derived.Test.YtbnfejaeekljcaaWMore
namespace Go.Proofs.Ytbnfejaeekljcaa.Sp
open Go.RowKit Go.Proofs.YtbnfejaeekljcaaW.PrintWords Go.Proofs.YtbnfejaeekljcaaW.PrintLast Go.Proofs.YtbnfejaeekljcaaW.PrintMore
/-- A number made to lie from 0 on. -/
theorem turn_bd (x n : Int) (h0 : 0 < n) (h1 : n ≤ 4611686018427387904) : 0 ≤ Int.tmod (wrap64 (Int.tmod x n + n)) n ∧ Int.tmod (wrap64 (Int.tmod x n + n)) n < n := by
  have a := Int.tmod_lt_of_pos x h0
  have b : -n < Int.tmod x n := Int.lt_tmod_of_pos x h0
  rw [wrap64_of (show I64 (Int.tmod x n + n) by unfold I64; omega), Int.tmod_eq_emod_of_nonneg (by omega)]
  exact ⟨Int.emod_nonneg _ (by omega), Int.emod_lt_of_pos _ h0⟩
theorem pow_bd (f : Int) (n : Nat) (h1 : f ≤ n) : 0 < (2 : Int) ^ f.toNat ∧ (2 : Int) ^ f.toNat ≤ 2 ^ n := by
  refine ⟨Int.pow_pos (by omega), ?_⟩
  have := Nat.pow_le_pow_right (show 0 < 2 by omega) (show f.toNat ≤ n by omega)
  exact_mod_cast this
theorem shl_i64 (f : Int) (h1 : f ≤ 62) : shl .i64 1 f = 2 ^ f.toNat := by
  have := pow_bd f 62 h1
  simp only [Int.reducePow] at this
  unfold shl
  rw [show min f.toNat IntKind.i64.bits = f.toNat from by show min f.toNat 64 = _; omega, IntKind.wrap_i64]; omega
theorem shl_u64 (f : Int) (h1 : f ≤ 63) : shl .u64 1 f = 2 ^ f.toNat := by
  have := pow_bd f 63 h1
  simp only [Int.reducePow] at this
  unfold shl
  rw [show min f.toNat IntKind.u64.bits = f.toNat from by show min f.toNat 64 = _; omega, wu]; omega
theorem shr_i64 (x f : Int) (h1 : f ≤ 64) : shr .i64 x f = x / 2 ^ f.toNat := by
  unfold shr; rw [show min f.toNat IntKind.i64.bits = f.toNat from by show min f.toNat 64 = _; omega]
end Go.Proofs.Ytbnfejaeekljcaa.Sp
