/- Plain facts on the words in which printed functions are told: shifts, remainders. -/
import Derived.Test.YtihgcjagokippaaBase
import Derived.Test.YtihgcjagokippaaWMore
namespace Go.Proofs.Ytihgcjagokippaa.Sp
open Go.RowKit Go.Proofs.YtihgcjagokippaaW.PrintWords Go.Proofs.YtihgcjagokippaaW.PrintLast Go.Proofs.YtihgcjagokippaaW.PrintMore
theorem pow_bd (f : Int) (n : Nat) (h1 : f ≤ n) : 0 < (2 : Int) ^ f.toNat ∧ (2 : Int) ^ f.toNat ≤ 2 ^ n := by
  refine ⟨Int.pow_pos (by omega), ?_⟩
  have := Nat.pow_le_pow_right (show 0 < 2 by omega) (show f.toNat ≤ n by omega)
  exact_mod_cast this
theorem shl_i64 (f : Int) (h1 : f ≤ 62) : shl .i64 1 f = 2 ^ f.toNat := by
  have := pow_bd f 62 h1
  simp only [Int.reducePow] at this
  unfold shl
  rw [show min f.toNat IntKind.i64.bits = f.toNat from by show min f.toNat 64 = _; omega, IntKind.wrap_i64]; omega
end Go.Proofs.Ytihgcjagokippaa.Sp
