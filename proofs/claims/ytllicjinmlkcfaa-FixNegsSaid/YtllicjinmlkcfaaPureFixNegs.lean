/- FixNegs: with one sign turned a product is the opposite; a number times 2^frac, with frac bits behind it, is it, and divided by that, too, for all numbers. -/
import Derived.Test.YtllicjinmlkcfaaHAx17
namespace Go.Proofs.Ytllicjinmlkcfaa.Pure
open Go.RowKit Go.Proofs.Ytllicjinmlkcfaa.HA Go.Proofs.YtllicjinmlkcfaaW.PrintWords Go.Proofs.YtllicjinmlkcfaaW.PrintLast Go.Proofs.YtllicjinmlkcfaaW.PrintMore Go.Proofs.Ytllicjinmlkcfaa.Sp
set_option linter.unusedVariables false
set_option linter.unusedSimpArgs false
theorem FixNegs : thrumlaw01_FixNegs.Pure := by
  intro a b n w0 w1 w2
  have h0 := i64_of_wf w0
  have h1 := i64_of_wf w1
  obtain ⟨n0, n1⟩ := turn_bd n 31 (by omega) (by omega)
  unfold thrumlaw01_FixNegs.f thrumlaw01_live.f
  generalize Int.tmod (wrap64 (Int.tmod n 31 + 31)) 31 = y at *
  have py := pow_bd y 30 (by omega)
  simp only [Int.reducePow] at py
  have hP64 : I64 (2 ^ y.toNat) := by unfold I64; omega
  have hm : mulF a (2 ^ y.toNat) y = (a, 0) := by
    unfold mulF; rw [if_pos (by omega), Int.mul_ediv_cancel _ (by omega), res_of h0]
  have hd : divF a (2 ^ y.toNat) y = (a, 0) := by
    unfold divF divQ; rw [if_neg (by omega), if_pos py.1, Int.mul_ediv_cancel _ (by omega), res_of h0]
  have j1 : thrumlaw01_FixNegs.j1 1 a y true false = some true := by
    rw [show (1 : Nat) = 0 + 1 from rfl, thrumlaw01_FixNegs.j1, if_neg (by decide), if_pos n0, shl_i64 y (by omega), fix_Mul.of _ _ _ ⟨h0, hP64⟩, fix_Div.of _ _ _ ⟨h0, hP64⟩, hm, hd]
    simp
  have j0f : ∀ x z, thrumlaw01_FixNegs.j0 2 a b y true x z false = some true := fun x z => by
    rw [show (2 : Nat) = 1 + 1 from rfl, thrumlaw01_FixNegs.j0, if_neg (by decide), if_pos n0, shl_i64 y (by omega), fix_Mul.of _ _ _ ⟨h0, hP64⟩, fix_Div.of _ _ _ ⟨h0, hP64⟩, hm, hd]
    simp
  refine ⟨2, ?_⟩
  simp only [Option.bind_some, if_true]
  have m0 : ∀ u v : Int, mulF u v 0 = res (u * v) := fun u v => by unfold mulF; rw [if_pos (by omega)]; simp
  rw [fix_Mul.of _ _ _ ⟨h0, h1⟩, fix_Neg.of _ h0, m0]
  simp only [Option.bind_some]
  by_cases c : I64 (a * b)
  · rw [res_of c]
    simp only [if_true]
    by_cases d : I64 (-a)
    · rw [res_of d]
      simp only [if_true]
      by_cases e : a * b = -9223372036854775808
      · have : (a * b != -9223372036854775808) = false := by simp [e]
        rw [this]; exact j0f _ _
      · have : (a * b != -9223372036854775808) = true := by simpa using e
        rw [this, show (2 : Nat) = 1 + 1 from rfl, thrumlaw01_FixNegs.j0, if_pos rfl, fix_Mul.of _ _ _ ⟨d, h1⟩, m0, Int.neg_mul]
        have hn : I64 (-(a * b)) := by unfold I64 at *; omega
        rw [res_of hn, wrap64_of hn]
        simp only [Option.bind_some, if_true, bne_self_eq_false]
        exact j1
    · rw [res_not d, if_neg (by decide)]; exact j0f _ _
  · rw [res_not c, if_neg (by decide)]; exact j0f _ _
end Go.Proofs.Ytllicjinmlkcfaa.Pure
