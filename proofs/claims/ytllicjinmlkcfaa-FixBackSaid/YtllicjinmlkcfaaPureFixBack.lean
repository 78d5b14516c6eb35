/- FixBack: what was added is taken away again, for all numbers. -/
import Derived.Test.YtllicjinmlkcfaaHAx13
namespace Go.Proofs.Ytllicjinmlkcfaa.Pure
open Go.RowKit Go.Proofs.Ytllicjinmlkcfaa.HA Go.Proofs.YtllicjinmlkcfaaW.PrintWords Go.Proofs.YtllicjinmlkcfaaW.PrintLast Go.Proofs.YtllicjinmlkcfaaW.PrintMore Go.Proofs.Ytllicjinmlkcfaa.Sp
set_option linter.unusedVariables false
set_option linter.unusedSimpArgs false
theorem FixBack : thrumlaw01_FixBack.Pure := by
  intro a0 a1 a2 w0 w1 w2
  have h0 := i64_of_wf w0
  have h1 := i64_of_wf w1
  have j1 : thrumlaw01_FixBack.j1 1 a0 a1 a2 true = some true := by
    rw [show (1 : Nat) = 0 + 1 from rfl, thrumlaw01_FixBack.j1, fix_Mul.of _ _ _ ⟨h0, h1⟩, fix_Mul.of _ _ _ ⟨h1, h0⟩, fix_Neg.of _ h0]
    have hm : mulF a1 a0 a2 = mulF a0 a1 a2 := by unfold mulF; rw [Int.mul_comm]
    rw [hm]
    simp only [Option.bind_some, if_true]
    by_cases c : I64 (-a0)
    · rw [res_of c]
      simp only [if_true]
      rw [fix_Add.of _ _ ⟨h0, c⟩, show a0 + -a0 = 0 by omega, res_of i64_zero]
      simp
    · rw [res_not c, if_neg (by decide)]
      unfold I64 at h0 c
      have : a0 = -9223372036854775808 := by omega
      subst this
      simp
  have j0 : thrumlaw01_FixBack.j0 2 a0 a1 a2 true = some true := by
    rw [show (2 : Nat) = 1 + 1 from rfl, thrumlaw01_FixBack.j0, fix_Sub.of _ _ ⟨h0, h1⟩]
    by_cases c : I64 (a0 - a1)
    · rw [res_of c]
      simp only [Option.bind_some, if_true]
      rw [fix_Add.of _ _ ⟨c, h1⟩, show a0 - a1 + a1 = a0 by omega, res_of h0]
      simp only [Option.bind_some, if_true]
      exact j1
    · rw [res_not c]
      simp only [Option.bind_some]
      rw [if_neg (by decide)]
      exact j1
  refine ⟨2, ?_⟩
  unfold thrumlaw01_FixBack.f thrumlaw01_live.f
  simp only [Option.bind_some, if_true]
  rw [fix_Add.of _ _ ⟨h0, h1⟩]
  by_cases c : I64 (a0 + a1)
  · rw [res_of c]
    simp only [Option.bind_some, if_true]
    rw [fix_Sub.of _ _ ⟨c, h1⟩, fix_Add.of _ _ ⟨h1, h0⟩, show a0 + a1 - a1 = a0 by omega, show a1 + a0 = a0 + a1 by omega, res_of h0, res_of c]
    simp only [Option.bind_some, if_true]
    exact j0
  · rw [res_not c]
    simp only [Option.bind_some]
    rw [if_neg (by decide)]
    exact j0
end Go.Proofs.Ytllicjinmlkcfaa.Pure
