/- TableRoots: a root's square is not above, and the next number's is. -/
import Derived.Test.YtfbdalnjijdknaaHTx25
import Derived.Test.YtfbdalnjijdknaaPTable2
namespace Go.Proofs.Ytfbdalnjijdknaa.Pure
open Go.RowKit Go.Proofs.Ytfbdalnjijdknaa.HT Go.Proofs.YtfbdalnjijdknaaW.PrintWords Go.Proofs.YtfbdalnjijdknaaW.PrintLast Go.Proofs.YtfbdalnjijdknaaW.PrintMore Go.Proofs.Ytfbdalnjijdknaa.Sp
set_option linter.unusedVariables false
set_option linter.unusedSimpArgs false
theorem live13 : thrumlaw13_live.f = some true := by decide +kernel
theorem TableRoots : thrumlaw13_TableRoots.Pure := by
  intro a0 w0
  have hu := u64_of_wf w0
  unfold thrumlaw13_TableRoots.f
  rw [live13]
  simp only [Option.bind_some, if_true]
  rw [table_Root.of a0 hu]
  simp only [Option.bind_some]
  obtain ⟨h0, h1, h2⟩ := rootF_is hu
  have h3 := (rootF_is hu).lt hu
  generalize rootF a0 = r at *
  unfold U64 at hu
  have hm0 : 0 ≤ r * r := Int.mul_nonneg h0 h0
  rw [if_neg (by omega), wu, Int.emod_eq_of_lt hm0 (by omega), if_neg (by omega)]
  by_cases c : r = 4294967295
  · rw [if_pos c]
  · rw [if_neg c]
    have hm1 : (r + 1) * (r + 1) ≤ 4294967295 * 4294967295 := Int.mul_le_mul (by omega) (by omega) (by omega) (by omega)
    have hm2 : 0 ≤ (r + 1) * (r + 1) := Int.mul_nonneg (by omega) (by omega)
    rw [wu (r + 1), Int.emod_eq_of_lt (a := r + 1) (by omega) (by omega), wu, Int.emod_eq_of_lt hm2 (by omega)]
    congr 1
    exact decide_eq_true (by omega)
end Go.Proofs.Ytfbdalnjijdknaa.Pure
