/- FixWide: a whole product is that of its parts, for all numbers. -/
import Derived.Test.YtllicjinmlkcfaaHAx15
namespace Go.Proofs.Ytllicjinmlkcfaa.Pure
open Go.RowKit Go.Proofs.Ytllicjinmlkcfaa.HA Go.Proofs.YtllicjinmlkcfaaW.PrintWords Go.Proofs.YtllicjinmlkcfaaW.PrintLast Go.Proofs.YtllicjinmlkcfaaW.PrintMore Go.Proofs.Ytllicjinmlkcfaa.Sp
set_option linter.unusedVariables false
set_option linter.unusedSimpArgs false
theorem FixWide : thrumlaw01_FixWide.Pure := by
  intro a b c w0 w1 w2
  have h0 := i64_of_wf w0
  have h1 := i64_of_wf w1
  have h2 := i64_of_wf w2
  refine ⟨1, ?_⟩
  unfold thrumlaw01_FixWide.f thrumlaw01_live.f
  simp only [Option.bind_some, if_true]
  rw [fix_Wide.of _ _ ⟨h0, by unfold I64; omega⟩]
  simp only [Option.bind_some, Int.mul_one, wu, if_true]
  have e : (a / 18446744073709551616 != a / 9223372036854775808) = false := by unfold I64 at h0; simp; omega
  rw [e, show (1 : Nat) = 0 + 1 from rfl, thrumlaw01_FixWide.j0, if_neg (by decide), fix_Add.of _ _ ⟨h1, h2⟩]
  by_cases k : I64 (b + c)
  · have p1 := prod_bd h0 h1
    have p2 := prod_bd h0 h2
    have p3 := prod_bd h0 k
    rw [res_of k]
    simp only [Option.bind_some, if_true]
    rw [fix_Wide.of _ _ ⟨h0, h1⟩, fix_Wide.of _ _ ⟨h0, h2⟩, fix_Wide.of _ _ ⟨h0, k⟩]
    simp only [Option.bind_some, if_true]
    rw [Int.mul_add] at p3 ⊢
    generalize a * b = p at *
    generalize a * c = q at *
    obtain ⟨s, hs⟩ : ∃ s, s = p % 18446744073709551616 + q % 18446744073709551616 := ⟨_, rfl⟩
    rw [← hs, wu]
    by_cases d : s % 18446744073709551616 < p % 18446744073709551616
    · have e1 : (p + q) / 18446744073709551616 = p / 18446744073709551616 + q / 18446744073709551616 + 1 := by omega
      have e2 : (p + q) % 18446744073709551616 = s % 18446744073709551616 := by omega
      have hw : wrap64 (wrap64 (p / 18446744073709551616 + q / 18446744073709551616) + 1) = (p + q) / 18446744073709551616 := by
        simp only [wrap64_def]; omega
      rw [if_pos d, if_pos e2, hw]; simp
    · have e1 : (p + q) / 18446744073709551616 = p / 18446744073709551616 + q / 18446744073709551616 := by omega
      have e2 : (p + q) % 18446744073709551616 = s % 18446744073709551616 := by omega
      have hw : wrap64 (wrap64 (p / 18446744073709551616 + q / 18446744073709551616) + 0) = (p + q) / 18446744073709551616 := by
        simp only [wrap64_def]; omega
      rw [if_neg d, if_pos e2, hw]; simp
  · rw [res_not k]
    simp only [Option.bind_some]
    rw [if_neg (by decide)]; simp
end Go.Proofs.Ytllicjinmlkcfaa.Pure
