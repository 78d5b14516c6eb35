/- TableTells: any number's root, and power, and the table. -/
import Derived.Test.YtfbdalnjijdknaaHTx18
import Derived.Test.YtfbdalnjijdknaaPTable2
namespace Go.Proofs.Ytfbdalnjijdknaa.Pure
open Go.RowKit Go.Proofs.Ytfbdalnjijdknaa.HT Go.Proofs.YtfbdalnjijdknaaW.PrintWords Go.Proofs.YtfbdalnjijdknaaW.PrintLast Go.Proofs.YtfbdalnjijdknaaW.PrintMore Go.Proofs.Ytfbdalnjijdknaa.Sp
set_option linter.unusedVariables false
set_option linter.unusedSimpArgs false
theorem live13 : thrumlaw13_live.f = some true := by decide +kernel
theorem shl_pow {f : Int} (hf : 0 ≤ f ∧ f ≤ 30) : shl .i64 1 f = 2 ^ f.toNat := by
  have hp := pow_pos_ f.toNat
  have h30 := pow_le30_ hf
  unfold shl
  rw [show min f.toNat IntKind.i64.bits = f.toNat from by show min f.toNat 64 = _; omega, iwrap, wrap64_of (by unfold I64; omega)]; omega
theorem TableTells : thrumlaw13_TableTells.Pure := by
  intro a0 a1 a2 w0 w1 w2
  have hu := u64_of_wf w0
  have h1 := i64_of_wf w1
  have h2 := i64_of_wf w2
  unfold thrumlaw13_TableTells.f
  rw [live13]
  simp only [Option.bind_some, if_true]
  rw [table_Exp.of a1 a2 ⟨h1, h2⟩, thrumref13_Exp.of a1 a2 ⟨h1, h2⟩, table_Root.of a0 hu, thrumref13_Root.of a0 hu]
  simp only [Option.bind_some, if_true, table_Rows.f, thrumref13_Rows.f, thrumref03_SameNumbers.f, decide_true]
end Go.Proofs.Ytfbdalnjijdknaa.Pure
