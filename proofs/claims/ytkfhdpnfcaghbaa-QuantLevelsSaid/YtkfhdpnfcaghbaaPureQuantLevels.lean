/- QuantLevels: any number's level and rest, and any level's number, are the document's. -/
import Derived.Test.YtkfhdpnfcaghbaaHQx16
namespace Go.Proofs.Ytkfhdpnfcaghbaa.Pure
open Go.RowKit Go.Proofs.Ytkfhdpnfcaghbaa.HQ Go.Proofs.YtkfhdpnfcaghbaaW.PrintWords Go.Proofs.YtkfhdpnfcaghbaaW.PrintLast Go.Proofs.YtkfhdpnfcaghbaaW.PrintMore Go.Proofs.Ytkfhdpnfcaghbaa.Sp
set_option linter.unusedVariables false
set_option linter.unusedSimpArgs false
theorem QuantLevels : thrumlaw10_QuantLevels.Pure := by
  intro a0 a1 a2 a3 w0 w1 w2 w3
  have h0 := i64_of_wf w0
  have h1 := i64_of_wf w1
  have h2 := u64_of_wf w2
  unfold thrumlaw10_QuantLevels.f
  rw [show thrumlaw10_live.f = some true from rfl, quant_Level.of _ _ _ ⟨h0, h1⟩, thrumref10_Level.of _ _ _ ⟨h0, h1⟩, quant_Value.of _ _ _ ⟨h2, h1⟩, thrumref10_Value.of _ _ _ ⟨h2, h1⟩]
  unfold quant_Steps.f thrumref10_Steps.f
  simp only [Option.bind_some, if_true, beq_self_eq_true]
end Go.Proofs.Ytkfhdpnfcaghbaa.Pure
