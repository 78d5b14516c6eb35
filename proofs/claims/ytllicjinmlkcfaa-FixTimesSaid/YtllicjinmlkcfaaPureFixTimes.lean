/- FixTimes: products, quotients, shifted numbers and whole products are those of the document, for all numbers and bits behind the point. -/
import Derived.Test.YtllicjinmlkcfaaHAx12
namespace Go.Proofs.Ytllicjinmlkcfaa.Pure
open Go.RowKit Go.Proofs.Ytllicjinmlkcfaa.HA Go.Proofs.YtllicjinmlkcfaaW.PrintWords Go.Proofs.YtllicjinmlkcfaaW.PrintLast Go.Proofs.YtllicjinmlkcfaaW.PrintMore Go.Proofs.Ytllicjinmlkcfaa.Sp
set_option linter.unusedVariables false
set_option linter.unusedSimpArgs false
theorem FixTimes : thrumlaw01_FixTimes.Pure := by
  intro a0 a1 a2 w0 w1 w2
  have h0 := i64_of_wf w0
  have h1 := i64_of_wf w1
  unfold thrumlaw01_FixTimes.f
  simp [thrumlaw01_live.f, fix_Mul.f, fix_Div.f, fix_Quot.f, fix_Shift.f, fix_Wide.f, thrumref01_Mul.f, thrumref01_Div.f, thrumref01_Quot.f, thrumref01_Shift.f, thrumref01_Wide.f, h0, h1]
end Go.Proofs.Ytllicjinmlkcfaa.Pure
