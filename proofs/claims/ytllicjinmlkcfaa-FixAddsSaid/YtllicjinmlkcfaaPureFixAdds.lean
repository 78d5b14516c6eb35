/- FixAdds: sums, differences, opposites, sizes and clipped numbers are those of the document, for all numbers of 64 bits. -/
import Derived.Test.YtllicjinmlkcfaaHAx7
namespace Go.Proofs.Ytllicjinmlkcfaa.Pure
open Go.RowKit Go.Proofs.Ytllicjinmlkcfaa.HA Go.Proofs.YtllicjinmlkcfaaW.PrintWords Go.Proofs.YtllicjinmlkcfaaW.PrintLast Go.Proofs.YtllicjinmlkcfaaW.PrintMore Go.Proofs.Ytllicjinmlkcfaa.Sp
set_option linter.unusedVariables false
set_option linter.unusedSimpArgs false
theorem FixAdds : thrumlaw01_FixAdds.Pure := by
  intro a0 a1 w0 w1
  have h0 := i64_of_wf w0
  have h1 := i64_of_wf w1
  unfold thrumlaw01_FixAdds.f
  simp [thrumlaw01_live.f, fix_Add.f, fix_Sub.f, fix_Neg.f, fix_Abs.f, fix_Clip.f, thrumref01_Add.f, thrumref01_Sub.f, thrumref01_Neg.f, thrumref01_Abs.f, thrumref01_Clip.f, h0, h1]
end Go.Proofs.Ytllicjinmlkcfaa.Pure
