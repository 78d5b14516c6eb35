/- Plain facts on the words in which printed functions are told: shifts, remainders. -/
import Derived.Test.YtkfhdpnfcaghbaaBase
import Derived.Test.YtkfhdpnfcaghbaaWMore
namespace Go.Proofs.Ytkfhdpnfcaghbaa.Sp
open Go.RowKit Go.Proofs.YtkfhdpnfcaghbaaW.PrintWords Go.Proofs.YtkfhdpnfcaghbaaW.PrintLast Go.Proofs.YtkfhdpnfcaghbaaW.PrintMore
end Go.Proofs.Ytkfhdpnfcaghbaa.Sp
