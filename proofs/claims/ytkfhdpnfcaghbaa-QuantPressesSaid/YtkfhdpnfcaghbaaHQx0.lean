/- What Go functions do, each as a plain Lean function with the same answers, and the proof of it, in every world: printed by the session's driver over the kit's print, with texts by hand. -/
import Derived.Test.YtkfhdpnfcaghbaaProg
import Derived.Below
import Derived.Deep.Draws
import Derived.Deep.AppendLies
import Derived.Maps.AppendAt
import Derived.OwnWalk
import Derived.Laws.BytesArg
import Derived.Laws.MakeOwn
import Derived.Laws.OwnMore
import Derived.Deep.OwnRows
import Derived.Tactics
import Derived.Lib.ConvBytes
import Derived.Laws.Slices
import Derived.WalkKit
import Derived.KernelRfl
import Derived.RowKit3
import Derived.Deep.LoopGhost
import Derived.Deep.QuietTactic
import Derived.BigQuiet
import Derived.WideLaws
import Derived.Deep.DeepCutAuto
import Derived.Deep.CutBlock
import Derived.Deep.RegionHeld3
import Derived.Laws.Rows
import Derived.Lib.AppendStr
import Derived.ArgAppend
import Derived.Laws.IdiomCopy
import Derived.OrdersHeld
import Derived.Laws.BitsLemmas
import Derived.RowKit
import Derived.Test.YtkfhdpnfcaghbaaBase
import Derived.Test.YtkfhdpnfcaghbaaBaseEq
import Derived.Test.YtkfhdpnfcaghbaaLem
import Derived.Test.YtkfhdpnfcaghbaaVec
import Derived.Test.YtkfhdpnfcaghbaaSign
import Derived.Test.YtkfhdpnfcaghbaaQuant
import Derived.Test.YtkfhdpnfcaghbaaWWords
import Derived.Test.YtkfhdpnfcaghbaaWLast
import Derived.Test.YtkfhdpnfcaghbaaWTab
import Derived.Test.YtkfhdpnfcaghbaaWQPut
import Derived.Test.YtkfhdpnfcaghbaaWApart
import Derived.Test.YtkfhdpnfcaghbaaWArr
import Derived.Test.YtkfhdpnfcaghbaaWZeros
import Derived.Test.YtkfhdpnfcaghbaaWFoot
import Derived.Test.YtkfhdpnfcaghbaaWKept
import Derived.Test.YtkfhdpnfcaghbaaWShare
import Derived.Test.YtkfhdpnfcaghbaaWN
import Derived.Test.YtkfhdpnfcaghbaaWRepsOne
import Derived.Test.YtkfhdpnfcaghbaaWInv
import Derived.Test.YtkfhdpnfcaghbaaWGuard
import Derived.Test.YtkfhdpnfcaghbaaWNEv
import Derived.Test.YtkfhdpnfcaghbaaWMore
namespace Go.Proofs.Ytkfhdpnfcaghbaa.HQ
open Go.RowKit Go.Proofs.YtkfhdpnfcaghbaaW.PrintWords Go.Proofs.YtkfhdpnfcaghbaaW.PrintLast Go.Proofs.YtkfhdpnfcaghbaaW.PrintMore
attribute [local go_sem] max2_int min2_int max_two min_two max_three min_three max_four min_four   -- for this text's walks alone
open Go.Proofs.Ytkfhdpnfcaghbaa.Sp
attribute [local go_sem] Go.Proofs.Ytkfhdpnfcaghbaa.Sp.u64_not
set_option linter.unusedVariables false
set_option linter.unusedSimpArgs false



def errW : Option Int → Value
  | none => .nilIface
  | some c => .iface 0 (.int .i64 c)
theorem errW_none : errW none = .nilIface := rfl
theorem errW_some (c : Int) : errW (some c) = .iface 0 (.int .i64 c) := rfl

theorem info2 : (Try.prog.info? 2).map (fun i => (i.zero, i.size, i.bytes)) = some (some (.int .i64 0), 1, 8) := by kernel_rfl
theorem info3 : (Try.prog.info? 3).map (fun i => (i.zero, i.size, i.bytes)) = some (some (.int .i64 0), 1, 8) := by kernel_rfl
theorem info4 : (Try.prog.info? 4).map (fun i => (i.zero, i.size, i.bytes)) = some (some (.bool false), 1, 1) := by kernel_rfl
theorem info64 : (Try.prog.info? 64).map (fun i => (i.zero, i.size, i.bytes)) = some (some (.int .u64 0), 1, 8) := by kernel_rfl
-- the values' own types

end Go.Proofs.Ytkfhdpnfcaghbaa.HQ
