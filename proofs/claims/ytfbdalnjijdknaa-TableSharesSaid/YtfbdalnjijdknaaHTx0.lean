/- What Go functions do, each as a plain Lean function with the same answers, and the proof of it, in every world: printed by the session's driver over the kit's print, with texts by hand. -/
import Derived.Test.YtfbdalnjijdknaaProg
import Derived.Below
import Derived.Deep.Draws
import Derived.Deep.AppendLies
import Derived.Maps.AppendAt
import Derived.OwnWalk
import Derived.Laws.BytesArg
import Derived.Laws.MakeOwn
import Derived.Laws.OwnMore
import Derived.Deep.OwnRows
import Derived.Tactics
import Derived.Lib.ConvBytes
import Derived.Laws.Slices
import Derived.WalkKit
import Derived.KernelRfl
import Derived.RowKit3
import Derived.Deep.LoopGhost
import Derived.Deep.QuietTactic
import Derived.BigQuiet
import Derived.WideLaws
import Derived.Deep.DeepCutAuto
import Derived.Deep.CutBlock
import Derived.Deep.RegionHeld3
import Derived.Laws.Rows
import Derived.Lib.AppendStr
import Derived.ArgAppend
import Derived.Laws.IdiomCopy
import Derived.OrdersHeld
import Derived.Laws.BitsLemmas
import Derived.RowKit
import Derived.Test.YtfbdalnjijdknaaBase
import Derived.Test.YtfbdalnjijdknaaBaseEq
import Derived.Test.YtfbdalnjijdknaaLem
import Derived.Test.YtfbdalnjijdknaaVec
import Derived.Test.YtfbdalnjijdknaaFacts
import Derived.Test.YtfbdalnjijdknaaPTable
import Derived.Test.YtfbdalnjijdknaaTable
import Derived.Test.YtfbdalnjijdknaaWWords
import Derived.Test.YtfbdalnjijdknaaWLast
import Derived.Test.YtfbdalnjijdknaaWTab
import Derived.Test.YtfbdalnjijdknaaWFour
import Derived.Test.YtfbdalnjijdknaaWQPut
import Derived.Test.YtfbdalnjijdknaaWApart
import Derived.Test.YtfbdalnjijdknaaWArr
import Derived.Test.YtfbdalnjijdknaaWZeros
import Derived.Test.YtfbdalnjijdknaaWFoot
import Derived.Test.YtfbdalnjijdknaaWKept
import Derived.Test.YtfbdalnjijdknaaWShare
import Derived.Test.YtfbdalnjijdknaaWN
import Derived.Test.YtfbdalnjijdknaaWFootNe
import Derived.Test.YtfbdalnjijdknaaWAt
import Derived.Test.YtfbdalnjijdknaaWEqStruct
import Derived.Test.YtfbdalnjijdknaaWRepsOne
import Derived.Test.YtfbdalnjijdknaaWInv
import Derived.Test.YtfbdalnjijdknaaWInvWords
import Derived.Test.YtfbdalnjijdknaaWGuard
import Derived.Test.YtfbdalnjijdknaaWNEv
import Derived.Test.YtfbdalnjijdknaaWMore
namespace Go.Proofs.Ytfbdalnjijdknaa.HT
open Go.RowKit Go.Proofs.YtfbdalnjijdknaaW.PrintWords Go.Proofs.YtfbdalnjijdknaaW.PrintLast Go.Proofs.YtfbdalnjijdknaaW.PrintMore
attribute [local go_sem] max2_int min2_int max_two min_two max_three min_three max_four min_four   -- for this text's walks alone
open Go.Proofs.Ytfbdalnjijdknaa.Sp
attribute [local go_sem] Go.Proofs.Ytfbdalnjijdknaa.Sp.u64_not
set_option linter.unusedVariables false
set_option linter.unusedSimpArgs false



def errW : Option Int → Value
  | none => .nilIface
  | some c => .iface 0 (.int .i64 c)
theorem errW_none : errW none = .nilIface := rfl
theorem errW_some (c : Int) : errW (some c) = .iface 0 (.int .i64 c) := rfl

theorem info2 : (Try.prog.info? 2).map (fun i => (i.zero, i.size, i.bytes)) = some (some (.int .i64 0), 1, 8) := by kernel_rfl
theorem info49 : (Try.prog.info? 49).map (fun i => (i.zero, i.size, i.bytes)) = some (some (.int .u64 0), 1, 8) := by kernel_rfl
-- the values' own types

end Go.Proofs.Ytfbdalnjijdknaa.HT
