/-
  No cell of these rows narrows 'for every input' (looked for: loops, veiled, ifaces, maps, wideKeys, modest, calm, conditions, laid).
  DERIVED. THE GIVEN ROWS OF THIS SEAT. 12 by the template 'for every input the law returns true; each argument reads behind the call as it read before'; 0 by the template 'total and deterministic' (their statements: YtkfhdpnfcaghbaaTotals.lean).
  GIVEN WITH THE SEED: the statements are not yours to turn. If you find one false, say at which input.
  Laid BY PROGRAM, IN A SANDBOX (cutbox-rows.mjs): the forced cells as the released guide's own fill.sh prints them over the translation 7346915286531fc4… (all of the seat's roots in one cut). By AI agents, Wed Nov 11 2026. No macro, syntax, notation, axiom, sorry.
-/
import Derived.Test.YtkfhdpnfcaghbaaChecked
import GoSem.Claim
import GoSem.ClaimJoined
import GoSem.ClaimMapViews
import Derived.JoinedTies
import Derived.KernelRfl
namespace Go.Proofs.Ytkfhdpnfcaghbaa
/- THE CELL 'sum', in the pinned program and in every row, IS THE sha256 OF THE DUMP (.gsa) THAT YtkfhdpnfcaghbaaProg.lean LOADS. Nothing in Lean hashes anything: it is a label: what it is worth is what the hold of that sum in a sandbox is worth. -/
noncomputable def Try.pinned : Pinned := { name := "ytkfhdpnfcaghbaa", sum := "7346915286531fc42bdcd383c5b79e4122cdc01f0b20ab27428d85ed7e2c832c", checked := Try.checked }
namespace Rows
def none {H : Type} : Left H := { results := [], args := [] }

/-- 'thrumlaw22.GatherHears': WHATEVER THE INPUT: true; the input reads as it did. -/
def gatherHearsSpec : ChangeSpec := { name := "gatherHears", fn := fun _ => fun
  | [d1, d2] => { results := [.lit (.bool true)], args := [d1, d2] }
  | _ => none }
def gatherHearsRow : OpenClaim := { program := "ytkfhdpnfcaghbaa", sum := "7346915286531fc42bdcd383c5b79e4122cdc01f0b20ab27428d85ed7e2c832c", func := "thrum/thrumlaw22.GatherHears", spec := "gatherHears", unfollowed := true, recurses := true, apart := false }
def GatherHearsSaid : Prop := gatherHearsRow.holds Try.pinned (OpenSpec.ofChange gatherHearsSpec)

/-- ITS FALSE NEIGHBOUR: 'it returns false'. Refute it at one input. -/
def gatherHearsWrong : ChangeSpec := { name := "gatherHears", fn := fun _ => fun
  | [d1, d2] => { results := [.lit (.bool false)], args := [d1, d2] }
  | _ => none }
def GatherHearsWrongFalsely : Prop := gatherHearsRow.holds Try.pinned (OpenSpec.ofChange gatherHearsWrong)

/-- 'thrumlaw22.GatherAnswers': WHATEVER THE INPUT: true; the input reads as it did. -/
def gatherAnswersSpec : ChangeSpec := { name := "gatherAnswers", fn := fun _ => fun
  | [d1, d2, d3, d4, d5, d6] => { results := [.lit (.bool true)], args := [d1, d2, d3, d4, d5, d6] }
  | _ => none }
def gatherAnswersRow : OpenClaim := { program := "ytkfhdpnfcaghbaa", sum := "7346915286531fc42bdcd383c5b79e4122cdc01f0b20ab27428d85ed7e2c832c", func := "thrum/thrumlaw22.GatherAnswers", spec := "gatherAnswers", unfollowed := true, recurses := true, apart := false }
def GatherAnswersSaid : Prop := gatherAnswersRow.holds Try.pinned (OpenSpec.ofChange gatherAnswersSpec)

/-- ITS FALSE NEIGHBOUR: 'it returns false'. Refute it at one input. -/
def gatherAnswersWrong : ChangeSpec := { name := "gatherAnswers", fn := fun _ => fun
  | [d1, d2, d3, d4, d5, d6] => { results := [.lit (.bool false)], args := [d1, d2, d3, d4, d5, d6] }
  | _ => none }
def GatherAnswersWrongFalsely : Prop := gatherAnswersRow.holds Try.pinned (OpenSpec.ofChange gatherAnswersWrong)

/-- 'thrumlaw22.GatherOnce': WHATEVER THE INPUT: true; the input reads as it did. -/
def gatherOnceSpec : ChangeSpec := { name := "gatherOnce", fn := fun _ => fun
  | [d1, d2, d3, d4, d5] => { results := [.lit (.bool true)], args := [d1, d2, d3, d4, d5] }
  | _ => none }
def gatherOnceRow : OpenClaim := { program := "ytkfhdpnfcaghbaa", sum := "7346915286531fc42bdcd383c5b79e4122cdc01f0b20ab27428d85ed7e2c832c", func := "thrum/thrumlaw22.GatherOnce", spec := "gatherOnce", unfollowed := true, recurses := true, apart := false }
def GatherOnceSaid : Prop := gatherOnceRow.holds Try.pinned (OpenSpec.ofChange gatherOnceSpec)

/-- ITS FALSE NEIGHBOUR: 'it returns false'. Refute it at one input. -/
def gatherOnceWrong : ChangeSpec := { name := "gatherOnce", fn := fun _ => fun
  | [d1, d2, d3, d4, d5] => { results := [.lit (.bool false)], args := [d1, d2, d3, d4, d5] }
  | _ => none }
def GatherOnceWrongFalsely : Prop := gatherOnceRow.holds Try.pinned (OpenSpec.ofChange gatherOnceWrong)

/-- 'thrumlaw22.GatherTicks': WHATEVER THE INPUT: true; the input reads as it did. -/
def gatherTicksSpec : ChangeSpec := { name := "gatherTicks", fn := fun _ => fun
  | [d1, d2] => { results := [.lit (.bool true)], args := [d1, d2] }
  | _ => none }
def gatherTicksRow : OpenClaim := { program := "ytkfhdpnfcaghbaa", sum := "7346915286531fc42bdcd383c5b79e4122cdc01f0b20ab27428d85ed7e2c832c", func := "thrum/thrumlaw22.GatherTicks", spec := "gatherTicks", unfollowed := true, recurses := true, apart := false }
def GatherTicksSaid : Prop := gatherTicksRow.holds Try.pinned (OpenSpec.ofChange gatherTicksSpec)

/-- ITS FALSE NEIGHBOUR: 'it returns false'. Refute it at one input. -/
def gatherTicksWrong : ChangeSpec := { name := "gatherTicks", fn := fun _ => fun
  | [d1, d2] => { results := [.lit (.bool false)], args := [d1, d2] }
  | _ => none }
def GatherTicksWrongFalsely : Prop := gatherTicksRow.holds Try.pinned (OpenSpec.ofChange gatherTicksWrong)

/-- 'thrumlaw22.GatherStarts': WHATEVER THE INPUT: true; the input reads as it did. -/
def gatherStartsSpec : ChangeSpec := { name := "gatherStarts", fn := fun _ => fun
  | [d1, d2, d3, d4, d5, d6, d7] => { results := [.lit (.bool true)], args := [d1, d2, d3, d4, d5, d6, d7] }
  | _ => none }
def gatherStartsRow : OpenClaim := { program := "ytkfhdpnfcaghbaa", sum := "7346915286531fc42bdcd383c5b79e4122cdc01f0b20ab27428d85ed7e2c832c", func := "thrum/thrumlaw22.GatherStarts", spec := "gatherStarts", unfollowed := true, recurses := true, apart := false }
def GatherStartsSaid : Prop := gatherStartsRow.holds Try.pinned (OpenSpec.ofChange gatherStartsSpec)

/-- ITS FALSE NEIGHBOUR: 'it returns false'. Refute it at one input. -/
def gatherStartsWrong : ChangeSpec := { name := "gatherStarts", fn := fun _ => fun
  | [d1, d2, d3, d4, d5, d6, d7] => { results := [.lit (.bool false)], args := [d1, d2, d3, d4, d5, d6, d7] }
  | _ => none }
def GatherStartsWrongFalsely : Prop := gatherStartsRow.holds Try.pinned (OpenSpec.ofChange gatherStartsWrong)

/-- 'thrumlaw10.QuantTurned': WHATEVER THE INPUT: true; the input reads as it did. -/
def quantTurnedSpec : ChangeSpec := { name := "quantTurned", fn := fun _ => fun
  | [d1, d2, d3, d4] => { results := [.lit (.bool true)], args := [d1, d2, d3, d4] }
  | _ => none }
def quantTurnedRow : OpenClaim := { program := "ytkfhdpnfcaghbaa", sum := "7346915286531fc42bdcd383c5b79e4122cdc01f0b20ab27428d85ed7e2c832c", func := "thrum/thrumlaw10.QuantTurned", spec := "quantTurned", unfollowed := true, recurses := true, named := ["math/bits.divideError", "math/bits.overflowError"], apart := false }
def QuantTurnedSaid : Prop := quantTurnedRow.holds Try.pinned (OpenSpec.ofChange quantTurnedSpec)

/-- ITS FALSE NEIGHBOUR: 'it returns false'. Refute it at one input. -/
def quantTurnedWrong : ChangeSpec := { name := "quantTurned", fn := fun _ => fun
  | [d1, d2, d3, d4] => { results := [.lit (.bool false)], args := [d1, d2, d3, d4] }
  | _ => none }
def QuantTurnedWrongFalsely : Prop := quantTurnedRow.holds Try.pinned (OpenSpec.ofChange quantTurnedWrong)

/-- 'thrumlaw10.QuantLevels': WHATEVER THE INPUT: true; the input reads as it did. -/
def quantLevelsSpec : ChangeSpec := { name := "quantLevels", fn := fun _ => fun
  | [d1, d2, d3, d4] => { results := [.lit (.bool true)], args := [d1, d2, d3, d4] }
  | _ => none }
def quantLevelsRow : OpenClaim := { program := "ytkfhdpnfcaghbaa", sum := "7346915286531fc42bdcd383c5b79e4122cdc01f0b20ab27428d85ed7e2c832c", func := "thrum/thrumlaw10.QuantLevels", spec := "quantLevels", unfollowed := true, recurses := true, named := ["math/bits.divideError", "math/bits.overflowError"], apart := false }
def QuantLevelsSaid : Prop := quantLevelsRow.holds Try.pinned (OpenSpec.ofChange quantLevelsSpec)

/-- ITS FALSE NEIGHBOUR: 'it returns false'. Refute it at one input. -/
def quantLevelsWrong : ChangeSpec := { name := "quantLevels", fn := fun _ => fun
  | [d1, d2, d3, d4] => { results := [.lit (.bool false)], args := [d1, d2, d3, d4] }
  | _ => none }
def QuantLevelsWrongFalsely : Prop := quantLevelsRow.holds Try.pinned (OpenSpec.ofChange quantLevelsWrong)

/-- 'thrumlaw10.QuantSteps': WHATEVER THE INPUT: true; the input reads as it did. -/
def quantStepsSpec : ChangeSpec := { name := "quantSteps", fn := fun _ => fun
  | [d1, d2, d3, d4] => { results := [.lit (.bool true)], args := [d1, d2, d3, d4] }
  | _ => none }
def quantStepsRow : OpenClaim := { program := "ytkfhdpnfcaghbaa", sum := "7346915286531fc42bdcd383c5b79e4122cdc01f0b20ab27428d85ed7e2c832c", func := "thrum/thrumlaw10.QuantSteps", spec := "quantSteps", unfollowed := true, recurses := true, named := ["math/bits.divideError", "math/bits.overflowError"], apart := false }
def QuantStepsSaid : Prop := quantStepsRow.holds Try.pinned (OpenSpec.ofChange quantStepsSpec)

/-- ITS FALSE NEIGHBOUR: 'it returns false'. Refute it at one input. -/
def quantStepsWrong : ChangeSpec := { name := "quantSteps", fn := fun _ => fun
  | [d1, d2, d3, d4] => { results := [.lit (.bool false)], args := [d1, d2, d3, d4] }
  | _ => none }
def QuantStepsWrongFalsely : Prop := quantStepsRow.holds Try.pinned (OpenSpec.ofChange quantStepsWrong)

/-- 'thrumlaw10.QuantPresses': WHATEVER THE INPUT: true; the input reads as it did. -/
def quantPressesSpec : ChangeSpec := { name := "quantPresses", fn := fun _ => fun
  | [d1, d2, d3, d4, d5] => { results := [.lit (.bool true)], args := [d1, d2, d3, d4, d5] }
  | _ => none }
def quantPressesRow : OpenClaim := { program := "ytkfhdpnfcaghbaa", sum := "7346915286531fc42bdcd383c5b79e4122cdc01f0b20ab27428d85ed7e2c832c", func := "thrum/thrumlaw10.QuantPresses", spec := "quantPresses", unfollowed := true, recurses := true, named := ["math/bits.divideError", "math/bits.overflowError"], apart := false }
def QuantPressesSaid : Prop := quantPressesRow.holds Try.pinned (OpenSpec.ofChange quantPressesSpec)

/-- ITS FALSE NEIGHBOUR: 'it returns false'. Refute it at one input. -/
def quantPressesWrong : ChangeSpec := { name := "quantPresses", fn := fun _ => fun
  | [d1, d2, d3, d4, d5] => { results := [.lit (.bool false)], args := [d1, d2, d3, d4, d5] }
  | _ => none }
def QuantPressesWrongFalsely : Prop := quantPressesRow.holds Try.pinned (OpenSpec.ofChange quantPressesWrong)

/-- 'thrumlaw10.QuantSure': WHATEVER THE INPUT: true; the input reads as it did. -/
def quantSureSpec : ChangeSpec := { name := "quantSure", fn := fun _ => fun
  | [d1, d2, d3, d4] => { results := [.lit (.bool true)], args := [d1, d2, d3, d4] }
  | _ => none }
def quantSureRow : OpenClaim := { program := "ytkfhdpnfcaghbaa", sum := "7346915286531fc42bdcd383c5b79e4122cdc01f0b20ab27428d85ed7e2c832c", func := "thrum/thrumlaw10.QuantSure", spec := "quantSure", unfollowed := true, recurses := true, named := ["math/bits.divideError", "math/bits.overflowError"], apart := false }
def QuantSureSaid : Prop := quantSureRow.holds Try.pinned (OpenSpec.ofChange quantSureSpec)

/-- ITS FALSE NEIGHBOUR: 'it returns false'. Refute it at one input. -/
def quantSureWrong : ChangeSpec := { name := "quantSure", fn := fun _ => fun
  | [d1, d2, d3, d4] => { results := [.lit (.bool false)], args := [d1, d2, d3, d4] }
  | _ => none }
def QuantSureWrongFalsely : Prop := quantSureRow.holds Try.pinned (OpenSpec.ofChange quantSureWrong)

/-- 'thrumlaw10.QuantNear': WHATEVER THE INPUT: true; the input reads as it did. -/
def quantNearSpec : ChangeSpec := { name := "quantNear", fn := fun _ => fun
  | [d1, d2, d3, d4] => { results := [.lit (.bool true)], args := [d1, d2, d3, d4] }
  | _ => none }
def quantNearRow : OpenClaim := { program := "ytkfhdpnfcaghbaa", sum := "7346915286531fc42bdcd383c5b79e4122cdc01f0b20ab27428d85ed7e2c832c", func := "thrum/thrumlaw10.QuantNear", spec := "quantNear", unfollowed := true, recurses := true, named := ["math/bits.divideError", "math/bits.overflowError"], apart := false }
def QuantNearSaid : Prop := quantNearRow.holds Try.pinned (OpenSpec.ofChange quantNearSpec)

/-- ITS FALSE NEIGHBOUR: 'it returns false'. Refute it at one input. -/
def quantNearWrong : ChangeSpec := { name := "quantNear", fn := fun _ => fun
  | [d1, d2, d3, d4] => { results := [.lit (.bool false)], args := [d1, d2, d3, d4] }
  | _ => none }
def QuantNearWrongFalsely : Prop := quantNearRow.holds Try.pinned (OpenSpec.ofChange quantNearWrong)

/-- 'thrumlaw17.ModelStarts': WHATEVER THE INPUT: true; the input reads as it did. -/
def modelStartsSpec : ChangeSpec := { name := "modelStarts", fn := fun _ => fun
  | [d1, d2] => { results := [.lit (.bool true)], args := [d1, d2] }
  | _ => none }
def modelStartsRow : OpenClaim := { program := "ytkfhdpnfcaghbaa", sum := "7346915286531fc42bdcd383c5b79e4122cdc01f0b20ab27428d85ed7e2c832c", func := "thrum/thrumlaw17.ModelStarts", spec := "modelStarts", unfollowed := true, recurses := true, apart := false }
def ModelStartsSaid : Prop := modelStartsRow.holds Try.pinned (OpenSpec.ofChange modelStartsSpec)

/-- ITS FALSE NEIGHBOUR: 'it returns false'. Refute it at one input. -/
def modelStartsWrong : ChangeSpec := { name := "modelStarts", fn := fun _ => fun
  | [d1, d2] => { results := [.lit (.bool false)], args := [d1, d2] }
  | _ => none }
def ModelStartsWrongFalsely : Prop := modelStartsRow.holds Try.pinned (OpenSpec.ofChange modelStartsWrong)

/- THE SECOND FORM. 'bulk': how many values and letters a reading holds, each counted each time it is reached (what is shared counts as often as it is met; a slice's spare places count too). A statement '..UptoSaid' is the law's where the arguments, and the package variables that the reading takes, are together of bulk at most 1048576: NARROWER than '..Said'. Prove '..Said' where nothing that the law and all that it calls make is longer than what came in: it says more and counts as full. Else prove '..UptoSaid'. A law counts once. -/
mutual
def uptoBulk {H : Type} : DataW H → Nat
  | .lit (.string bytes) => bytes.length + 1
  | .lit _ => 1
  | .nil => 1
  | .ptr d => uptoBulk d + 1
  | .slice elems spare => uptoBulkAll elems + uptoBulkAll spare + 1
  | .agg parts => uptoBulkAll parts + 1
  | .iface _ d => uptoBulk d + 1
  | .map entries => uptoBulkEntries entries + 1
  | .held _ => 1
def uptoBulkAll {H : Type} : List (DataW H) → Nat
  | [] => 0
  | d :: r => uptoBulk d + uptoBulkAll r
def uptoBulkEntries {H : Type} : List (Lit × DataW H) → Nat
  | [] => 0
  | x :: r => uptoBulkEntry x + uptoBulkEntries r
def uptoBulkEntry {H : Type} : Lit × DataW H → Nat
  | (.string bytes, d) => bytes.length + uptoBulk d + 1
  | (_, d) => uptoBulk d + 1
 end
def uptoSmall : (H : Type) → List (DataW H) → Bool := fun _ ds => decide (uptoBulkAll ds ≤ 1048576)
def OpenSpec.upto (s : _root_.Go.ChangeSpec) : _root_.Go.OpenSpec := { _root_.Go.OpenSpec.ofChange s with cond := some uptoSmall }

/-- 'thrumlaw22.GatherHears', WHERE WHAT IT READS IS OF BULK AT MOST 1048576: true; the input reads as it did. -/
def gatherHearsUptoRow : OpenClaim := { program := "ytkfhdpnfcaghbaa", sum := "7346915286531fc42bdcd383c5b79e4122cdc01f0b20ab27428d85ed7e2c832c", func := "thrum/thrumlaw22.GatherHears", spec := "gatherHears", unfollowed := true, recurses := true, apart := false, narrowed := true }
def GatherHearsUptoSaid : Prop := gatherHearsUptoRow.holds Try.pinned (OpenSpec.upto gatherHearsSpec)

/-- 'thrumlaw22.GatherAnswers', WHERE WHAT IT READS IS OF BULK AT MOST 1048576: true; the input reads as it did. -/
def gatherAnswersUptoRow : OpenClaim := { program := "ytkfhdpnfcaghbaa", sum := "7346915286531fc42bdcd383c5b79e4122cdc01f0b20ab27428d85ed7e2c832c", func := "thrum/thrumlaw22.GatherAnswers", spec := "gatherAnswers", unfollowed := true, recurses := true, apart := false, narrowed := true }
def GatherAnswersUptoSaid : Prop := gatherAnswersUptoRow.holds Try.pinned (OpenSpec.upto gatherAnswersSpec)

/-- 'thrumlaw22.GatherOnce', WHERE WHAT IT READS IS OF BULK AT MOST 1048576: true; the input reads as it did. -/
def gatherOnceUptoRow : OpenClaim := { program := "ytkfhdpnfcaghbaa", sum := "7346915286531fc42bdcd383c5b79e4122cdc01f0b20ab27428d85ed7e2c832c", func := "thrum/thrumlaw22.GatherOnce", spec := "gatherOnce", unfollowed := true, recurses := true, apart := false, narrowed := true }
def GatherOnceUptoSaid : Prop := gatherOnceUptoRow.holds Try.pinned (OpenSpec.upto gatherOnceSpec)

/-- 'thrumlaw22.GatherTicks', WHERE WHAT IT READS IS OF BULK AT MOST 1048576: true; the input reads as it did. -/
def gatherTicksUptoRow : OpenClaim := { program := "ytkfhdpnfcaghbaa", sum := "7346915286531fc42bdcd383c5b79e4122cdc01f0b20ab27428d85ed7e2c832c", func := "thrum/thrumlaw22.GatherTicks", spec := "gatherTicks", unfollowed := true, recurses := true, apart := false, narrowed := true }
def GatherTicksUptoSaid : Prop := gatherTicksUptoRow.holds Try.pinned (OpenSpec.upto gatherTicksSpec)

/-- 'thrumlaw22.GatherStarts', WHERE WHAT IT READS IS OF BULK AT MOST 1048576: true; the input reads as it did. -/
def gatherStartsUptoRow : OpenClaim := { program := "ytkfhdpnfcaghbaa", sum := "7346915286531fc42bdcd383c5b79e4122cdc01f0b20ab27428d85ed7e2c832c", func := "thrum/thrumlaw22.GatherStarts", spec := "gatherStarts", unfollowed := true, recurses := true, apart := false, narrowed := true }
def GatherStartsUptoSaid : Prop := gatherStartsUptoRow.holds Try.pinned (OpenSpec.upto gatherStartsSpec)

/-- 'thrumlaw10.QuantTurned', WHERE WHAT IT READS IS OF BULK AT MOST 1048576: true; the input reads as it did. -/
def quantTurnedUptoRow : OpenClaim := { program := "ytkfhdpnfcaghbaa", sum := "7346915286531fc42bdcd383c5b79e4122cdc01f0b20ab27428d85ed7e2c832c", func := "thrum/thrumlaw10.QuantTurned", spec := "quantTurned", unfollowed := true, recurses := true, named := ["math/bits.divideError", "math/bits.overflowError"], apart := false, narrowed := true }
def QuantTurnedUptoSaid : Prop := quantTurnedUptoRow.holds Try.pinned (OpenSpec.upto quantTurnedSpec)

/-- 'thrumlaw10.QuantLevels', WHERE WHAT IT READS IS OF BULK AT MOST 1048576: true; the input reads as it did. -/
def quantLevelsUptoRow : OpenClaim := { program := "ytkfhdpnfcaghbaa", sum := "7346915286531fc42bdcd383c5b79e4122cdc01f0b20ab27428d85ed7e2c832c", func := "thrum/thrumlaw10.QuantLevels", spec := "quantLevels", unfollowed := true, recurses := true, named := ["math/bits.divideError", "math/bits.overflowError"], apart := false, narrowed := true }
def QuantLevelsUptoSaid : Prop := quantLevelsUptoRow.holds Try.pinned (OpenSpec.upto quantLevelsSpec)

/-- 'thrumlaw10.QuantSteps', WHERE WHAT IT READS IS OF BULK AT MOST 1048576: true; the input reads as it did. -/
def quantStepsUptoRow : OpenClaim := { program := "ytkfhdpnfcaghbaa", sum := "7346915286531fc42bdcd383c5b79e4122cdc01f0b20ab27428d85ed7e2c832c", func := "thrum/thrumlaw10.QuantSteps", spec := "quantSteps", unfollowed := true, recurses := true, named := ["math/bits.divideError", "math/bits.overflowError"], apart := false, narrowed := true }
def QuantStepsUptoSaid : Prop := quantStepsUptoRow.holds Try.pinned (OpenSpec.upto quantStepsSpec)

/-- 'thrumlaw10.QuantPresses', WHERE WHAT IT READS IS OF BULK AT MOST 1048576: true; the input reads as it did. -/
def quantPressesUptoRow : OpenClaim := { program := "ytkfhdpnfcaghbaa", sum := "7346915286531fc42bdcd383c5b79e4122cdc01f0b20ab27428d85ed7e2c832c", func := "thrum/thrumlaw10.QuantPresses", spec := "quantPresses", unfollowed := true, recurses := true, named := ["math/bits.divideError", "math/bits.overflowError"], apart := false, narrowed := true }
def QuantPressesUptoSaid : Prop := quantPressesUptoRow.holds Try.pinned (OpenSpec.upto quantPressesSpec)

/-- 'thrumlaw10.QuantSure', WHERE WHAT IT READS IS OF BULK AT MOST 1048576: true; the input reads as it did. -/
def quantSureUptoRow : OpenClaim := { program := "ytkfhdpnfcaghbaa", sum := "7346915286531fc42bdcd383c5b79e4122cdc01f0b20ab27428d85ed7e2c832c", func := "thrum/thrumlaw10.QuantSure", spec := "quantSure", unfollowed := true, recurses := true, named := ["math/bits.divideError", "math/bits.overflowError"], apart := false, narrowed := true }
def QuantSureUptoSaid : Prop := quantSureUptoRow.holds Try.pinned (OpenSpec.upto quantSureSpec)

/-- 'thrumlaw10.QuantNear', WHERE WHAT IT READS IS OF BULK AT MOST 1048576: true; the input reads as it did. -/
def quantNearUptoRow : OpenClaim := { program := "ytkfhdpnfcaghbaa", sum := "7346915286531fc42bdcd383c5b79e4122cdc01f0b20ab27428d85ed7e2c832c", func := "thrum/thrumlaw10.QuantNear", spec := "quantNear", unfollowed := true, recurses := true, named := ["math/bits.divideError", "math/bits.overflowError"], apart := false, narrowed := true }
def QuantNearUptoSaid : Prop := quantNearUptoRow.holds Try.pinned (OpenSpec.upto quantNearSpec)

/-- 'thrumlaw17.ModelStarts', WHERE WHAT IT READS IS OF BULK AT MOST 1048576: true; the input reads as it did. -/
def modelStartsUptoRow : OpenClaim := { program := "ytkfhdpnfcaghbaa", sum := "7346915286531fc42bdcd383c5b79e4122cdc01f0b20ab27428d85ed7e2c832c", func := "thrum/thrumlaw17.ModelStarts", spec := "modelStarts", unfollowed := true, recurses := true, apart := false, narrowed := true }
def ModelStartsUptoSaid : Prop := modelStartsUptoRow.holds Try.pinned (OpenSpec.upto modelStartsSpec)

end Rows
end Go.Proofs.Ytkfhdpnfcaghbaa
