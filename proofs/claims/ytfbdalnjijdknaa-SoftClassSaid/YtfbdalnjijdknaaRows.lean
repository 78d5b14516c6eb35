/-
  No cell of these rows narrows 'for every input' (looked for: loops, veiled, ifaces, maps, wideKeys, modest, calm, conditions, laid).
  DERIVED. THE GIVEN ROWS OF THIS SEAT. 26 by the template 'for every input the law returns true; each argument reads behind the call as it read before'; 0 by the template 'total and deterministic' (their statements: YtfbdalnjijdknaaTotals.lean).
  GIVEN WITH THE SEED: the statements are not yours to turn. If you find one false, say at which input.
  Laid BY PROGRAM, IN A SANDBOX (cutbox-rows.mjs): the forced cells as the released guide's own fill.sh prints them over the translation 065a628cd5ecdda1… (all of the seat's roots in one cut). By AI agents, Wed Nov 11 2026. No macro, syntax, notation, axiom, sorry.
-/
import Derived.Test.YtfbdalnjijdknaaChecked
import GoSem.Claim
import GoSem.ClaimJoined
import GoSem.ClaimMapViews
import Derived.JoinedTies
import Derived.KernelRfl
namespace Go.Proofs.Ytfbdalnjijdknaa
/- THE CELL 'sum', in the pinned program and in every row, IS THE sha256 OF THE DUMP (.gsa) THAT YtfbdalnjijdknaaProg.lean LOADS. Nothing in Lean hashes anything: it is a label: what it is worth is what the hold of that sum in a sandbox is worth. -/
noncomputable def Try.pinned : Pinned := { name := "ytfbdalnjijdknaa", sum := "065a628cd5ecdda17a3303d176e0ef80c9ccd4a8ddef73b7c0b1f9c5f226fbd5", checked := Try.checked }
namespace Rows
def none {H : Type} : Left H := { results := [], args := [] }

/-- 'thrumlaw16.MlpHides': WHATEVER THE INPUT: true; the input reads as it did. -/
def mlpHidesSpec : ChangeSpec := { name := "mlpHides", fn := fun _ => fun
  | [d1, d2, d3, d4] => { results := [.lit (.bool true)], args := [d1, d2, d3, d4] }
  | _ => none }
def mlpHidesRow : OpenClaim := { program := "ytfbdalnjijdknaa", sum := "065a628cd5ecdda17a3303d176e0ef80c9ccd4a8ddef73b7c0b1f9c5f226fbd5", func := "thrum/thrumlaw16.MlpHides", spec := "mlpHides", unfollowed := true, recurses := true, apart := false }
def MlpHidesSaid : Prop := mlpHidesRow.holds Try.pinned (OpenSpec.ofChange mlpHidesSpec)

/-- ITS FALSE NEIGHBOUR: 'it returns false'. Refute it at one input. -/
def mlpHidesWrong : ChangeSpec := { name := "mlpHides", fn := fun _ => fun
  | [d1, d2, d3, d4] => { results := [.lit (.bool false)], args := [d1, d2, d3, d4] }
  | _ => none }
def MlpHidesWrongFalsely : Prop := mlpHidesRow.holds Try.pinned (OpenSpec.ofChange mlpHidesWrong)

/-- 'thrumlaw16.MlpTells': WHATEVER THE INPUT: true; the input reads as it did. -/
def mlpTellsSpec : ChangeSpec := { name := "mlpTells", fn := fun _ => fun
  | [d1, d2, d3, d4, d5] => { results := [.lit (.bool true)], args := [d1, d2, d3, d4, d5] }
  | _ => none }
def mlpTellsRow : OpenClaim := { program := "ytfbdalnjijdknaa", sum := "065a628cd5ecdda17a3303d176e0ef80c9ccd4a8ddef73b7c0b1f9c5f226fbd5", func := "thrum/thrumlaw16.MlpTells", spec := "mlpTells", unfollowed := true, recurses := true, apart := false }
def MlpTellsSaid : Prop := mlpTellsRow.holds Try.pinned (OpenSpec.ofChange mlpTellsSpec)

/-- ITS FALSE NEIGHBOUR: 'it returns false'. Refute it at one input. -/
def mlpTellsWrong : ChangeSpec := { name := "mlpTells", fn := fun _ => fun
  | [d1, d2, d3, d4, d5] => { results := [.lit (.bool false)], args := [d1, d2, d3, d4, d5] }
  | _ => none }
def MlpTellsWrongFalsely : Prop := mlpTellsRow.holds Try.pinned (OpenSpec.ofChange mlpTellsWrong)

/-- 'thrumlaw13.TableShares': WHATEVER THE INPUT: true; the input reads as it did. -/
def tableSharesSpec : ChangeSpec := { name := "tableShares", fn := fun _ => fun
  | [d1, d2] => { results := [.lit (.bool true)], args := [d1, d2] }
  | _ => none }
def tableSharesRow : OpenClaim := { program := "ytfbdalnjijdknaa", sum := "065a628cd5ecdda17a3303d176e0ef80c9ccd4a8ddef73b7c0b1f9c5f226fbd5", func := "thrum/thrumlaw13.TableShares", spec := "tableShares", inPlace := ["math.sqrt"], named := ["math/bits.divideError", "math/bits.overflowError"], apart := false }
def TableSharesSaid : Prop := tableSharesRow.holds Try.pinned (OpenSpec.ofChange tableSharesSpec)

/-- ITS FALSE NEIGHBOUR: 'it returns false'. Refute it at one input. -/
def tableSharesWrong : ChangeSpec := { name := "tableShares", fn := fun _ => fun
  | [d1, d2] => { results := [.lit (.bool false)], args := [d1, d2] }
  | _ => none }
def TableSharesWrongFalsely : Prop := tableSharesRow.holds Try.pinned (OpenSpec.ofChange tableSharesWrong)

/-- 'thrumlaw13.TableRoots': WHATEVER THE INPUT: true; the input reads as it did. -/
def tableRootsSpec : ChangeSpec := { name := "tableRoots", fn := fun _ => fun
  | [d] => { results := [.lit (.bool true)], args := [d] }
  | _ => none }
def tableRootsRow : OpenClaim := { program := "ytfbdalnjijdknaa", sum := "065a628cd5ecdda17a3303d176e0ef80c9ccd4a8ddef73b7c0b1f9c5f226fbd5", func := "thrum/thrumlaw13.TableRoots", spec := "tableRoots", inPlace := ["math.sqrt"], named := ["math/bits.divideError", "math/bits.overflowError"], apart := false }
def TableRootsSaid : Prop := tableRootsRow.holds Try.pinned (OpenSpec.ofChange tableRootsSpec)

/-- ITS FALSE NEIGHBOUR: 'it returns false'. Refute it at one input. -/
def tableRootsWrong : ChangeSpec := { name := "tableRoots", fn := fun _ => fun
  | [d] => { results := [.lit (.bool false)], args := [d] }
  | _ => none }
def TableRootsWrongFalsely : Prop := tableRootsRow.holds Try.pinned (OpenSpec.ofChange tableRootsWrong)

/-- 'thrumlaw13.TableWhole': WHATEVER THE INPUT: true; the input reads as it did. -/
def tableWholeSpec : ChangeSpec := { name := "tableWhole", fn := fun _ => fun
  | [d1, d2] => { results := [.lit (.bool true)], args := [d1, d2] }
  | _ => none }
def tableWholeRow : OpenClaim := { program := "ytfbdalnjijdknaa", sum := "065a628cd5ecdda17a3303d176e0ef80c9ccd4a8ddef73b7c0b1f9c5f226fbd5", func := "thrum/thrumlaw13.TableWhole", spec := "tableWhole", inPlace := ["math.sqrt"], named := ["math/bits.divideError", "math/bits.overflowError"], apart := false }
def TableWholeSaid : Prop := tableWholeRow.holds Try.pinned (OpenSpec.ofChange tableWholeSpec)

/-- ITS FALSE NEIGHBOUR: 'it returns false'. Refute it at one input. -/
def tableWholeWrong : ChangeSpec := { name := "tableWhole", fn := fun _ => fun
  | [d1, d2] => { results := [.lit (.bool false)], args := [d1, d2] }
  | _ => none }
def TableWholeWrongFalsely : Prop := tableWholeRow.holds Try.pinned (OpenSpec.ofChange tableWholeWrong)

/-- 'thrumlaw13.TableShifts': WHATEVER THE INPUT: true; the input reads as it did. -/
def tableShiftsSpec : ChangeSpec := { name := "tableShifts", fn := fun _ => fun
  | [d1, d2, d3] => { results := [.lit (.bool true)], args := [d1, d2, d3] }
  | _ => none }
def tableShiftsRow : OpenClaim := { program := "ytfbdalnjijdknaa", sum := "065a628cd5ecdda17a3303d176e0ef80c9ccd4a8ddef73b7c0b1f9c5f226fbd5", func := "thrum/thrumlaw13.TableShifts", spec := "tableShifts", inPlace := ["math.sqrt"], named := ["math/bits.divideError", "math/bits.overflowError"], apart := false }
def TableShiftsSaid : Prop := tableShiftsRow.holds Try.pinned (OpenSpec.ofChange tableShiftsSpec)

/-- ITS FALSE NEIGHBOUR: 'it returns false'. Refute it at one input. -/
def tableShiftsWrong : ChangeSpec := { name := "tableShifts", fn := fun _ => fun
  | [d1, d2, d3] => { results := [.lit (.bool false)], args := [d1, d2, d3] }
  | _ => none }
def TableShiftsWrongFalsely : Prop := tableShiftsRow.holds Try.pinned (OpenSpec.ofChange tableShiftsWrong)

/-- 'thrumlaw13.TableOne': WHATEVER THE INPUT: true; the input reads as it did. -/
def tableOneSpec : ChangeSpec := { name := "tableOne", fn := fun _ => fun
  | [d1, d2, d3] => { results := [.lit (.bool true)], args := [d1, d2, d3] }
  | _ => none }
def tableOneRow : OpenClaim := { program := "ytfbdalnjijdknaa", sum := "065a628cd5ecdda17a3303d176e0ef80c9ccd4a8ddef73b7c0b1f9c5f226fbd5", func := "thrum/thrumlaw13.TableOne", spec := "tableOne", inPlace := ["math.sqrt"], named := ["math/bits.divideError", "math/bits.overflowError"], apart := false }
def TableOneSaid : Prop := tableOneRow.holds Try.pinned (OpenSpec.ofChange tableOneSpec)

/-- ITS FALSE NEIGHBOUR: 'it returns false'. Refute it at one input. -/
def tableOneWrong : ChangeSpec := { name := "tableOne", fn := fun _ => fun
  | [d1, d2, d3] => { results := [.lit (.bool false)], args := [d1, d2, d3] }
  | _ => none }
def TableOneWrongFalsely : Prop := tableOneRow.holds Try.pinned (OpenSpec.ofChange tableOneWrong)

/-- 'thrumlaw13.TableTells': WHATEVER THE INPUT: true; the input reads as it did. -/
def tableTellsSpec : ChangeSpec := { name := "tableTells", fn := fun _ => fun
  | [d1, d2, d3] => { results := [.lit (.bool true)], args := [d1, d2, d3] }
  | _ => none }
def tableTellsRow : OpenClaim := { program := "ytfbdalnjijdknaa", sum := "065a628cd5ecdda17a3303d176e0ef80c9ccd4a8ddef73b7c0b1f9c5f226fbd5", func := "thrum/thrumlaw13.TableTells", spec := "tableTells", inPlace := ["math.sqrt"], named := ["math/bits.divideError", "math/bits.overflowError"], apart := false }
def TableTellsSaid : Prop := tableTellsRow.holds Try.pinned (OpenSpec.ofChange tableTellsSpec)

/-- ITS FALSE NEIGHBOUR: 'it returns false'. Refute it at one input. -/
def tableTellsWrong : ChangeSpec := { name := "tableTells", fn := fun _ => fun
  | [d1, d2, d3] => { results := [.lit (.bool false)], args := [d1, d2, d3] }
  | _ => none }
def TableTellsWrongFalsely : Prop := tableTellsRow.holds Try.pinned (OpenSpec.ofChange tableTellsWrong)

/-- 'thrumlaw13.TableFalls': WHATEVER THE INPUT: true; the input reads as it did. -/
def tableFallsSpec : ChangeSpec := { name := "tableFalls", fn := fun _ => fun
  | [d1, d2, d3] => { results := [.lit (.bool true)], args := [d1, d2, d3] }
  | _ => none }
def tableFallsRow : OpenClaim := { program := "ytfbdalnjijdknaa", sum := "065a628cd5ecdda17a3303d176e0ef80c9ccd4a8ddef73b7c0b1f9c5f226fbd5", func := "thrum/thrumlaw13.TableFalls", spec := "tableFalls", inPlace := ["math.sqrt"], named := ["math/bits.divideError", "math/bits.overflowError"], apart := false }
def TableFallsSaid : Prop := tableFallsRow.holds Try.pinned (OpenSpec.ofChange tableFallsSpec)

/-- ITS FALSE NEIGHBOUR: 'it returns false'. Refute it at one input. -/
def tableFallsWrong : ChangeSpec := { name := "tableFalls", fn := fun _ => fun
  | [d1, d2, d3] => { results := [.lit (.bool false)], args := [d1, d2, d3] }
  | _ => none }
def TableFallsWrongFalsely : Prop := tableFallsRow.holds Try.pinned (OpenSpec.ofChange tableFallsWrong)

/-- 'thrumlaw14.LinearTells': WHATEVER THE INPUT: true; the input reads as it did. -/
def linearTellsSpec : ChangeSpec := { name := "linearTells", fn := fun _ => fun
  | [d1, d2, d3, d4, d5, d6] => { results := [.lit (.bool true)], args := [d1, d2, d3, d4, d5, d6] }
  | _ => none }
def linearTellsRow : OpenClaim := { program := "ytfbdalnjijdknaa", sum := "065a628cd5ecdda17a3303d176e0ef80c9ccd4a8ddef73b7c0b1f9c5f226fbd5", func := "thrum/thrumlaw14.LinearTells", spec := "linearTells", unfollowed := true, recurses := true, named := ["math/bits.divideError", "math/bits.overflowError"], apart := false }
def LinearTellsSaid : Prop := linearTellsRow.holds Try.pinned (OpenSpec.ofChange linearTellsSpec)

/-- ITS FALSE NEIGHBOUR: 'it returns false'. Refute it at one input. -/
def linearTellsWrong : ChangeSpec := { name := "linearTells", fn := fun _ => fun
  | [d1, d2, d3, d4, d5, d6] => { results := [.lit (.bool false)], args := [d1, d2, d3, d4, d5, d6] }
  | _ => none }
def LinearTellsWrongFalsely : Prop := linearTellsRow.holds Try.pinned (OpenSpec.ofChange linearTellsWrong)

/-- 'thrumlaw14.LinearGrows': WHATEVER THE INPUT: true; the input reads as it did. -/
def linearGrowsSpec : ChangeSpec := { name := "linearGrows", fn := fun _ => fun
  | [d1, d2, d3] => { results := [.lit (.bool true)], args := [d1, d2, d3] }
  | _ => none }
def linearGrowsRow : OpenClaim := { program := "ytfbdalnjijdknaa", sum := "065a628cd5ecdda17a3303d176e0ef80c9ccd4a8ddef73b7c0b1f9c5f226fbd5", func := "thrum/thrumlaw14.LinearGrows", spec := "linearGrows", unfollowed := true, recurses := true, named := ["math/bits.divideError", "math/bits.overflowError"], apart := false }
def LinearGrowsSaid : Prop := linearGrowsRow.holds Try.pinned (OpenSpec.ofChange linearGrowsSpec)

/-- ITS FALSE NEIGHBOUR: 'it returns false'. Refute it at one input. -/
def linearGrowsWrong : ChangeSpec := { name := "linearGrows", fn := fun _ => fun
  | [d1, d2, d3] => { results := [.lit (.bool false)], args := [d1, d2, d3] }
  | _ => none }
def LinearGrowsWrongFalsely : Prop := linearGrowsRow.holds Try.pinned (OpenSpec.ofChange linearGrowsWrong)

/-- 'thrumlaw14.LinearBends': WHATEVER THE INPUT: true; the input reads as it did. -/
def linearBendsSpec : ChangeSpec := { name := "linearBends", fn := fun _ => fun
  | [d1, d2, d3, d4] => { results := [.lit (.bool true)], args := [d1, d2, d3, d4] }
  | _ => none }
def linearBendsRow : OpenClaim := { program := "ytfbdalnjijdknaa", sum := "065a628cd5ecdda17a3303d176e0ef80c9ccd4a8ddef73b7c0b1f9c5f226fbd5", func := "thrum/thrumlaw14.LinearBends", spec := "linearBends", unfollowed := true, recurses := true, named := ["math/bits.divideError", "math/bits.overflowError"], apart := false }
def LinearBendsSaid : Prop := linearBendsRow.holds Try.pinned (OpenSpec.ofChange linearBendsSpec)

/-- ITS FALSE NEIGHBOUR: 'it returns false'. Refute it at one input. -/
def linearBendsWrong : ChangeSpec := { name := "linearBends", fn := fun _ => fun
  | [d1, d2, d3, d4] => { results := [.lit (.bool false)], args := [d1, d2, d3, d4] }
  | _ => none }
def LinearBendsWrongFalsely : Prop := linearBendsRow.holds Try.pinned (OpenSpec.ofChange linearBendsWrong)

/-- 'thrumlaw14.LinearRight': WHATEVER THE INPUT: true; the input reads as it did. -/
def linearRightSpec : ChangeSpec := { name := "linearRight", fn := fun _ => fun
  | [d1, d2, d3] => { results := [.lit (.bool true)], args := [d1, d2, d3] }
  | _ => none }
def linearRightRow : OpenClaim := { program := "ytfbdalnjijdknaa", sum := "065a628cd5ecdda17a3303d176e0ef80c9ccd4a8ddef73b7c0b1f9c5f226fbd5", func := "thrum/thrumlaw14.LinearRight", spec := "linearRight", unfollowed := true, recurses := true, named := ["math/bits.divideError", "math/bits.overflowError"], apart := false }
def LinearRightSaid : Prop := linearRightRow.holds Try.pinned (OpenSpec.ofChange linearRightSpec)

/-- ITS FALSE NEIGHBOUR: 'it returns false'. Refute it at one input. -/
def linearRightWrong : ChangeSpec := { name := "linearRight", fn := fun _ => fun
  | [d1, d2, d3] => { results := [.lit (.bool false)], args := [d1, d2, d3] }
  | _ => none }
def LinearRightWrongFalsely : Prop := linearRightRow.holds Try.pinned (OpenSpec.ofChange linearRightWrong)

/-- 'thrumlaw14.LinearTurns': WHATEVER THE INPUT: true; the input reads as it did. -/
def linearTurnsSpec : ChangeSpec := { name := "linearTurns", fn := fun _ => fun
  | [d1, d2, d3] => { results := [.lit (.bool true)], args := [d1, d2, d3] }
  | _ => none }
def linearTurnsRow : OpenClaim := { program := "ytfbdalnjijdknaa", sum := "065a628cd5ecdda17a3303d176e0ef80c9ccd4a8ddef73b7c0b1f9c5f226fbd5", func := "thrum/thrumlaw14.LinearTurns", spec := "linearTurns", unfollowed := true, recurses := true, named := ["math/bits.divideError", "math/bits.overflowError"], apart := false }
def LinearTurnsSaid : Prop := linearTurnsRow.holds Try.pinned (OpenSpec.ofChange linearTurnsSpec)

/-- ITS FALSE NEIGHBOUR: 'it returns false'. Refute it at one input. -/
def linearTurnsWrong : ChangeSpec := { name := "linearTurns", fn := fun _ => fun
  | [d1, d2, d3] => { results := [.lit (.bool false)], args := [d1, d2, d3] }
  | _ => none }
def LinearTurnsWrongFalsely : Prop := linearTurnsRow.holds Try.pinned (OpenSpec.ofChange linearTurnsWrong)

/-- 'thrumlaw14.LinearBase': WHATEVER THE INPUT: true; the input reads as it did. -/
def linearBaseSpec : ChangeSpec := { name := "linearBase", fn := fun _ => fun
  | [d1, d2, d3, d4] => { results := [.lit (.bool true)], args := [d1, d2, d3, d4] }
  | _ => none }
def linearBaseRow : OpenClaim := { program := "ytfbdalnjijdknaa", sum := "065a628cd5ecdda17a3303d176e0ef80c9ccd4a8ddef73b7c0b1f9c5f226fbd5", func := "thrum/thrumlaw14.LinearBase", spec := "linearBase", unfollowed := true, recurses := true, named := ["math/bits.divideError", "math/bits.overflowError"], apart := false }
def LinearBaseSaid : Prop := linearBaseRow.holds Try.pinned (OpenSpec.ofChange linearBaseSpec)

/-- ITS FALSE NEIGHBOUR: 'it returns false'. Refute it at one input. -/
def linearBaseWrong : ChangeSpec := { name := "linearBase", fn := fun _ => fun
  | [d1, d2, d3, d4] => { results := [.lit (.bool false)], args := [d1, d2, d3, d4] }
  | _ => none }
def LinearBaseWrongFalsely : Prop := linearBaseRow.holds Try.pinned (OpenSpec.ofChange linearBaseWrong)

/-- 'thrumlaw16.MlpRight': WHATEVER THE INPUT: true; the input reads as it did. -/
def mlpRightSpec : ChangeSpec := { name := "mlpRight", fn := fun _ => fun
  | [d1, d2, d3, d4] => { results := [.lit (.bool true)], args := [d1, d2, d3, d4] }
  | _ => none }
def mlpRightRow : OpenClaim := { program := "ytfbdalnjijdknaa", sum := "065a628cd5ecdda17a3303d176e0ef80c9ccd4a8ddef73b7c0b1f9c5f226fbd5", func := "thrum/thrumlaw16.MlpRight", spec := "mlpRight", unfollowed := true, recurses := true, named := ["math/bits.divideError", "math/bits.overflowError"], apart := false }
def MlpRightSaid : Prop := mlpRightRow.holds Try.pinned (OpenSpec.ofChange mlpRightSpec)

/-- ITS FALSE NEIGHBOUR: 'it returns false'. Refute it at one input. -/
def mlpRightWrong : ChangeSpec := { name := "mlpRight", fn := fun _ => fun
  | [d1, d2, d3, d4] => { results := [.lit (.bool false)], args := [d1, d2, d3, d4] }
  | _ => none }
def MlpRightWrongFalsely : Prop := mlpRightRow.holds Try.pinned (OpenSpec.ofChange mlpRightWrong)

/-- 'thrumlaw16.MlpBends': WHATEVER THE INPUT: true; the input reads as it did. -/
def mlpBendsSpec : ChangeSpec := { name := "mlpBends", fn := fun _ => fun
  | [d1, d2, d3, d4, d5] => { results := [.lit (.bool true)], args := [d1, d2, d3, d4, d5] }
  | _ => none }
def mlpBendsRow : OpenClaim := { program := "ytfbdalnjijdknaa", sum := "065a628cd5ecdda17a3303d176e0ef80c9ccd4a8ddef73b7c0b1f9c5f226fbd5", func := "thrum/thrumlaw16.MlpBends", spec := "mlpBends", unfollowed := true, recurses := true, named := ["math/bits.divideError", "math/bits.overflowError"], apart := false }
def MlpBendsSaid : Prop := mlpBendsRow.holds Try.pinned (OpenSpec.ofChange mlpBendsSpec)

/-- ITS FALSE NEIGHBOUR: 'it returns false'. Refute it at one input. -/
def mlpBendsWrong : ChangeSpec := { name := "mlpBends", fn := fun _ => fun
  | [d1, d2, d3, d4, d5] => { results := [.lit (.bool false)], args := [d1, d2, d3, d4, d5] }
  | _ => none }
def MlpBendsWrongFalsely : Prop := mlpBendsRow.holds Try.pinned (OpenSpec.ofChange mlpBendsWrong)

/-- 'thrumlaw16.MlpTurns': WHATEVER THE INPUT: true; the input reads as it did. -/
def mlpTurnsSpec : ChangeSpec := { name := "mlpTurns", fn := fun _ => fun
  | [d1, d2, d3] => { results := [.lit (.bool true)], args := [d1, d2, d3] }
  | _ => none }
def mlpTurnsRow : OpenClaim := { program := "ytfbdalnjijdknaa", sum := "065a628cd5ecdda17a3303d176e0ef80c9ccd4a8ddef73b7c0b1f9c5f226fbd5", func := "thrum/thrumlaw16.MlpTurns", spec := "mlpTurns", unfollowed := true, recurses := true, named := ["math/bits.divideError", "math/bits.overflowError"], apart := false }
def MlpTurnsSaid : Prop := mlpTurnsRow.holds Try.pinned (OpenSpec.ofChange mlpTurnsSpec)

/-- ITS FALSE NEIGHBOUR: 'it returns false'. Refute it at one input. -/
def mlpTurnsWrong : ChangeSpec := { name := "mlpTurns", fn := fun _ => fun
  | [d1, d2, d3] => { results := [.lit (.bool false)], args := [d1, d2, d3] }
  | _ => none }
def MlpTurnsWrongFalsely : Prop := mlpTurnsRow.holds Try.pinned (OpenSpec.ofChange mlpTurnsWrong)

/-- 'thrumlaw15.SoftOff': WHATEVER THE INPUT: true; the input reads as it did. -/
def softOffSpec : ChangeSpec := { name := "softOff", fn := fun _ => fun
  | [d1, d2, d3, d4] => { results := [.lit (.bool true)], args := [d1, d2, d3, d4] }
  | _ => none }
def softOffRow : OpenClaim := { program := "ytfbdalnjijdknaa", sum := "065a628cd5ecdda17a3303d176e0ef80c9ccd4a8ddef73b7c0b1f9c5f226fbd5", func := "thrum/thrumlaw15.SoftOff", spec := "softOff", inPlace := ["math.sqrt"], unfollowed := true, recurses := true, named := ["math/bits.divideError", "math/bits.overflowError"], apart := false }
def SoftOffSaid : Prop := softOffRow.holds Try.pinned (OpenSpec.ofChange softOffSpec)

/-- ITS FALSE NEIGHBOUR: 'it returns false'. Refute it at one input. -/
def softOffWrong : ChangeSpec := { name := "softOff", fn := fun _ => fun
  | [d1, d2, d3, d4] => { results := [.lit (.bool false)], args := [d1, d2, d3, d4] }
  | _ => none }
def SoftOffWrongFalsely : Prop := softOffRow.holds Try.pinned (OpenSpec.ofChange softOffWrong)

/-- 'thrumlaw15.SoftRows': WHATEVER THE INPUT: true; the input reads as it did. -/
def softRowsSpec : ChangeSpec := { name := "softRows", fn := fun _ => fun
  | [d1, d2] => { results := [.lit (.bool true)], args := [d1, d2] }
  | _ => none }
def softRowsRow : OpenClaim := { program := "ytfbdalnjijdknaa", sum := "065a628cd5ecdda17a3303d176e0ef80c9ccd4a8ddef73b7c0b1f9c5f226fbd5", func := "thrum/thrumlaw15.SoftRows", spec := "softRows", inPlace := ["math.sqrt"], unfollowed := true, recurses := true, named := ["math/bits.divideError", "math/bits.overflowError"], apart := false }
def SoftRowsSaid : Prop := softRowsRow.holds Try.pinned (OpenSpec.ofChange softRowsSpec)

/-- ITS FALSE NEIGHBOUR: 'it returns false'. Refute it at one input. -/
def softRowsWrong : ChangeSpec := { name := "softRows", fn := fun _ => fun
  | [d1, d2] => { results := [.lit (.bool false)], args := [d1, d2] }
  | _ => none }
def SoftRowsWrongFalsely : Prop := softRowsRow.holds Try.pinned (OpenSpec.ofChange softRowsWrong)

/-- 'thrumlaw15.SoftTurns': WHATEVER THE INPUT: true; the input reads as it did. -/
def softTurnsSpec : ChangeSpec := { name := "softTurns", fn := fun _ => fun
  | [d1, d2, d3] => { results := [.lit (.bool true)], args := [d1, d2, d3] }
  | _ => none }
def softTurnsRow : OpenClaim := { program := "ytfbdalnjijdknaa", sum := "065a628cd5ecdda17a3303d176e0ef80c9ccd4a8ddef73b7c0b1f9c5f226fbd5", func := "thrum/thrumlaw15.SoftTurns", spec := "softTurns", inPlace := ["math.sqrt"], unfollowed := true, recurses := true, named := ["math/bits.divideError", "math/bits.overflowError"], apart := false }
def SoftTurnsSaid : Prop := softTurnsRow.holds Try.pinned (OpenSpec.ofChange softTurnsSpec)

/-- ITS FALSE NEIGHBOUR: 'it returns false'. Refute it at one input. -/
def softTurnsWrong : ChangeSpec := { name := "softTurns", fn := fun _ => fun
  | [d1, d2, d3] => { results := [.lit (.bool false)], args := [d1, d2, d3] }
  | _ => none }
def SoftTurnsWrongFalsely : Prop := softTurnsRow.holds Try.pinned (OpenSpec.ofChange softTurnsWrong)

/-- 'thrumlaw15.SoftTells': WHATEVER THE INPUT: true; the input reads as it did. -/
def softTellsSpec : ChangeSpec := { name := "softTells", fn := fun _ => fun
  | [d1, d2, d3, d4, d5] => { results := [.lit (.bool true)], args := [d1, d2, d3, d4, d5] }
  | _ => none }
def softTellsRow : OpenClaim := { program := "ytfbdalnjijdknaa", sum := "065a628cd5ecdda17a3303d176e0ef80c9ccd4a8ddef73b7c0b1f9c5f226fbd5", func := "thrum/thrumlaw15.SoftTells", spec := "softTells", inPlace := ["math.sqrt"], unfollowed := true, recurses := true, named := ["math/bits.divideError", "math/bits.overflowError"], apart := false }
def SoftTellsSaid : Prop := softTellsRow.holds Try.pinned (OpenSpec.ofChange softTellsSpec)

/-- ITS FALSE NEIGHBOUR: 'it returns false'. Refute it at one input. -/
def softTellsWrong : ChangeSpec := { name := "softTells", fn := fun _ => fun
  | [d1, d2, d3, d4, d5] => { results := [.lit (.bool false)], args := [d1, d2, d3, d4, d5] }
  | _ => none }
def SoftTellsWrongFalsely : Prop := softTellsRow.holds Try.pinned (OpenSpec.ofChange softTellsWrong)

/-- 'thrumlaw15.SoftClass': WHATEVER THE INPUT: true; the input reads as it did. -/
def softClassSpec : ChangeSpec := { name := "softClass", fn := fun _ => fun
  | [d1, d2, d3, d4, d5] => { results := [.lit (.bool true)], args := [d1, d2, d3, d4, d5] }
  | _ => none }
def softClassRow : OpenClaim := { program := "ytfbdalnjijdknaa", sum := "065a628cd5ecdda17a3303d176e0ef80c9ccd4a8ddef73b7c0b1f9c5f226fbd5", func := "thrum/thrumlaw15.SoftClass", spec := "softClass", inPlace := ["math.sqrt"], unfollowed := true, recurses := true, named := ["math/bits.divideError", "math/bits.overflowError"], apart := false }
def SoftClassSaid : Prop := softClassRow.holds Try.pinned (OpenSpec.ofChange softClassSpec)

/-- ITS FALSE NEIGHBOUR: 'it returns false'. Refute it at one input. -/
def softClassWrong : ChangeSpec := { name := "softClass", fn := fun _ => fun
  | [d1, d2, d3, d4, d5] => { results := [.lit (.bool false)], args := [d1, d2, d3, d4, d5] }
  | _ => none }
def SoftClassWrongFalsely : Prop := softClassRow.holds Try.pinned (OpenSpec.ofChange softClassWrong)

/-- 'thrumlaw15.SoftBends': WHATEVER THE INPUT: true; the input reads as it did. -/
def softBendsSpec : ChangeSpec := { name := "softBends", fn := fun _ => fun
  | [d1, d2, d3, d4, d5] => { results := [.lit (.bool true)], args := [d1, d2, d3, d4, d5] }
  | _ => none }
def softBendsRow : OpenClaim := { program := "ytfbdalnjijdknaa", sum := "065a628cd5ecdda17a3303d176e0ef80c9ccd4a8ddef73b7c0b1f9c5f226fbd5", func := "thrum/thrumlaw15.SoftBends", spec := "softBends", inPlace := ["math.sqrt"], unfollowed := true, recurses := true, named := ["math/bits.divideError", "math/bits.overflowError"], apart := false }
def SoftBendsSaid : Prop := softBendsRow.holds Try.pinned (OpenSpec.ofChange softBendsSpec)

/-- ITS FALSE NEIGHBOUR: 'it returns false'. Refute it at one input. -/
def softBendsWrong : ChangeSpec := { name := "softBends", fn := fun _ => fun
  | [d1, d2, d3, d4, d5] => { results := [.lit (.bool false)], args := [d1, d2, d3, d4, d5] }
  | _ => none }
def SoftBendsWrongFalsely : Prop := softBendsRow.holds Try.pinned (OpenSpec.ofChange softBendsWrong)

/-- 'thrumlaw17.ModelClips': WHATEVER THE INPUT: true; the input reads as it did. -/
def modelClipsSpec : ChangeSpec := { name := "modelClips", fn := fun _ => fun
  | [d1, d2, d3, d4] => { results := [.lit (.bool true)], args := [d1, d2, d3, d4] }
  | _ => none }
def modelClipsRow : OpenClaim := { program := "ytfbdalnjijdknaa", sum := "065a628cd5ecdda17a3303d176e0ef80c9ccd4a8ddef73b7c0b1f9c5f226fbd5", func := "thrum/thrumlaw17.ModelClips", spec := "modelClips", unfollowed := true, recurses := true, apart := false }
def ModelClipsSaid : Prop := modelClipsRow.holds Try.pinned (OpenSpec.ofChange modelClipsSpec)

/-- ITS FALSE NEIGHBOUR: 'it returns false'. Refute it at one input. -/
def modelClipsWrong : ChangeSpec := { name := "modelClips", fn := fun _ => fun
  | [d1, d2, d3, d4] => { results := [.lit (.bool false)], args := [d1, d2, d3, d4] }
  | _ => none }
def ModelClipsWrongFalsely : Prop := modelClipsRow.holds Try.pinned (OpenSpec.ofChange modelClipsWrong)

/-- 'thrumlaw17.ModelKinds': WHATEVER THE INPUT: true; the input reads as it did. -/
def modelKindsSpec : ChangeSpec := { name := "modelKinds", fn := fun _ => fun
  | [d1, d2, d3] => { results := [.lit (.bool true)], args := [d1, d2, d3] }
  | _ => none }
def modelKindsRow : OpenClaim := { program := "ytfbdalnjijdknaa", sum := "065a628cd5ecdda17a3303d176e0ef80c9ccd4a8ddef73b7c0b1f9c5f226fbd5", func := "thrum/thrumlaw17.ModelKinds", spec := "modelKinds", inPlace := ["math.sqrt"], unfollowed := true, recurses := true, named := ["math/bits.divideError", "math/bits.overflowError"], apart := false }
def ModelKindsSaid : Prop := modelKindsRow.holds Try.pinned (OpenSpec.ofChange modelKindsSpec)

/-- ITS FALSE NEIGHBOUR: 'it returns false'. Refute it at one input. -/
def modelKindsWrong : ChangeSpec := { name := "modelKinds", fn := fun _ => fun
  | [d1, d2, d3] => { results := [.lit (.bool false)], args := [d1, d2, d3] }
  | _ => none }
def ModelKindsWrongFalsely : Prop := modelKindsRow.holds Try.pinned (OpenSpec.ofChange modelKindsWrong)

/- THE SECOND FORM. 'bulk': how many values and letters a reading holds, each counted each time it is reached (what is shared counts as often as it is met; a slice's spare places count too). A statement '..UptoSaid' is the law's where the arguments, and the package variables that the reading takes, are together of bulk at most 1048576: NARROWER than '..Said'. Prove '..Said' where nothing that the law and all that it calls make is longer than what came in: it says more and counts as full. Else prove '..UptoSaid'. A law counts once. -/
mutual
def uptoBulk {H : Type} : DataW H → Nat
  | .lit (.string bytes) => bytes.length + 1
  | .lit _ => 1
  | .nil => 1
  | .ptr d => uptoBulk d + 1
  | .slice elems spare => uptoBulkAll elems + uptoBulkAll spare + 1
  | .agg parts => uptoBulkAll parts + 1
  | .iface _ d => uptoBulk d + 1
  | .map entries => uptoBulkEntries entries + 1
  | .held _ => 1
def uptoBulkAll {H : Type} : List (DataW H) → Nat
  | [] => 0
  | d :: r => uptoBulk d + uptoBulkAll r
def uptoBulkEntries {H : Type} : List (Lit × DataW H) → Nat
  | [] => 0
  | x :: r => uptoBulkEntry x + uptoBulkEntries r
def uptoBulkEntry {H : Type} : Lit × DataW H → Nat
  | (.string bytes, d) => bytes.length + uptoBulk d + 1
  | (_, d) => uptoBulk d + 1
 end
def uptoSmall : (H : Type) → List (DataW H) → Bool := fun _ ds => decide (uptoBulkAll ds ≤ 1048576)
def OpenSpec.upto (s : _root_.Go.ChangeSpec) : _root_.Go.OpenSpec := { _root_.Go.OpenSpec.ofChange s with cond := some uptoSmall }

/-- 'thrumlaw16.MlpHides', WHERE WHAT IT READS IS OF BULK AT MOST 1048576: true; the input reads as it did. -/
def mlpHidesUptoRow : OpenClaim := { program := "ytfbdalnjijdknaa", sum := "065a628cd5ecdda17a3303d176e0ef80c9ccd4a8ddef73b7c0b1f9c5f226fbd5", func := "thrum/thrumlaw16.MlpHides", spec := "mlpHides", unfollowed := true, recurses := true, apart := false, narrowed := true }
def MlpHidesUptoSaid : Prop := mlpHidesUptoRow.holds Try.pinned (OpenSpec.upto mlpHidesSpec)

/-- 'thrumlaw16.MlpTells', WHERE WHAT IT READS IS OF BULK AT MOST 1048576: true; the input reads as it did. -/
def mlpTellsUptoRow : OpenClaim := { program := "ytfbdalnjijdknaa", sum := "065a628cd5ecdda17a3303d176e0ef80c9ccd4a8ddef73b7c0b1f9c5f226fbd5", func := "thrum/thrumlaw16.MlpTells", spec := "mlpTells", unfollowed := true, recurses := true, apart := false, narrowed := true }
def MlpTellsUptoSaid : Prop := mlpTellsUptoRow.holds Try.pinned (OpenSpec.upto mlpTellsSpec)

/-- 'thrumlaw13.TableShares', WHERE WHAT IT READS IS OF BULK AT MOST 1048576: true; the input reads as it did. -/
def tableSharesUptoRow : OpenClaim := { program := "ytfbdalnjijdknaa", sum := "065a628cd5ecdda17a3303d176e0ef80c9ccd4a8ddef73b7c0b1f9c5f226fbd5", func := "thrum/thrumlaw13.TableShares", spec := "tableShares", inPlace := ["math.sqrt"], named := ["math/bits.divideError", "math/bits.overflowError"], apart := false, narrowed := true }
def TableSharesUptoSaid : Prop := tableSharesUptoRow.holds Try.pinned (OpenSpec.upto tableSharesSpec)

/-- 'thrumlaw13.TableRoots', WHERE WHAT IT READS IS OF BULK AT MOST 1048576: true; the input reads as it did. -/
def tableRootsUptoRow : OpenClaim := { program := "ytfbdalnjijdknaa", sum := "065a628cd5ecdda17a3303d176e0ef80c9ccd4a8ddef73b7c0b1f9c5f226fbd5", func := "thrum/thrumlaw13.TableRoots", spec := "tableRoots", inPlace := ["math.sqrt"], named := ["math/bits.divideError", "math/bits.overflowError"], apart := false, narrowed := true }
def TableRootsUptoSaid : Prop := tableRootsUptoRow.holds Try.pinned (OpenSpec.upto tableRootsSpec)

/-- 'thrumlaw13.TableWhole', WHERE WHAT IT READS IS OF BULK AT MOST 1048576: true; the input reads as it did. -/
def tableWholeUptoRow : OpenClaim := { program := "ytfbdalnjijdknaa", sum := "065a628cd5ecdda17a3303d176e0ef80c9ccd4a8ddef73b7c0b1f9c5f226fbd5", func := "thrum/thrumlaw13.TableWhole", spec := "tableWhole", inPlace := ["math.sqrt"], named := ["math/bits.divideError", "math/bits.overflowError"], apart := false, narrowed := true }
def TableWholeUptoSaid : Prop := tableWholeUptoRow.holds Try.pinned (OpenSpec.upto tableWholeSpec)

/-- 'thrumlaw13.TableShifts', WHERE WHAT IT READS IS OF BULK AT MOST 1048576: true; the input reads as it did. -/
def tableShiftsUptoRow : OpenClaim := { program := "ytfbdalnjijdknaa", sum := "065a628cd5ecdda17a3303d176e0ef80c9ccd4a8ddef73b7c0b1f9c5f226fbd5", func := "thrum/thrumlaw13.TableShifts", spec := "tableShifts", inPlace := ["math.sqrt"], named := ["math/bits.divideError", "math/bits.overflowError"], apart := false, narrowed := true }
def TableShiftsUptoSaid : Prop := tableShiftsUptoRow.holds Try.pinned (OpenSpec.upto tableShiftsSpec)

/-- 'thrumlaw13.TableOne', WHERE WHAT IT READS IS OF BULK AT MOST 1048576: true; the input reads as it did. -/
def tableOneUptoRow : OpenClaim := { program := "ytfbdalnjijdknaa", sum := "065a628cd5ecdda17a3303d176e0ef80c9ccd4a8ddef73b7c0b1f9c5f226fbd5", func := "thrum/thrumlaw13.TableOne", spec := "tableOne", inPlace := ["math.sqrt"], named := ["math/bits.divideError", "math/bits.overflowError"], apart := false, narrowed := true }
def TableOneUptoSaid : Prop := tableOneUptoRow.holds Try.pinned (OpenSpec.upto tableOneSpec)

/-- 'thrumlaw13.TableTells', WHERE WHAT IT READS IS OF BULK AT MOST 1048576: true; the input reads as it did. -/
def tableTellsUptoRow : OpenClaim := { program := "ytfbdalnjijdknaa", sum := "065a628cd5ecdda17a3303d176e0ef80c9ccd4a8ddef73b7c0b1f9c5f226fbd5", func := "thrum/thrumlaw13.TableTells", spec := "tableTells", inPlace := ["math.sqrt"], named := ["math/bits.divideError", "math/bits.overflowError"], apart := false, narrowed := true }
def TableTellsUptoSaid : Prop := tableTellsUptoRow.holds Try.pinned (OpenSpec.upto tableTellsSpec)

/-- 'thrumlaw13.TableFalls', WHERE WHAT IT READS IS OF BULK AT MOST 1048576: true; the input reads as it did. -/
def tableFallsUptoRow : OpenClaim := { program := "ytfbdalnjijdknaa", sum := "065a628cd5ecdda17a3303d176e0ef80c9ccd4a8ddef73b7c0b1f9c5f226fbd5", func := "thrum/thrumlaw13.TableFalls", spec := "tableFalls", inPlace := ["math.sqrt"], named := ["math/bits.divideError", "math/bits.overflowError"], apart := false, narrowed := true }
def TableFallsUptoSaid : Prop := tableFallsUptoRow.holds Try.pinned (OpenSpec.upto tableFallsSpec)

/-- 'thrumlaw14.LinearTells', WHERE WHAT IT READS IS OF BULK AT MOST 1048576: true; the input reads as it did. -/
def linearTellsUptoRow : OpenClaim := { program := "ytfbdalnjijdknaa", sum := "065a628cd5ecdda17a3303d176e0ef80c9ccd4a8ddef73b7c0b1f9c5f226fbd5", func := "thrum/thrumlaw14.LinearTells", spec := "linearTells", unfollowed := true, recurses := true, named := ["math/bits.divideError", "math/bits.overflowError"], apart := false, narrowed := true }
def LinearTellsUptoSaid : Prop := linearTellsUptoRow.holds Try.pinned (OpenSpec.upto linearTellsSpec)

/-- 'thrumlaw14.LinearGrows', WHERE WHAT IT READS IS OF BULK AT MOST 1048576: true; the input reads as it did. -/
def linearGrowsUptoRow : OpenClaim := { program := "ytfbdalnjijdknaa", sum := "065a628cd5ecdda17a3303d176e0ef80c9ccd4a8ddef73b7c0b1f9c5f226fbd5", func := "thrum/thrumlaw14.LinearGrows", spec := "linearGrows", unfollowed := true, recurses := true, named := ["math/bits.divideError", "math/bits.overflowError"], apart := false, narrowed := true }
def LinearGrowsUptoSaid : Prop := linearGrowsUptoRow.holds Try.pinned (OpenSpec.upto linearGrowsSpec)

/-- 'thrumlaw14.LinearBends', WHERE WHAT IT READS IS OF BULK AT MOST 1048576: true; the input reads as it did. -/
def linearBendsUptoRow : OpenClaim := { program := "ytfbdalnjijdknaa", sum := "065a628cd5ecdda17a3303d176e0ef80c9ccd4a8ddef73b7c0b1f9c5f226fbd5", func := "thrum/thrumlaw14.LinearBends", spec := "linearBends", unfollowed := true, recurses := true, named := ["math/bits.divideError", "math/bits.overflowError"], apart := false, narrowed := true }
def LinearBendsUptoSaid : Prop := linearBendsUptoRow.holds Try.pinned (OpenSpec.upto linearBendsSpec)

/-- 'thrumlaw14.LinearRight', WHERE WHAT IT READS IS OF BULK AT MOST 1048576: true; the input reads as it did. -/
def linearRightUptoRow : OpenClaim := { program := "ytfbdalnjijdknaa", sum := "065a628cd5ecdda17a3303d176e0ef80c9ccd4a8ddef73b7c0b1f9c5f226fbd5", func := "thrum/thrumlaw14.LinearRight", spec := "linearRight", unfollowed := true, recurses := true, named := ["math/bits.divideError", "math/bits.overflowError"], apart := false, narrowed := true }
def LinearRightUptoSaid : Prop := linearRightUptoRow.holds Try.pinned (OpenSpec.upto linearRightSpec)

/-- 'thrumlaw14.LinearTurns', WHERE WHAT IT READS IS OF BULK AT MOST 1048576: true; the input reads as it did. -/
def linearTurnsUptoRow : OpenClaim := { program := "ytfbdalnjijdknaa", sum := "065a628cd5ecdda17a3303d176e0ef80c9ccd4a8ddef73b7c0b1f9c5f226fbd5", func := "thrum/thrumlaw14.LinearTurns", spec := "linearTurns", unfollowed := true, recurses := true, named := ["math/bits.divideError", "math/bits.overflowError"], apart := false, narrowed := true }
def LinearTurnsUptoSaid : Prop := linearTurnsUptoRow.holds Try.pinned (OpenSpec.upto linearTurnsSpec)

/-- 'thrumlaw14.LinearBase', WHERE WHAT IT READS IS OF BULK AT MOST 1048576: true; the input reads as it did. -/
def linearBaseUptoRow : OpenClaim := { program := "ytfbdalnjijdknaa", sum := "065a628cd5ecdda17a3303d176e0ef80c9ccd4a8ddef73b7c0b1f9c5f226fbd5", func := "thrum/thrumlaw14.LinearBase", spec := "linearBase", unfollowed := true, recurses := true, named := ["math/bits.divideError", "math/bits.overflowError"], apart := false, narrowed := true }
def LinearBaseUptoSaid : Prop := linearBaseUptoRow.holds Try.pinned (OpenSpec.upto linearBaseSpec)

/-- 'thrumlaw16.MlpRight', WHERE WHAT IT READS IS OF BULK AT MOST 1048576: true; the input reads as it did. -/
def mlpRightUptoRow : OpenClaim := { program := "ytfbdalnjijdknaa", sum := "065a628cd5ecdda17a3303d176e0ef80c9ccd4a8ddef73b7c0b1f9c5f226fbd5", func := "thrum/thrumlaw16.MlpRight", spec := "mlpRight", unfollowed := true, recurses := true, named := ["math/bits.divideError", "math/bits.overflowError"], apart := false, narrowed := true }
def MlpRightUptoSaid : Prop := mlpRightUptoRow.holds Try.pinned (OpenSpec.upto mlpRightSpec)

/-- 'thrumlaw16.MlpBends', WHERE WHAT IT READS IS OF BULK AT MOST 1048576: true; the input reads as it did. -/
def mlpBendsUptoRow : OpenClaim := { program := "ytfbdalnjijdknaa", sum := "065a628cd5ecdda17a3303d176e0ef80c9ccd4a8ddef73b7c0b1f9c5f226fbd5", func := "thrum/thrumlaw16.MlpBends", spec := "mlpBends", unfollowed := true, recurses := true, named := ["math/bits.divideError", "math/bits.overflowError"], apart := false, narrowed := true }
def MlpBendsUptoSaid : Prop := mlpBendsUptoRow.holds Try.pinned (OpenSpec.upto mlpBendsSpec)

/-- 'thrumlaw16.MlpTurns', WHERE WHAT IT READS IS OF BULK AT MOST 1048576: true; the input reads as it did. -/
def mlpTurnsUptoRow : OpenClaim := { program := "ytfbdalnjijdknaa", sum := "065a628cd5ecdda17a3303d176e0ef80c9ccd4a8ddef73b7c0b1f9c5f226fbd5", func := "thrum/thrumlaw16.MlpTurns", spec := "mlpTurns", unfollowed := true, recurses := true, named := ["math/bits.divideError", "math/bits.overflowError"], apart := false, narrowed := true }
def MlpTurnsUptoSaid : Prop := mlpTurnsUptoRow.holds Try.pinned (OpenSpec.upto mlpTurnsSpec)

/-- 'thrumlaw15.SoftOff', WHERE WHAT IT READS IS OF BULK AT MOST 1048576: true; the input reads as it did. -/
def softOffUptoRow : OpenClaim := { program := "ytfbdalnjijdknaa", sum := "065a628cd5ecdda17a3303d176e0ef80c9ccd4a8ddef73b7c0b1f9c5f226fbd5", func := "thrum/thrumlaw15.SoftOff", spec := "softOff", inPlace := ["math.sqrt"], unfollowed := true, recurses := true, named := ["math/bits.divideError", "math/bits.overflowError"], apart := false, narrowed := true }
def SoftOffUptoSaid : Prop := softOffUptoRow.holds Try.pinned (OpenSpec.upto softOffSpec)

/-- 'thrumlaw15.SoftRows', WHERE WHAT IT READS IS OF BULK AT MOST 1048576: true; the input reads as it did. -/
def softRowsUptoRow : OpenClaim := { program := "ytfbdalnjijdknaa", sum := "065a628cd5ecdda17a3303d176e0ef80c9ccd4a8ddef73b7c0b1f9c5f226fbd5", func := "thrum/thrumlaw15.SoftRows", spec := "softRows", inPlace := ["math.sqrt"], unfollowed := true, recurses := true, named := ["math/bits.divideError", "math/bits.overflowError"], apart := false, narrowed := true }
def SoftRowsUptoSaid : Prop := softRowsUptoRow.holds Try.pinned (OpenSpec.upto softRowsSpec)

/-- 'thrumlaw15.SoftTurns', WHERE WHAT IT READS IS OF BULK AT MOST 1048576: true; the input reads as it did. -/
def softTurnsUptoRow : OpenClaim := { program := "ytfbdalnjijdknaa", sum := "065a628cd5ecdda17a3303d176e0ef80c9ccd4a8ddef73b7c0b1f9c5f226fbd5", func := "thrum/thrumlaw15.SoftTurns", spec := "softTurns", inPlace := ["math.sqrt"], unfollowed := true, recurses := true, named := ["math/bits.divideError", "math/bits.overflowError"], apart := false, narrowed := true }
def SoftTurnsUptoSaid : Prop := softTurnsUptoRow.holds Try.pinned (OpenSpec.upto softTurnsSpec)

/-- 'thrumlaw15.SoftTells', WHERE WHAT IT READS IS OF BULK AT MOST 1048576: true; the input reads as it did. -/
def softTellsUptoRow : OpenClaim := { program := "ytfbdalnjijdknaa", sum := "065a628cd5ecdda17a3303d176e0ef80c9ccd4a8ddef73b7c0b1f9c5f226fbd5", func := "thrum/thrumlaw15.SoftTells", spec := "softTells", inPlace := ["math.sqrt"], unfollowed := true, recurses := true, named := ["math/bits.divideError", "math/bits.overflowError"], apart := false, narrowed := true }
def SoftTellsUptoSaid : Prop := softTellsUptoRow.holds Try.pinned (OpenSpec.upto softTellsSpec)

/-- 'thrumlaw15.SoftClass', WHERE WHAT IT READS IS OF BULK AT MOST 1048576: true; the input reads as it did. -/
def softClassUptoRow : OpenClaim := { program := "ytfbdalnjijdknaa", sum := "065a628cd5ecdda17a3303d176e0ef80c9ccd4a8ddef73b7c0b1f9c5f226fbd5", func := "thrum/thrumlaw15.SoftClass", spec := "softClass", inPlace := ["math.sqrt"], unfollowed := true, recurses := true, named := ["math/bits.divideError", "math/bits.overflowError"], apart := false, narrowed := true }
def SoftClassUptoSaid : Prop := softClassUptoRow.holds Try.pinned (OpenSpec.upto softClassSpec)

/-- 'thrumlaw15.SoftBends', WHERE WHAT IT READS IS OF BULK AT MOST 1048576: true; the input reads as it did. -/
def softBendsUptoRow : OpenClaim := { program := "ytfbdalnjijdknaa", sum := "065a628cd5ecdda17a3303d176e0ef80c9ccd4a8ddef73b7c0b1f9c5f226fbd5", func := "thrum/thrumlaw15.SoftBends", spec := "softBends", inPlace := ["math.sqrt"], unfollowed := true, recurses := true, named := ["math/bits.divideError", "math/bits.overflowError"], apart := false, narrowed := true }
def SoftBendsUptoSaid : Prop := softBendsUptoRow.holds Try.pinned (OpenSpec.upto softBendsSpec)

/-- 'thrumlaw17.ModelClips', WHERE WHAT IT READS IS OF BULK AT MOST 1048576: true; the input reads as it did. -/
def modelClipsUptoRow : OpenClaim := { program := "ytfbdalnjijdknaa", sum := "065a628cd5ecdda17a3303d176e0ef80c9ccd4a8ddef73b7c0b1f9c5f226fbd5", func := "thrum/thrumlaw17.ModelClips", spec := "modelClips", unfollowed := true, recurses := true, apart := false, narrowed := true }
def ModelClipsUptoSaid : Prop := modelClipsUptoRow.holds Try.pinned (OpenSpec.upto modelClipsSpec)

/-- 'thrumlaw17.ModelKinds', WHERE WHAT IT READS IS OF BULK AT MOST 1048576: true; the input reads as it did. -/
def modelKindsUptoRow : OpenClaim := { program := "ytfbdalnjijdknaa", sum := "065a628cd5ecdda17a3303d176e0ef80c9ccd4a8ddef73b7c0b1f9c5f226fbd5", func := "thrum/thrumlaw17.ModelKinds", spec := "modelKinds", inPlace := ["math.sqrt"], unfollowed := true, recurses := true, named := ["math/bits.divideError", "math/bits.overflowError"], apart := false, narrowed := true }
def ModelKindsUptoSaid : Prop := modelKindsUptoRow.holds Try.pinned (OpenSpec.upto modelKindsSpec)

end Rows
end Go.Proofs.Ytfbdalnjijdknaa
