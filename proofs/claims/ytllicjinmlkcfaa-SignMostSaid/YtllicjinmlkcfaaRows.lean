/-
  No cell of these rows narrows 'for every input' (looked for: loops, veiled, ifaces, maps, wideKeys, modest, calm, conditions, laid).
  DERIVED. THE GIVEN ROWS OF THIS SEAT. 21 by the template 'for every input the law returns true; each argument reads behind the call as it read before'; 0 by the template 'total and deterministic' (their statements: YtllicjinmlkcfaaTotals.lean).
  GIVEN WITH THE SEED: the statements are not yours to turn. If you find one false, say at which input.
  Laid BY PROGRAM, IN A SANDBOX (cutbox-rows.mjs): the forced cells as the released guide's own fill.sh prints them over the translation 9faa5e4ad004ac3c… (all of the seat's roots in one cut). By AI agents, Wed Nov 11 2026. No macro, syntax, notation, axiom, sorry.
-/
import Derived.Test.YtllicjinmlkcfaaChecked
import GoSem.Claim
import GoSem.ClaimJoined
import GoSem.ClaimMapViews
import Derived.JoinedTies
import Derived.KernelRfl
namespace Go.Proofs.Ytllicjinmlkcfaa
/- THE CELL 'sum', in the pinned program and in every row, IS THE sha256 OF THE DUMP (.gsa) THAT YtllicjinmlkcfaaProg.lean LOADS. Nothing in Lean hashes anything: it is a label: what it is worth is what the hold of that sum in a sandbox is worth. -/
noncomputable def Try.pinned : Pinned := { name := "ytllicjinmlkcfaa", sum := "9faa5e4ad004ac3cfcaec63297a33eb78a976a808325910c054cf25486bce7cc", checked := Try.checked }
namespace Rows
def none {H : Type} : Left H := { results := [], args := [] }

/-- 'thrumlaw02.VecDots': WHATEVER THE INPUT: true; the input reads as it did. -/
def vecDotsSpec : ChangeSpec := { name := "vecDots", fn := fun _ => fun
  | [d1, d2, d3] => { results := [.lit (.bool true)], args := [d1, d2, d3] }
  | _ => none }
def vecDotsRow : OpenClaim := { program := "ytllicjinmlkcfaa", sum := "9faa5e4ad004ac3cfcaec63297a33eb78a976a808325910c054cf25486bce7cc", func := "thrum/thrumlaw02.VecDots", spec := "vecDots", unfollowed := true, recurses := true, apart := false }
def VecDotsSaid : Prop := vecDotsRow.holds Try.pinned (OpenSpec.ofChange vecDotsSpec)

/-- ITS FALSE NEIGHBOUR: 'it returns false'. Refute it at one input. -/
def vecDotsWrong : ChangeSpec := { name := "vecDots", fn := fun _ => fun
  | [d1, d2, d3] => { results := [.lit (.bool false)], args := [d1, d2, d3] }
  | _ => none }
def VecDotsWrongFalsely : Prop := vecDotsRow.holds Try.pinned (OpenSpec.ofChange vecDotsWrong)

/-- 'thrumlaw01.FixSmall': WHATEVER THE INPUT: true; the input reads as it did. -/
def fixSmallSpec : ChangeSpec := { name := "fixSmall", fn := fun _ => fun
  | [d1, d2, d3] => { results := [.lit (.bool true)], args := [d1, d2, d3] }
  | _ => none }
def fixSmallRow : OpenClaim := { program := "ytllicjinmlkcfaa", sum := "9faa5e4ad004ac3cfcaec63297a33eb78a976a808325910c054cf25486bce7cc", func := "thrum/thrumlaw01.FixSmall", spec := "fixSmall", named := ["math/bits.divideError", "math/bits.overflowError"], apart := false }
def FixSmallSaid : Prop := fixSmallRow.holds Try.pinned (OpenSpec.ofChange fixSmallSpec)

/-- ITS FALSE NEIGHBOUR: 'it returns false'. Refute it at one input. -/
def fixSmallWrong : ChangeSpec := { name := "fixSmall", fn := fun _ => fun
  | [d1, d2, d3] => { results := [.lit (.bool false)], args := [d1, d2, d3] }
  | _ => none }
def FixSmallWrongFalsely : Prop := fixSmallRow.holds Try.pinned (OpenSpec.ofChange fixSmallWrong)

/-- 'thrumlaw01.FixShifts': WHATEVER THE INPUT: true; the input reads as it did. -/
def fixShiftsSpec : ChangeSpec := { name := "fixShifts", fn := fun _ => fun
  | [d1, d2, d3] => { results := [.lit (.bool true)], args := [d1, d2, d3] }
  | _ => none }
def fixShiftsRow : OpenClaim := { program := "ytllicjinmlkcfaa", sum := "9faa5e4ad004ac3cfcaec63297a33eb78a976a808325910c054cf25486bce7cc", func := "thrum/thrumlaw01.FixShifts", spec := "fixShifts", named := ["math/bits.divideError", "math/bits.overflowError"], apart := false }
def FixShiftsSaid : Prop := fixShiftsRow.holds Try.pinned (OpenSpec.ofChange fixShiftsSpec)

/-- ITS FALSE NEIGHBOUR: 'it returns false'. Refute it at one input. -/
def fixShiftsWrong : ChangeSpec := { name := "fixShifts", fn := fun _ => fun
  | [d1, d2, d3] => { results := [.lit (.bool false)], args := [d1, d2, d3] }
  | _ => none }
def FixShiftsWrongFalsely : Prop := fixShiftsRow.holds Try.pinned (OpenSpec.ofChange fixShiftsWrong)

/-- 'thrumlaw02.VecBack': WHATEVER THE INPUT: true; the input reads as it did. -/
def vecBackSpec : ChangeSpec := { name := "vecBack", fn := fun _ => fun
  | [d1, d2] => { results := [.lit (.bool true)], args := [d1, d2] }
  | _ => none }
def vecBackRow : OpenClaim := { program := "ytllicjinmlkcfaa", sum := "9faa5e4ad004ac3cfcaec63297a33eb78a976a808325910c054cf25486bce7cc", func := "thrum/thrumlaw02.VecBack", spec := "vecBack", unfollowed := true, recurses := true, apart := false }
def VecBackSaid : Prop := vecBackRow.holds Try.pinned (OpenSpec.ofChange vecBackSpec)

/-- ITS FALSE NEIGHBOUR: 'it returns false'. Refute it at one input. -/
def vecBackWrong : ChangeSpec := { name := "vecBack", fn := fun _ => fun
  | [d1, d2] => { results := [.lit (.bool false)], args := [d1, d2] }
  | _ => none }
def VecBackWrongFalsely : Prop := vecBackRow.holds Try.pinned (OpenSpec.ofChange vecBackWrong)

/-- 'thrumlaw01.FixNegs': WHATEVER THE INPUT: true; the input reads as it did. -/
def fixNegsSpec : ChangeSpec := { name := "fixNegs", fn := fun _ => fun
  | [d1, d2, d3] => { results := [.lit (.bool true)], args := [d1, d2, d3] }
  | _ => none }
def fixNegsRow : OpenClaim := { program := "ytllicjinmlkcfaa", sum := "9faa5e4ad004ac3cfcaec63297a33eb78a976a808325910c054cf25486bce7cc", func := "thrum/thrumlaw01.FixNegs", spec := "fixNegs", named := ["math/bits.divideError", "math/bits.overflowError"], apart := false }
def FixNegsSaid : Prop := fixNegsRow.holds Try.pinned (OpenSpec.ofChange fixNegsSpec)

/-- ITS FALSE NEIGHBOUR: 'it returns false'. Refute it at one input. -/
def fixNegsWrong : ChangeSpec := { name := "fixNegs", fn := fun _ => fun
  | [d1, d2, d3] => { results := [.lit (.bool false)], args := [d1, d2, d3] }
  | _ => none }
def FixNegsWrongFalsely : Prop := fixNegsRow.holds Try.pinned (OpenSpec.ofChange fixNegsWrong)

/-- 'thrumlaw01.FixTimes': WHATEVER THE INPUT: true; the input reads as it did. -/
def fixTimesSpec : ChangeSpec := { name := "fixTimes", fn := fun _ => fun
  | [d1, d2, d3] => { results := [.lit (.bool true)], args := [d1, d2, d3] }
  | _ => none }
def fixTimesRow : OpenClaim := { program := "ytllicjinmlkcfaa", sum := "9faa5e4ad004ac3cfcaec63297a33eb78a976a808325910c054cf25486bce7cc", func := "thrum/thrumlaw01.FixTimes", spec := "fixTimes", named := ["math/bits.divideError", "math/bits.overflowError"], apart := false }
def FixTimesSaid : Prop := fixTimesRow.holds Try.pinned (OpenSpec.ofChange fixTimesSpec)

/-- ITS FALSE NEIGHBOUR: 'it returns false'. Refute it at one input. -/
def fixTimesWrong : ChangeSpec := { name := "fixTimes", fn := fun _ => fun
  | [d1, d2, d3] => { results := [.lit (.bool false)], args := [d1, d2, d3] }
  | _ => none }
def FixTimesWrongFalsely : Prop := fixTimesRow.holds Try.pinned (OpenSpec.ofChange fixTimesWrong)

/-- 'thrumlaw01.FixWide': WHATEVER THE INPUT: true; the input reads as it did. -/
def fixWideSpec : ChangeSpec := { name := "fixWide", fn := fun _ => fun
  | [d1, d2, d3] => { results := [.lit (.bool true)], args := [d1, d2, d3] }
  | _ => none }
def fixWideRow : OpenClaim := { program := "ytllicjinmlkcfaa", sum := "9faa5e4ad004ac3cfcaec63297a33eb78a976a808325910c054cf25486bce7cc", func := "thrum/thrumlaw01.FixWide", spec := "fixWide", named := ["math/bits.divideError", "math/bits.overflowError"], apart := false }
def FixWideSaid : Prop := fixWideRow.holds Try.pinned (OpenSpec.ofChange fixWideSpec)

/-- ITS FALSE NEIGHBOUR: 'it returns false'. Refute it at one input. -/
def fixWideWrong : ChangeSpec := { name := "fixWide", fn := fun _ => fun
  | [d1, d2, d3] => { results := [.lit (.bool false)], args := [d1, d2, d3] }
  | _ => none }
def FixWideWrongFalsely : Prop := fixWideRow.holds Try.pinned (OpenSpec.ofChange fixWideWrong)

/-- 'thrumlaw11.SignTurned': WHATEVER THE INPUT: true; the input reads as it did. -/
def signTurnedSpec : ChangeSpec := { name := "signTurned", fn := fun _ => fun
  | [d] => { results := [.lit (.bool true)], args := [d] }
  | _ => none }
def signTurnedRow : OpenClaim := { program := "ytllicjinmlkcfaa", sum := "9faa5e4ad004ac3cfcaec63297a33eb78a976a808325910c054cf25486bce7cc", func := "thrum/thrumlaw11.SignTurned", spec := "signTurned", unfollowed := true, recurses := true, apart := false }
def SignTurnedSaid : Prop := signTurnedRow.holds Try.pinned (OpenSpec.ofChange signTurnedSpec)

/-- ITS FALSE NEIGHBOUR: 'it returns false'. Refute it at one input. -/
def signTurnedWrong : ChangeSpec := { name := "signTurned", fn := fun _ => fun
  | [d] => { results := [.lit (.bool false)], args := [d] }
  | _ => none }
def SignTurnedWrongFalsely : Prop := signTurnedRow.holds Try.pinned (OpenSpec.ofChange signTurnedWrong)

/-- 'thrumlaw11.SignScaled': WHATEVER THE INPUT: true; the input reads as it did. -/
def signScaledSpec : ChangeSpec := { name := "signScaled", fn := fun _ => fun
  | [d1, d2] => { results := [.lit (.bool true)], args := [d1, d2] }
  | _ => none }
def signScaledRow : OpenClaim := { program := "ytllicjinmlkcfaa", sum := "9faa5e4ad004ac3cfcaec63297a33eb78a976a808325910c054cf25486bce7cc", func := "thrum/thrumlaw11.SignScaled", spec := "signScaled", unfollowed := true, recurses := true, apart := false }
def SignScaledSaid : Prop := signScaledRow.holds Try.pinned (OpenSpec.ofChange signScaledSpec)

/-- ITS FALSE NEIGHBOUR: 'it returns false'. Refute it at one input. -/
def signScaledWrong : ChangeSpec := { name := "signScaled", fn := fun _ => fun
  | [d1, d2] => { results := [.lit (.bool false)], args := [d1, d2] }
  | _ => none }
def SignScaledWrongFalsely : Prop := signScaledRow.holds Try.pinned (OpenSpec.ofChange signScaledWrong)

/-- 'thrumlaw01.FixBack': WHATEVER THE INPUT: true; the input reads as it did. -/
def fixBackSpec : ChangeSpec := { name := "fixBack", fn := fun _ => fun
  | [d1, d2, d3] => { results := [.lit (.bool true)], args := [d1, d2, d3] }
  | _ => none }
def fixBackRow : OpenClaim := { program := "ytllicjinmlkcfaa", sum := "9faa5e4ad004ac3cfcaec63297a33eb78a976a808325910c054cf25486bce7cc", func := "thrum/thrumlaw01.FixBack", spec := "fixBack", named := ["math/bits.divideError", "math/bits.overflowError"], apart := false }
def FixBackSaid : Prop := fixBackRow.holds Try.pinned (OpenSpec.ofChange fixBackSpec)

/-- ITS FALSE NEIGHBOUR: 'it returns false'. Refute it at one input. -/
def fixBackWrong : ChangeSpec := { name := "fixBack", fn := fun _ => fun
  | [d1, d2, d3] => { results := [.lit (.bool false)], args := [d1, d2, d3] }
  | _ => none }
def FixBackWrongFalsely : Prop := fixBackRow.holds Try.pinned (OpenSpec.ofChange fixBackWrong)

/-- 'thrumlaw02.VecScales': WHATEVER THE INPUT: true; the input reads as it did. -/
def vecScalesSpec : ChangeSpec := { name := "vecScales", fn := fun _ => fun
  | [d1, d2, d3] => { results := [.lit (.bool true)], args := [d1, d2, d3] }
  | _ => none }
def vecScalesRow : OpenClaim := { program := "ytllicjinmlkcfaa", sum := "9faa5e4ad004ac3cfcaec63297a33eb78a976a808325910c054cf25486bce7cc", func := "thrum/thrumlaw02.VecScales", spec := "vecScales", unfollowed := true, recurses := true, apart := false }
def VecScalesSaid : Prop := vecScalesRow.holds Try.pinned (OpenSpec.ofChange vecScalesSpec)

/-- ITS FALSE NEIGHBOUR: 'it returns false'. Refute it at one input. -/
def vecScalesWrong : ChangeSpec := { name := "vecScales", fn := fun _ => fun
  | [d1, d2, d3] => { results := [.lit (.bool false)], args := [d1, d2, d3] }
  | _ => none }
def VecScalesWrongFalsely : Prop := vecScalesRow.holds Try.pinned (OpenSpec.ofChange vecScalesWrong)

/-- 'thrumlaw11.SignPresses': WHATEVER THE INPUT: true; the input reads as it did. -/
def signPressesSpec : ChangeSpec := { name := "signPresses", fn := fun _ => fun
  | [d1, d2] => { results := [.lit (.bool true)], args := [d1, d2] }
  | _ => none }
def signPressesRow : OpenClaim := { program := "ytllicjinmlkcfaa", sum := "9faa5e4ad004ac3cfcaec63297a33eb78a976a808325910c054cf25486bce7cc", func := "thrum/thrumlaw11.SignPresses", spec := "signPresses", unfollowed := true, recurses := true, apart := false }
def SignPressesSaid : Prop := signPressesRow.holds Try.pinned (OpenSpec.ofChange signPressesSpec)

/-- ITS FALSE NEIGHBOUR: 'it returns false'. Refute it at one input. -/
def signPressesWrong : ChangeSpec := { name := "signPresses", fn := fun _ => fun
  | [d1, d2] => { results := [.lit (.bool false)], args := [d1, d2] }
  | _ => none }
def SignPressesWrongFalsely : Prop := signPressesRow.holds Try.pinned (OpenSpec.ofChange signPressesWrong)

/-- 'thrumlaw11.SignLoosens': WHATEVER THE INPUT: true; the input reads as it did. -/
def signLoosensSpec : ChangeSpec := { name := "signLoosens", fn := fun _ => fun
  | [d] => { results := [.lit (.bool true)], args := [d] }
  | _ => none }
def signLoosensRow : OpenClaim := { program := "ytllicjinmlkcfaa", sum := "9faa5e4ad004ac3cfcaec63297a33eb78a976a808325910c054cf25486bce7cc", func := "thrum/thrumlaw11.SignLoosens", spec := "signLoosens", unfollowed := true, recurses := true, apart := false }
def SignLoosensSaid : Prop := signLoosensRow.holds Try.pinned (OpenSpec.ofChange signLoosensSpec)

/-- ITS FALSE NEIGHBOUR: 'it returns false'. Refute it at one input. -/
def signLoosensWrong : ChangeSpec := { name := "signLoosens", fn := fun _ => fun
  | [d] => { results := [.lit (.bool false)], args := [d] }
  | _ => none }
def SignLoosensWrongFalsely : Prop := signLoosensRow.holds Try.pinned (OpenSpec.ofChange signLoosensWrong)

/-- 'thrumlaw01.FixClips': WHATEVER THE INPUT: true; the input reads as it did. -/
def fixClipsSpec : ChangeSpec := { name := "fixClips", fn := fun _ => fun
  | [d1, d2] => { results := [.lit (.bool true)], args := [d1, d2] }
  | _ => none }
def fixClipsRow : OpenClaim := { program := "ytllicjinmlkcfaa", sum := "9faa5e4ad004ac3cfcaec63297a33eb78a976a808325910c054cf25486bce7cc", func := "thrum/thrumlaw01.FixClips", spec := "fixClips", named := ["math/bits.divideError", "math/bits.overflowError"], apart := false }
def FixClipsSaid : Prop := fixClipsRow.holds Try.pinned (OpenSpec.ofChange fixClipsSpec)

/-- ITS FALSE NEIGHBOUR: 'it returns false'. Refute it at one input. -/
def fixClipsWrong : ChangeSpec := { name := "fixClips", fn := fun _ => fun
  | [d1, d2] => { results := [.lit (.bool false)], args := [d1, d2] }
  | _ => none }
def FixClipsWrongFalsely : Prop := fixClipsRow.holds Try.pinned (OpenSpec.ofChange fixClipsWrong)

/-- 'thrumlaw02.VecSums': WHATEVER THE INPUT: true; the input reads as it did. -/
def vecSumsSpec : ChangeSpec := { name := "vecSums", fn := fun _ => fun
  | [d] => { results := [.lit (.bool true)], args := [d] }
  | _ => none }
def vecSumsRow : OpenClaim := { program := "ytllicjinmlkcfaa", sum := "9faa5e4ad004ac3cfcaec63297a33eb78a976a808325910c054cf25486bce7cc", func := "thrum/thrumlaw02.VecSums", spec := "vecSums", unfollowed := true, recurses := true, apart := false }
def VecSumsSaid : Prop := vecSumsRow.holds Try.pinned (OpenSpec.ofChange vecSumsSpec)

/-- ITS FALSE NEIGHBOUR: 'it returns false'. Refute it at one input. -/
def vecSumsWrong : ChangeSpec := { name := "vecSums", fn := fun _ => fun
  | [d] => { results := [.lit (.bool false)], args := [d] }
  | _ => none }
def VecSumsWrongFalsely : Prop := vecSumsRow.holds Try.pinned (OpenSpec.ofChange vecSumsWrong)

/-- 'thrumlaw02.VecTells': WHATEVER THE INPUT: true; the input reads as it did. -/
def vecTellsSpec : ChangeSpec := { name := "vecTells", fn := fun _ => fun
  | [d1, d2, d3, d4] => { results := [.lit (.bool true)], args := [d1, d2, d3, d4] }
  | _ => none }
def vecTellsRow : OpenClaim := { program := "ytllicjinmlkcfaa", sum := "9faa5e4ad004ac3cfcaec63297a33eb78a976a808325910c054cf25486bce7cc", func := "thrum/thrumlaw02.VecTells", spec := "vecTells", unfollowed := true, recurses := true, apart := false }
def VecTellsSaid : Prop := vecTellsRow.holds Try.pinned (OpenSpec.ofChange vecTellsSpec)

/-- ITS FALSE NEIGHBOUR: 'it returns false'. Refute it at one input. -/
def vecTellsWrong : ChangeSpec := { name := "vecTells", fn := fun _ => fun
  | [d1, d2, d3, d4] => { results := [.lit (.bool false)], args := [d1, d2, d3, d4] }
  | _ => none }
def VecTellsWrongFalsely : Prop := vecTellsRow.holds Try.pinned (OpenSpec.ofChange vecTellsWrong)

/-- 'thrumlaw02.VecBounds': WHATEVER THE INPUT: true; the input reads as it did. -/
def vecBoundsSpec : ChangeSpec := { name := "vecBounds", fn := fun _ => fun
  | [d] => { results := [.lit (.bool true)], args := [d] }
  | _ => none }
def vecBoundsRow : OpenClaim := { program := "ytllicjinmlkcfaa", sum := "9faa5e4ad004ac3cfcaec63297a33eb78a976a808325910c054cf25486bce7cc", func := "thrum/thrumlaw02.VecBounds", spec := "vecBounds", unfollowed := true, recurses := true, apart := false }
def VecBoundsSaid : Prop := vecBoundsRow.holds Try.pinned (OpenSpec.ofChange vecBoundsSpec)

/-- ITS FALSE NEIGHBOUR: 'it returns false'. Refute it at one input. -/
def vecBoundsWrong : ChangeSpec := { name := "vecBounds", fn := fun _ => fun
  | [d] => { results := [.lit (.bool false)], args := [d] }
  | _ => none }
def VecBoundsWrongFalsely : Prop := vecBoundsRow.holds Try.pinned (OpenSpec.ofChange vecBoundsWrong)

/-- 'thrumlaw01.FixAdds': WHATEVER THE INPUT: true; the input reads as it did. -/
def fixAddsSpec : ChangeSpec := { name := "fixAdds", fn := fun _ => fun
  | [d1, d2] => { results := [.lit (.bool true)], args := [d1, d2] }
  | _ => none }
def fixAddsRow : OpenClaim := { program := "ytllicjinmlkcfaa", sum := "9faa5e4ad004ac3cfcaec63297a33eb78a976a808325910c054cf25486bce7cc", func := "thrum/thrumlaw01.FixAdds", spec := "fixAdds", named := ["math/bits.divideError", "math/bits.overflowError"], apart := false }
def FixAddsSaid : Prop := fixAddsRow.holds Try.pinned (OpenSpec.ofChange fixAddsSpec)

/-- ITS FALSE NEIGHBOUR: 'it returns false'. Refute it at one input. -/
def fixAddsWrong : ChangeSpec := { name := "fixAdds", fn := fun _ => fun
  | [d1, d2] => { results := [.lit (.bool false)], args := [d1, d2] }
  | _ => none }
def FixAddsWrongFalsely : Prop := fixAddsRow.holds Try.pinned (OpenSpec.ofChange fixAddsWrong)

/-- 'thrumlaw02.VecReckons': WHATEVER THE INPUT: true; the input reads as it did. -/
def vecReckonsSpec : ChangeSpec := { name := "vecReckons", fn := fun _ => fun
  | [d1, d2, d3, d4, d5] => { results := [.lit (.bool true)], args := [d1, d2, d3, d4, d5] }
  | _ => none }
def vecReckonsRow : OpenClaim := { program := "ytllicjinmlkcfaa", sum := "9faa5e4ad004ac3cfcaec63297a33eb78a976a808325910c054cf25486bce7cc", func := "thrum/thrumlaw02.VecReckons", spec := "vecReckons", unfollowed := true, recurses := true, apart := false }
def VecReckonsSaid : Prop := vecReckonsRow.holds Try.pinned (OpenSpec.ofChange vecReckonsSpec)

/-- ITS FALSE NEIGHBOUR: 'it returns false'. Refute it at one input. -/
def vecReckonsWrong : ChangeSpec := { name := "vecReckons", fn := fun _ => fun
  | [d1, d2, d3, d4, d5] => { results := [.lit (.bool false)], args := [d1, d2, d3, d4, d5] }
  | _ => none }
def VecReckonsWrongFalsely : Prop := vecReckonsRow.holds Try.pinned (OpenSpec.ofChange vecReckonsWrong)

/-- 'thrumlaw11.SignVotes': WHATEVER THE INPUT: true; the input reads as it did. -/
def signVotesSpec : ChangeSpec := { name := "signVotes", fn := fun _ => fun
  | [d1, d2, d3] => { results := [.lit (.bool true)], args := [d1, d2, d3] }
  | _ => none }
def signVotesRow : OpenClaim := { program := "ytllicjinmlkcfaa", sum := "9faa5e4ad004ac3cfcaec63297a33eb78a976a808325910c054cf25486bce7cc", func := "thrum/thrumlaw11.SignVotes", spec := "signVotes", unfollowed := true, recurses := true, apart := false }
def SignVotesSaid : Prop := signVotesRow.holds Try.pinned (OpenSpec.ofChange signVotesSpec)

/-- ITS FALSE NEIGHBOUR: 'it returns false'. Refute it at one input. -/
def signVotesWrong : ChangeSpec := { name := "signVotes", fn := fun _ => fun
  | [d1, d2, d3] => { results := [.lit (.bool false)], args := [d1, d2, d3] }
  | _ => none }
def SignVotesWrongFalsely : Prop := signVotesRow.holds Try.pinned (OpenSpec.ofChange signVotesWrong)

/-- 'thrumlaw11.SignMost': WHATEVER THE INPUT: true; the input reads as it did. -/
def signMostSpec : ChangeSpec := { name := "signMost", fn := fun _ => fun
  | [d1, d2, d3] => { results := [.lit (.bool true)], args := [d1, d2, d3] }
  | _ => none }
def signMostRow : OpenClaim := { program := "ytllicjinmlkcfaa", sum := "9faa5e4ad004ac3cfcaec63297a33eb78a976a808325910c054cf25486bce7cc", func := "thrum/thrumlaw11.SignMost", spec := "signMost", unfollowed := true, recurses := true, apart := false }
def SignMostSaid : Prop := signMostRow.holds Try.pinned (OpenSpec.ofChange signMostSpec)

/-- ITS FALSE NEIGHBOUR: 'it returns false'. Refute it at one input. -/
def signMostWrong : ChangeSpec := { name := "signMost", fn := fun _ => fun
  | [d1, d2, d3] => { results := [.lit (.bool false)], args := [d1, d2, d3] }
  | _ => none }
def SignMostWrongFalsely : Prop := signMostRow.holds Try.pinned (OpenSpec.ofChange signMostWrong)

/- THE SECOND FORM. 'bulk': how many values and letters a reading holds, each counted each time it is reached (what is shared counts as often as it is met; a slice's spare places count too). A statement '..UptoSaid' is the law's where the arguments, and the package variables that the reading takes, are together of bulk at most 1048576: NARROWER than '..Said'. Prove '..Said' where nothing that the law and all that it calls make is longer than what came in: it says more and counts as full. Else prove '..UptoSaid'. A law counts once. -/
mutual
def uptoBulk {H : Type} : DataW H → Nat
  | .lit (.string bytes) => bytes.length + 1
  | .lit _ => 1
  | .nil => 1
  | .ptr d => uptoBulk d + 1
  | .slice elems spare => uptoBulkAll elems + uptoBulkAll spare + 1
  | .agg parts => uptoBulkAll parts + 1
  | .iface _ d => uptoBulk d + 1
  | .map entries => uptoBulkEntries entries + 1
  | .held _ => 1
def uptoBulkAll {H : Type} : List (DataW H) → Nat
  | [] => 0
  | d :: r => uptoBulk d + uptoBulkAll r
def uptoBulkEntries {H : Type} : List (Lit × DataW H) → Nat
  | [] => 0
  | x :: r => uptoBulkEntry x + uptoBulkEntries r
def uptoBulkEntry {H : Type} : Lit × DataW H → Nat
  | (.string bytes, d) => bytes.length + uptoBulk d + 1
  | (_, d) => uptoBulk d + 1
 end
def uptoSmall : (H : Type) → List (DataW H) → Bool := fun _ ds => decide (uptoBulkAll ds ≤ 1048576)
def OpenSpec.upto (s : _root_.Go.ChangeSpec) : _root_.Go.OpenSpec := { _root_.Go.OpenSpec.ofChange s with cond := some uptoSmall }

/-- 'thrumlaw02.VecDots', WHERE WHAT IT READS IS OF BULK AT MOST 1048576: true; the input reads as it did. -/
def vecDotsUptoRow : OpenClaim := { program := "ytllicjinmlkcfaa", sum := "9faa5e4ad004ac3cfcaec63297a33eb78a976a808325910c054cf25486bce7cc", func := "thrum/thrumlaw02.VecDots", spec := "vecDots", unfollowed := true, recurses := true, apart := false, narrowed := true }
def VecDotsUptoSaid : Prop := vecDotsUptoRow.holds Try.pinned (OpenSpec.upto vecDotsSpec)

/-- 'thrumlaw01.FixSmall', WHERE WHAT IT READS IS OF BULK AT MOST 1048576: true; the input reads as it did. -/
def fixSmallUptoRow : OpenClaim := { program := "ytllicjinmlkcfaa", sum := "9faa5e4ad004ac3cfcaec63297a33eb78a976a808325910c054cf25486bce7cc", func := "thrum/thrumlaw01.FixSmall", spec := "fixSmall", named := ["math/bits.divideError", "math/bits.overflowError"], apart := false, narrowed := true }
def FixSmallUptoSaid : Prop := fixSmallUptoRow.holds Try.pinned (OpenSpec.upto fixSmallSpec)

/-- 'thrumlaw01.FixShifts', WHERE WHAT IT READS IS OF BULK AT MOST 1048576: true; the input reads as it did. -/
def fixShiftsUptoRow : OpenClaim := { program := "ytllicjinmlkcfaa", sum := "9faa5e4ad004ac3cfcaec63297a33eb78a976a808325910c054cf25486bce7cc", func := "thrum/thrumlaw01.FixShifts", spec := "fixShifts", named := ["math/bits.divideError", "math/bits.overflowError"], apart := false, narrowed := true }
def FixShiftsUptoSaid : Prop := fixShiftsUptoRow.holds Try.pinned (OpenSpec.upto fixShiftsSpec)

/-- 'thrumlaw02.VecBack', WHERE WHAT IT READS IS OF BULK AT MOST 1048576: true; the input reads as it did. -/
def vecBackUptoRow : OpenClaim := { program := "ytllicjinmlkcfaa", sum := "9faa5e4ad004ac3cfcaec63297a33eb78a976a808325910c054cf25486bce7cc", func := "thrum/thrumlaw02.VecBack", spec := "vecBack", unfollowed := true, recurses := true, apart := false, narrowed := true }
def VecBackUptoSaid : Prop := vecBackUptoRow.holds Try.pinned (OpenSpec.upto vecBackSpec)

/-- 'thrumlaw01.FixNegs', WHERE WHAT IT READS IS OF BULK AT MOST 1048576: true; the input reads as it did. -/
def fixNegsUptoRow : OpenClaim := { program := "ytllicjinmlkcfaa", sum := "9faa5e4ad004ac3cfcaec63297a33eb78a976a808325910c054cf25486bce7cc", func := "thrum/thrumlaw01.FixNegs", spec := "fixNegs", named := ["math/bits.divideError", "math/bits.overflowError"], apart := false, narrowed := true }
def FixNegsUptoSaid : Prop := fixNegsUptoRow.holds Try.pinned (OpenSpec.upto fixNegsSpec)

/-- 'thrumlaw01.FixTimes', WHERE WHAT IT READS IS OF BULK AT MOST 1048576: true; the input reads as it did. -/
def fixTimesUptoRow : OpenClaim := { program := "ytllicjinmlkcfaa", sum := "9faa5e4ad004ac3cfcaec63297a33eb78a976a808325910c054cf25486bce7cc", func := "thrum/thrumlaw01.FixTimes", spec := "fixTimes", named := ["math/bits.divideError", "math/bits.overflowError"], apart := false, narrowed := true }
def FixTimesUptoSaid : Prop := fixTimesUptoRow.holds Try.pinned (OpenSpec.upto fixTimesSpec)

/-- 'thrumlaw01.FixWide', WHERE WHAT IT READS IS OF BULK AT MOST 1048576: true; the input reads as it did. -/
def fixWideUptoRow : OpenClaim := { program := "ytllicjinmlkcfaa", sum := "9faa5e4ad004ac3cfcaec63297a33eb78a976a808325910c054cf25486bce7cc", func := "thrum/thrumlaw01.FixWide", spec := "fixWide", named := ["math/bits.divideError", "math/bits.overflowError"], apart := false, narrowed := true }
def FixWideUptoSaid : Prop := fixWideUptoRow.holds Try.pinned (OpenSpec.upto fixWideSpec)

/-- 'thrumlaw11.SignTurned', WHERE WHAT IT READS IS OF BULK AT MOST 1048576: true; the input reads as it did. -/
def signTurnedUptoRow : OpenClaim := { program := "ytllicjinmlkcfaa", sum := "9faa5e4ad004ac3cfcaec63297a33eb78a976a808325910c054cf25486bce7cc", func := "thrum/thrumlaw11.SignTurned", spec := "signTurned", unfollowed := true, recurses := true, apart := false, narrowed := true }
def SignTurnedUptoSaid : Prop := signTurnedUptoRow.holds Try.pinned (OpenSpec.upto signTurnedSpec)

/-- 'thrumlaw11.SignScaled', WHERE WHAT IT READS IS OF BULK AT MOST 1048576: true; the input reads as it did. -/
def signScaledUptoRow : OpenClaim := { program := "ytllicjinmlkcfaa", sum := "9faa5e4ad004ac3cfcaec63297a33eb78a976a808325910c054cf25486bce7cc", func := "thrum/thrumlaw11.SignScaled", spec := "signScaled", unfollowed := true, recurses := true, apart := false, narrowed := true }
def SignScaledUptoSaid : Prop := signScaledUptoRow.holds Try.pinned (OpenSpec.upto signScaledSpec)

/-- 'thrumlaw01.FixBack', WHERE WHAT IT READS IS OF BULK AT MOST 1048576: true; the input reads as it did. -/
def fixBackUptoRow : OpenClaim := { program := "ytllicjinmlkcfaa", sum := "9faa5e4ad004ac3cfcaec63297a33eb78a976a808325910c054cf25486bce7cc", func := "thrum/thrumlaw01.FixBack", spec := "fixBack", named := ["math/bits.divideError", "math/bits.overflowError"], apart := false, narrowed := true }
def FixBackUptoSaid : Prop := fixBackUptoRow.holds Try.pinned (OpenSpec.upto fixBackSpec)

/-- 'thrumlaw02.VecScales', WHERE WHAT IT READS IS OF BULK AT MOST 1048576: true; the input reads as it did. -/
def vecScalesUptoRow : OpenClaim := { program := "ytllicjinmlkcfaa", sum := "9faa5e4ad004ac3cfcaec63297a33eb78a976a808325910c054cf25486bce7cc", func := "thrum/thrumlaw02.VecScales", spec := "vecScales", unfollowed := true, recurses := true, apart := false, narrowed := true }
def VecScalesUptoSaid : Prop := vecScalesUptoRow.holds Try.pinned (OpenSpec.upto vecScalesSpec)

/-- 'thrumlaw11.SignPresses', WHERE WHAT IT READS IS OF BULK AT MOST 1048576: true; the input reads as it did. -/
def signPressesUptoRow : OpenClaim := { program := "ytllicjinmlkcfaa", sum := "9faa5e4ad004ac3cfcaec63297a33eb78a976a808325910c054cf25486bce7cc", func := "thrum/thrumlaw11.SignPresses", spec := "signPresses", unfollowed := true, recurses := true, apart := false, narrowed := true }
def SignPressesUptoSaid : Prop := signPressesUptoRow.holds Try.pinned (OpenSpec.upto signPressesSpec)

/-- 'thrumlaw11.SignLoosens', WHERE WHAT IT READS IS OF BULK AT MOST 1048576: true; the input reads as it did. -/
def signLoosensUptoRow : OpenClaim := { program := "ytllicjinmlkcfaa", sum := "9faa5e4ad004ac3cfcaec63297a33eb78a976a808325910c054cf25486bce7cc", func := "thrum/thrumlaw11.SignLoosens", spec := "signLoosens", unfollowed := true, recurses := true, apart := false, narrowed := true }
def SignLoosensUptoSaid : Prop := signLoosensUptoRow.holds Try.pinned (OpenSpec.upto signLoosensSpec)

/-- 'thrumlaw01.FixClips', WHERE WHAT IT READS IS OF BULK AT MOST 1048576: true; the input reads as it did. -/
def fixClipsUptoRow : OpenClaim := { program := "ytllicjinmlkcfaa", sum := "9faa5e4ad004ac3cfcaec63297a33eb78a976a808325910c054cf25486bce7cc", func := "thrum/thrumlaw01.FixClips", spec := "fixClips", named := ["math/bits.divideError", "math/bits.overflowError"], apart := false, narrowed := true }
def FixClipsUptoSaid : Prop := fixClipsUptoRow.holds Try.pinned (OpenSpec.upto fixClipsSpec)

/-- 'thrumlaw02.VecSums', WHERE WHAT IT READS IS OF BULK AT MOST 1048576: true; the input reads as it did. -/
def vecSumsUptoRow : OpenClaim := { program := "ytllicjinmlkcfaa", sum := "9faa5e4ad004ac3cfcaec63297a33eb78a976a808325910c054cf25486bce7cc", func := "thrum/thrumlaw02.VecSums", spec := "vecSums", unfollowed := true, recurses := true, apart := false, narrowed := true }
def VecSumsUptoSaid : Prop := vecSumsUptoRow.holds Try.pinned (OpenSpec.upto vecSumsSpec)

/-- 'thrumlaw02.VecTells', WHERE WHAT IT READS IS OF BULK AT MOST 1048576: true; the input reads as it did. -/
def vecTellsUptoRow : OpenClaim := { program := "ytllicjinmlkcfaa", sum := "9faa5e4ad004ac3cfcaec63297a33eb78a976a808325910c054cf25486bce7cc", func := "thrum/thrumlaw02.VecTells", spec := "vecTells", unfollowed := true, recurses := true, apart := false, narrowed := true }
def VecTellsUptoSaid : Prop := vecTellsUptoRow.holds Try.pinned (OpenSpec.upto vecTellsSpec)

/-- 'thrumlaw02.VecBounds', WHERE WHAT IT READS IS OF BULK AT MOST 1048576: true; the input reads as it did. -/
def vecBoundsUptoRow : OpenClaim := { program := "ytllicjinmlkcfaa", sum := "9faa5e4ad004ac3cfcaec63297a33eb78a976a808325910c054cf25486bce7cc", func := "thrum/thrumlaw02.VecBounds", spec := "vecBounds", unfollowed := true, recurses := true, apart := false, narrowed := true }
def VecBoundsUptoSaid : Prop := vecBoundsUptoRow.holds Try.pinned (OpenSpec.upto vecBoundsSpec)

/-- 'thrumlaw01.FixAdds', WHERE WHAT IT READS IS OF BULK AT MOST 1048576: true; the input reads as it did. -/
def fixAddsUptoRow : OpenClaim := { program := "ytllicjinmlkcfaa", sum := "9faa5e4ad004ac3cfcaec63297a33eb78a976a808325910c054cf25486bce7cc", func := "thrum/thrumlaw01.FixAdds", spec := "fixAdds", named := ["math/bits.divideError", "math/bits.overflowError"], apart := false, narrowed := true }
def FixAddsUptoSaid : Prop := fixAddsUptoRow.holds Try.pinned (OpenSpec.upto fixAddsSpec)

/-- 'thrumlaw02.VecReckons', WHERE WHAT IT READS IS OF BULK AT MOST 1048576: true; the input reads as it did. -/
def vecReckonsUptoRow : OpenClaim := { program := "ytllicjinmlkcfaa", sum := "9faa5e4ad004ac3cfcaec63297a33eb78a976a808325910c054cf25486bce7cc", func := "thrum/thrumlaw02.VecReckons", spec := "vecReckons", unfollowed := true, recurses := true, apart := false, narrowed := true }
def VecReckonsUptoSaid : Prop := vecReckonsUptoRow.holds Try.pinned (OpenSpec.upto vecReckonsSpec)

/-- 'thrumlaw11.SignVotes', WHERE WHAT IT READS IS OF BULK AT MOST 1048576: true; the input reads as it did. -/
def signVotesUptoRow : OpenClaim := { program := "ytllicjinmlkcfaa", sum := "9faa5e4ad004ac3cfcaec63297a33eb78a976a808325910c054cf25486bce7cc", func := "thrum/thrumlaw11.SignVotes", spec := "signVotes", unfollowed := true, recurses := true, apart := false, narrowed := true }
def SignVotesUptoSaid : Prop := signVotesUptoRow.holds Try.pinned (OpenSpec.upto signVotesSpec)

/-- 'thrumlaw11.SignMost', WHERE WHAT IT READS IS OF BULK AT MOST 1048576: true; the input reads as it did. -/
def signMostUptoRow : OpenClaim := { program := "ytllicjinmlkcfaa", sum := "9faa5e4ad004ac3cfcaec63297a33eb78a976a808325910c054cf25486bce7cc", func := "thrum/thrumlaw11.SignMost", spec := "signMost", unfollowed := true, recurses := true, apart := false, narrowed := true }
def SignMostUptoSaid : Prop := signMostUptoRow.holds Try.pinned (OpenSpec.upto signMostSpec)

end Rows
end Go.Proofs.Ytllicjinmlkcfaa
