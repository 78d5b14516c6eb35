/-
  No cell of these rows narrows 'for every input' (looked for: loops, veiled, ifaces, maps, wideKeys, modest, calm, conditions, laid).
  DERIVED. THE GIVEN ROWS OF THIS SEAT. 5 by the template 'for every input the law returns true; each argument reads behind the call as it read before'; 0 by the template 'total and deterministic' (their statements: YtalamamjodihaaaTotals.lean).
  GIVEN WITH THE SEED: the statements are not yours to turn. If you find one false, say at which input.
  Laid BY PROGRAM, IN A SANDBOX (cutbox-rows.mjs): the forced cells as the released guide's own fill.sh prints them over the translation a39ad30ab4b2ccdc… (all of the seat's roots in one cut). By AI agents, Wed Nov 11 2026. No macro, syntax, notation, axiom, sorry.
-/
import Derived.Test.YtalamamjodihaaaChecked
import GoSem.Claim
import GoSem.ClaimJoined
import GoSem.ClaimMapViews
import Derived.JoinedTies
import Derived.KernelRfl
namespace Go.Proofs.Ytalamamjodihaaa
/- THE CELL 'sum', in the pinned program and in every row, IS THE sha256 OF THE DUMP (.gsa) THAT YtalamamjodihaaaProg.lean LOADS. Nothing in Lean hashes anything: it is a label: what it is worth is what the hold of that sum in a sandbox is worth. -/
noncomputable def Try.pinned : Pinned := { name := "ytalamamjodihaaa", sum := "a39ad30ab4b2ccdc9070c9ba8d9e6ed206709b562aee996b5ca351d835563cd1", checked := Try.checked }
namespace Rows
def none {H : Type} : Left H := { results := [], args := [] }

/-- 'thrumlaw16.MlpHides': WHATEVER THE INPUT: true; the input reads as it did. -/
def mlpHidesSpec : ChangeSpec := { name := "mlpHides", fn := fun _ => fun
  | [d1, d2, d3, d4] => { results := [.lit (.bool true)], args := [d1, d2, d3, d4] }
  | _ => none }
def mlpHidesRow : OpenClaim := { program := "ytalamamjodihaaa", sum := "a39ad30ab4b2ccdc9070c9ba8d9e6ed206709b562aee996b5ca351d835563cd1", func := "thrum/thrumlaw16.MlpHides", spec := "mlpHides", unfollowed := true, recurses := true, apart := false }
def MlpHidesSaid : Prop := mlpHidesRow.holds Try.pinned (OpenSpec.ofChange mlpHidesSpec)

/-- ITS FALSE NEIGHBOUR: 'it returns false'. Refute it at one input. -/
def mlpHidesWrong : ChangeSpec := { name := "mlpHides", fn := fun _ => fun
  | [d1, d2, d3, d4] => { results := [.lit (.bool false)], args := [d1, d2, d3, d4] }
  | _ => none }
def MlpHidesWrongFalsely : Prop := mlpHidesRow.holds Try.pinned (OpenSpec.ofChange mlpHidesWrong)

/-- 'thrumlaw16.MlpTells': WHATEVER THE INPUT: true; the input reads as it did. -/
def mlpTellsSpec : ChangeSpec := { name := "mlpTells", fn := fun _ => fun
  | [d1, d2, d3, d4, d5] => { results := [.lit (.bool true)], args := [d1, d2, d3, d4, d5] }
  | _ => none }
def mlpTellsRow : OpenClaim := { program := "ytalamamjodihaaa", sum := "a39ad30ab4b2ccdc9070c9ba8d9e6ed206709b562aee996b5ca351d835563cd1", func := "thrum/thrumlaw16.MlpTells", spec := "mlpTells", unfollowed := true, recurses := true, apart := false }
def MlpTellsSaid : Prop := mlpTellsRow.holds Try.pinned (OpenSpec.ofChange mlpTellsSpec)

/-- ITS FALSE NEIGHBOUR: 'it returns false'. Refute it at one input. -/
def mlpTellsWrong : ChangeSpec := { name := "mlpTells", fn := fun _ => fun
  | [d1, d2, d3, d4, d5] => { results := [.lit (.bool false)], args := [d1, d2, d3, d4, d5] }
  | _ => none }
def MlpTellsWrongFalsely : Prop := mlpTellsRow.holds Try.pinned (OpenSpec.ofChange mlpTellsWrong)

/-- 'thrumlaw16.MlpRight': WHATEVER THE INPUT: true; the input reads as it did. -/
def mlpRightSpec : ChangeSpec := { name := "mlpRight", fn := fun _ => fun
  | [d1, d2, d3, d4] => { results := [.lit (.bool true)], args := [d1, d2, d3, d4] }
  | _ => none }
def mlpRightRow : OpenClaim := { program := "ytalamamjodihaaa", sum := "a39ad30ab4b2ccdc9070c9ba8d9e6ed206709b562aee996b5ca351d835563cd1", func := "thrum/thrumlaw16.MlpRight", spec := "mlpRight", unfollowed := true, recurses := true, named := ["math/bits.divideError", "math/bits.overflowError"], apart := false }
def MlpRightSaid : Prop := mlpRightRow.holds Try.pinned (OpenSpec.ofChange mlpRightSpec)

/-- ITS FALSE NEIGHBOUR: 'it returns false'. Refute it at one input. -/
def mlpRightWrong : ChangeSpec := { name := "mlpRight", fn := fun _ => fun
  | [d1, d2, d3, d4] => { results := [.lit (.bool false)], args := [d1, d2, d3, d4] }
  | _ => none }
def MlpRightWrongFalsely : Prop := mlpRightRow.holds Try.pinned (OpenSpec.ofChange mlpRightWrong)

/-- 'thrumlaw16.MlpBends': WHATEVER THE INPUT: true; the input reads as it did. -/
def mlpBendsSpec : ChangeSpec := { name := "mlpBends", fn := fun _ => fun
  | [d1, d2, d3, d4, d5] => { results := [.lit (.bool true)], args := [d1, d2, d3, d4, d5] }
  | _ => none }
def mlpBendsRow : OpenClaim := { program := "ytalamamjodihaaa", sum := "a39ad30ab4b2ccdc9070c9ba8d9e6ed206709b562aee996b5ca351d835563cd1", func := "thrum/thrumlaw16.MlpBends", spec := "mlpBends", unfollowed := true, recurses := true, named := ["math/bits.divideError", "math/bits.overflowError"], apart := false }
def MlpBendsSaid : Prop := mlpBendsRow.holds Try.pinned (OpenSpec.ofChange mlpBendsSpec)

/-- ITS FALSE NEIGHBOUR: 'it returns false'. Refute it at one input. -/
def mlpBendsWrong : ChangeSpec := { name := "mlpBends", fn := fun _ => fun
  | [d1, d2, d3, d4, d5] => { results := [.lit (.bool false)], args := [d1, d2, d3, d4, d5] }
  | _ => none }
def MlpBendsWrongFalsely : Prop := mlpBendsRow.holds Try.pinned (OpenSpec.ofChange mlpBendsWrong)

/-- 'thrumlaw16.MlpTurns': WHATEVER THE INPUT: true; the input reads as it did. -/
def mlpTurnsSpec : ChangeSpec := { name := "mlpTurns", fn := fun _ => fun
  | [d1, d2, d3] => { results := [.lit (.bool true)], args := [d1, d2, d3] }
  | _ => none }
def mlpTurnsRow : OpenClaim := { program := "ytalamamjodihaaa", sum := "a39ad30ab4b2ccdc9070c9ba8d9e6ed206709b562aee996b5ca351d835563cd1", func := "thrum/thrumlaw16.MlpTurns", spec := "mlpTurns", unfollowed := true, recurses := true, named := ["math/bits.divideError", "math/bits.overflowError"], apart := false }
def MlpTurnsSaid : Prop := mlpTurnsRow.holds Try.pinned (OpenSpec.ofChange mlpTurnsSpec)

/-- ITS FALSE NEIGHBOUR: 'it returns false'. Refute it at one input. -/
def mlpTurnsWrong : ChangeSpec := { name := "mlpTurns", fn := fun _ => fun
  | [d1, d2, d3] => { results := [.lit (.bool false)], args := [d1, d2, d3] }
  | _ => none }
def MlpTurnsWrongFalsely : Prop := mlpTurnsRow.holds Try.pinned (OpenSpec.ofChange mlpTurnsWrong)

/- THE SECOND FORM. 'bulk': how many values and letters a reading holds, each counted each time it is reached (what is shared counts as often as it is met; a slice's spare places count too). A statement '..UptoSaid' is the law's where the arguments, and the package variables that the reading takes, are together of bulk at most 1048576: NARROWER than '..Said'. Prove '..Said' where nothing that the law and all that it calls make is longer than what came in: it says more and counts as full. Else prove '..UptoSaid'. A law counts once. -/
mutual
def uptoBulk {H : Type} : DataW H → Nat
  | .lit (.string bytes) => bytes.length + 1
  | .lit _ => 1
  | .nil => 1
  | .ptr d => uptoBulk d + 1
  | .slice elems spare => uptoBulkAll elems + uptoBulkAll spare + 1
  | .agg parts => uptoBulkAll parts + 1
  | .iface _ d => uptoBulk d + 1
  | .map entries => uptoBulkEntries entries + 1
  | .held _ => 1
def uptoBulkAll {H : Type} : List (DataW H) → Nat
  | [] => 0
  | d :: r => uptoBulk d + uptoBulkAll r
def uptoBulkEntries {H : Type} : List (Lit × DataW H) → Nat
  | [] => 0
  | x :: r => uptoBulkEntry x + uptoBulkEntries r
def uptoBulkEntry {H : Type} : Lit × DataW H → Nat
  | (.string bytes, d) => bytes.length + uptoBulk d + 1
  | (_, d) => uptoBulk d + 1
 end
def uptoSmall : (H : Type) → List (DataW H) → Bool := fun _ ds => decide (uptoBulkAll ds ≤ 1048576)
def OpenSpec.upto (s : _root_.Go.ChangeSpec) : _root_.Go.OpenSpec := { _root_.Go.OpenSpec.ofChange s with cond := some uptoSmall }

/-- 'thrumlaw16.MlpHides', WHERE WHAT IT READS IS OF BULK AT MOST 1048576: true; the input reads as it did. -/
def mlpHidesUptoRow : OpenClaim := { program := "ytalamamjodihaaa", sum := "a39ad30ab4b2ccdc9070c9ba8d9e6ed206709b562aee996b5ca351d835563cd1", func := "thrum/thrumlaw16.MlpHides", spec := "mlpHides", unfollowed := true, recurses := true, apart := false, narrowed := true }
def MlpHidesUptoSaid : Prop := mlpHidesUptoRow.holds Try.pinned (OpenSpec.upto mlpHidesSpec)

/-- 'thrumlaw16.MlpTells', WHERE WHAT IT READS IS OF BULK AT MOST 1048576: true; the input reads as it did. -/
def mlpTellsUptoRow : OpenClaim := { program := "ytalamamjodihaaa", sum := "a39ad30ab4b2ccdc9070c9ba8d9e6ed206709b562aee996b5ca351d835563cd1", func := "thrum/thrumlaw16.MlpTells", spec := "mlpTells", unfollowed := true, recurses := true, apart := false, narrowed := true }
def MlpTellsUptoSaid : Prop := mlpTellsUptoRow.holds Try.pinned (OpenSpec.upto mlpTellsSpec)

/-- 'thrumlaw16.MlpRight', WHERE WHAT IT READS IS OF BULK AT MOST 1048576: true; the input reads as it did. -/
def mlpRightUptoRow : OpenClaim := { program := "ytalamamjodihaaa", sum := "a39ad30ab4b2ccdc9070c9ba8d9e6ed206709b562aee996b5ca351d835563cd1", func := "thrum/thrumlaw16.MlpRight", spec := "mlpRight", unfollowed := true, recurses := true, named := ["math/bits.divideError", "math/bits.overflowError"], apart := false, narrowed := true }
def MlpRightUptoSaid : Prop := mlpRightUptoRow.holds Try.pinned (OpenSpec.upto mlpRightSpec)

/-- 'thrumlaw16.MlpBends', WHERE WHAT IT READS IS OF BULK AT MOST 1048576: true; the input reads as it did. -/
def mlpBendsUptoRow : OpenClaim := { program := "ytalamamjodihaaa", sum := "a39ad30ab4b2ccdc9070c9ba8d9e6ed206709b562aee996b5ca351d835563cd1", func := "thrum/thrumlaw16.MlpBends", spec := "mlpBends", unfollowed := true, recurses := true, named := ["math/bits.divideError", "math/bits.overflowError"], apart := false, narrowed := true }
def MlpBendsUptoSaid : Prop := mlpBendsUptoRow.holds Try.pinned (OpenSpec.upto mlpBendsSpec)

/-- 'thrumlaw16.MlpTurns', WHERE WHAT IT READS IS OF BULK AT MOST 1048576: true; the input reads as it did. -/
def mlpTurnsUptoRow : OpenClaim := { program := "ytalamamjodihaaa", sum := "a39ad30ab4b2ccdc9070c9ba8d9e6ed206709b562aee996b5ca351d835563cd1", func := "thrum/thrumlaw16.MlpTurns", spec := "mlpTurns", unfollowed := true, recurses := true, named := ["math/bits.divideError", "math/bits.overflowError"], apart := false, narrowed := true }
def MlpTurnsUptoSaid : Prop := mlpTurnsUptoRow.holds Try.pinned (OpenSpec.upto mlpTurnsSpec)

end Rows
end Go.Proofs.Ytalamamjodihaaa
