/-
  No cell of these rows narrows 'for every input' (looked for: loops, veiled, ifaces, maps, wideKeys, modest, calm, conditions, laid).
  DERIVED. THE GIVEN ROWS OF THIS SEAT. 3 by the template 'for every input the law returns true; each argument reads behind the call as it read before'; 0 by the template 'total and deterministic' (their statements: YtbnfejaeekljcaaTotals.lean).
  GIVEN WITH THE SEED: the statements are not yours to turn. If you find one false, say at which input.
  Laid BY PROGRAM, IN A SANDBOX (cutbox-rows.mjs): the forced cells as the released guide's own fill.sh prints them over the translation 945bede6ad456e56… (all of the seat's roots in one cut). By AI agents, Wed Nov 11 2026. No macro, syntax, notation, axiom, sorry.
-/
import Derived.Test.YtbnfejaeekljcaaChecked
import GoSem.Claim
import GoSem.ClaimJoined
import GoSem.ClaimMapViews
import Derived.JoinedTies
import Derived.KernelRfl
namespace Go.Proofs.Ytbnfejaeekljcaa
/- THE CELL 'sum', in the pinned program and in every row, IS THE sha256 OF THE DUMP (.gsa) THAT YtbnfejaeekljcaaProg.lean LOADS. Nothing in Lean hashes anything: it is a label: what it is worth is what the hold of that sum in a sandbox is worth. -/
noncomputable def Try.pinned : Pinned := { name := "ytbnfejaeekljcaa", sum := "945bede6ad456e568e51280c73b20eeee6d0a7c7c4067b197dd875b7913a70a0", checked := Try.checked }
namespace Rows
def none {H : Type} : Left H := { results := [], args := [] }

/-- 'thrumlaw17.ModelStarts': WHATEVER THE INPUT: true; the input reads as it did. -/
def modelStartsSpec : ChangeSpec := { name := "modelStarts", fn := fun _ => fun
  | [d1, d2] => { results := [.lit (.bool true)], args := [d1, d2] }
  | _ => none }
def modelStartsRow : OpenClaim := { program := "ytbnfejaeekljcaa", sum := "945bede6ad456e568e51280c73b20eeee6d0a7c7c4067b197dd875b7913a70a0", func := "thrum/thrumlaw17.ModelStarts", spec := "modelStarts", unfollowed := true, recurses := true, apart := false }
def ModelStartsSaid : Prop := modelStartsRow.holds Try.pinned (OpenSpec.ofChange modelStartsSpec)

/-- ITS FALSE NEIGHBOUR: 'it returns false'. Refute it at one input. -/
def modelStartsWrong : ChangeSpec := { name := "modelStarts", fn := fun _ => fun
  | [d1, d2] => { results := [.lit (.bool false)], args := [d1, d2] }
  | _ => none }
def ModelStartsWrongFalsely : Prop := modelStartsRow.holds Try.pinned (OpenSpec.ofChange modelStartsWrong)

/-- 'thrumlaw17.ModelClips': WHATEVER THE INPUT: true; the input reads as it did. -/
def modelClipsSpec : ChangeSpec := { name := "modelClips", fn := fun _ => fun
  | [d1, d2, d3, d4] => { results := [.lit (.bool true)], args := [d1, d2, d3, d4] }
  | _ => none }
def modelClipsRow : OpenClaim := { program := "ytbnfejaeekljcaa", sum := "945bede6ad456e568e51280c73b20eeee6d0a7c7c4067b197dd875b7913a70a0", func := "thrum/thrumlaw17.ModelClips", spec := "modelClips", unfollowed := true, recurses := true, apart := false }
def ModelClipsSaid : Prop := modelClipsRow.holds Try.pinned (OpenSpec.ofChange modelClipsSpec)

/-- ITS FALSE NEIGHBOUR: 'it returns false'. Refute it at one input. -/
def modelClipsWrong : ChangeSpec := { name := "modelClips", fn := fun _ => fun
  | [d1, d2, d3, d4] => { results := [.lit (.bool false)], args := [d1, d2, d3, d4] }
  | _ => none }
def ModelClipsWrongFalsely : Prop := modelClipsRow.holds Try.pinned (OpenSpec.ofChange modelClipsWrong)

/-- 'thrumlaw17.ModelKinds': WHATEVER THE INPUT: true; the input reads as it did. -/
def modelKindsSpec : ChangeSpec := { name := "modelKinds", fn := fun _ => fun
  | [d1, d2, d3] => { results := [.lit (.bool true)], args := [d1, d2, d3] }
  | _ => none }
def modelKindsRow : OpenClaim := { program := "ytbnfejaeekljcaa", sum := "945bede6ad456e568e51280c73b20eeee6d0a7c7c4067b197dd875b7913a70a0", func := "thrum/thrumlaw17.ModelKinds", spec := "modelKinds", inPlace := ["math.sqrt"], unfollowed := true, recurses := true, named := ["math/bits.divideError", "math/bits.overflowError"], apart := false }
def ModelKindsSaid : Prop := modelKindsRow.holds Try.pinned (OpenSpec.ofChange modelKindsSpec)

/-- ITS FALSE NEIGHBOUR: 'it returns false'. Refute it at one input. -/
def modelKindsWrong : ChangeSpec := { name := "modelKinds", fn := fun _ => fun
  | [d1, d2, d3] => { results := [.lit (.bool false)], args := [d1, d2, d3] }
  | _ => none }
def ModelKindsWrongFalsely : Prop := modelKindsRow.holds Try.pinned (OpenSpec.ofChange modelKindsWrong)

/- THE SECOND FORM. 'bulk': how many values and letters a reading holds, each counted each time it is reached (what is shared counts as often as it is met; a slice's spare places count too). A statement '..UptoSaid' is the law's where the arguments, and the package variables that the reading takes, are together of bulk at most 1048576: NARROWER than '..Said'. Prove '..Said' where nothing that the law and all that it calls make is longer than what came in: it says more and counts as full. Else prove '..UptoSaid'. A law counts once. -/
mutual
def uptoBulk {H : Type} : DataW H → Nat
  | .lit (.string bytes) => bytes.length + 1
  | .lit _ => 1
  | .nil => 1
  | .ptr d => uptoBulk d + 1
  | .slice elems spare => uptoBulkAll elems + uptoBulkAll spare + 1
  | .agg parts => uptoBulkAll parts + 1
  | .iface _ d => uptoBulk d + 1
  | .map entries => uptoBulkEntries entries + 1
  | .held _ => 1
def uptoBulkAll {H : Type} : List (DataW H) → Nat
  | [] => 0
  | d :: r => uptoBulk d + uptoBulkAll r
def uptoBulkEntries {H : Type} : List (Lit × DataW H) → Nat
  | [] => 0
  | x :: r => uptoBulkEntry x + uptoBulkEntries r
def uptoBulkEntry {H : Type} : Lit × DataW H → Nat
  | (.string bytes, d) => bytes.length + uptoBulk d + 1
  | (_, d) => uptoBulk d + 1
 end
def uptoSmall : (H : Type) → List (DataW H) → Bool := fun _ ds => decide (uptoBulkAll ds ≤ 1048576)
def OpenSpec.upto (s : _root_.Go.ChangeSpec) : _root_.Go.OpenSpec := { _root_.Go.OpenSpec.ofChange s with cond := some uptoSmall }

/-- 'thrumlaw17.ModelStarts', WHERE WHAT IT READS IS OF BULK AT MOST 1048576: true; the input reads as it did. -/
def modelStartsUptoRow : OpenClaim := { program := "ytbnfejaeekljcaa", sum := "945bede6ad456e568e51280c73b20eeee6d0a7c7c4067b197dd875b7913a70a0", func := "thrum/thrumlaw17.ModelStarts", spec := "modelStarts", unfollowed := true, recurses := true, apart := false, narrowed := true }
def ModelStartsUptoSaid : Prop := modelStartsUptoRow.holds Try.pinned (OpenSpec.upto modelStartsSpec)

/-- 'thrumlaw17.ModelClips', WHERE WHAT IT READS IS OF BULK AT MOST 1048576: true; the input reads as it did. -/
def modelClipsUptoRow : OpenClaim := { program := "ytbnfejaeekljcaa", sum := "945bede6ad456e568e51280c73b20eeee6d0a7c7c4067b197dd875b7913a70a0", func := "thrum/thrumlaw17.ModelClips", spec := "modelClips", unfollowed := true, recurses := true, apart := false, narrowed := true }
def ModelClipsUptoSaid : Prop := modelClipsUptoRow.holds Try.pinned (OpenSpec.upto modelClipsSpec)

/-- 'thrumlaw17.ModelKinds', WHERE WHAT IT READS IS OF BULK AT MOST 1048576: true; the input reads as it did. -/
def modelKindsUptoRow : OpenClaim := { program := "ytbnfejaeekljcaa", sum := "945bede6ad456e568e51280c73b20eeee6d0a7c7c4067b197dd875b7913a70a0", func := "thrum/thrumlaw17.ModelKinds", spec := "modelKinds", inPlace := ["math.sqrt"], unfollowed := true, recurses := true, named := ["math/bits.divideError", "math/bits.overflowError"], apart := false, narrowed := true }
def ModelKindsUptoSaid : Prop := modelKindsUptoRow.holds Try.pinned (OpenSpec.upto modelKindsSpec)

end Rows
end Go.Proofs.Ytbnfejaeekljcaa
