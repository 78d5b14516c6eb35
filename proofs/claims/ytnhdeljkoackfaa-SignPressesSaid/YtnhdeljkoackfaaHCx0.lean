/- What Go functions do, each as a plain Lean function with the same answers, and the proof of it, in every world: printed by the session's driver over the kit's print, with texts by hand. -/
import Derived.Test.YtnhdeljkoackfaaProg
import Derived.Below
import Derived.Deep.Draws
import Derived.Deep.AppendLies
import Derived.Maps.AppendAt
import Derived.OwnWalk
import Derived.Laws.BytesArg
import Derived.Laws.MakeOwn
import Derived.Laws.OwnMore
import Derived.Deep.OwnRows
import Derived.Tactics
import Derived.Lib.ConvBytes
import Derived.Laws.Slices
import Derived.WalkKit
import Derived.KernelRfl
import Derived.RowKit3
import Derived.Deep.LoopGhost
import Derived.Deep.QuietTactic
import Derived.BigQuiet
import Derived.WideLaws
import Derived.Deep.DeepCutAuto
import Derived.Deep.CutBlock
import Derived.Deep.RegionHeld3
import Derived.Laws.Rows
import Derived.Lib.AppendStr
import Derived.ArgAppend
import Derived.Laws.IdiomCopy
import Derived.OrdersHeld
import Derived.Laws.BitsLemmas
import Derived.RowKit
import Derived.Test.YtnhdeljkoackfaaBase
import Derived.Test.YtnhdeljkoackfaaBaseEq
import Derived.Test.YtnhdeljkoackfaaLem
import Derived.Test.YtnhdeljkoackfaaVec
import Derived.Test.YtnhdeljkoackfaaSign
import Derived.Test.YtnhdeljkoackfaaWWords
import Derived.Test.YtnhdeljkoackfaaWLast
import Derived.Test.YtnhdeljkoackfaaWTab
import Derived.Test.YtnhdeljkoackfaaWQPut
import Derived.Test.YtnhdeljkoackfaaWApart
import Derived.Test.YtnhdeljkoackfaaWArr
import Derived.Test.YtnhdeljkoackfaaWZeros
import Derived.Test.YtnhdeljkoackfaaWFoot
import Derived.Test.YtnhdeljkoackfaaWKept
import Derived.Test.YtnhdeljkoackfaaWShare
import Derived.Test.YtnhdeljkoackfaaWN
import Derived.Test.YtnhdeljkoackfaaWRepsOne
import Derived.Test.YtnhdeljkoackfaaWInv
import Derived.Test.YtnhdeljkoackfaaWGuard
import Derived.Test.YtnhdeljkoackfaaWNEv
import Derived.Test.YtnhdeljkoackfaaWMore
namespace Go.Proofs.Ytnhdeljkoackfaa.HC
open Go.RowKit Go.Proofs.YtnhdeljkoackfaaW.PrintWords Go.Proofs.YtnhdeljkoackfaaW.PrintLast Go.Proofs.YtnhdeljkoackfaaW.PrintMore
attribute [local go_sem] max2_int min2_int max_two min_two max_three min_three max_four min_four   -- for this text's walks alone
open Go.Proofs.Ytnhdeljkoackfaa.Sp
attribute [local go_sem] Go.Proofs.Ytnhdeljkoackfaa.Sp.u64_not
set_option linter.unusedVariables false
set_option linter.unusedSimpArgs false



def errW : Option Int → Value
  | none => .nilIface
  | some c => .iface 0 (.int .i64 c)
theorem errW_none : errW none = .nilIface := rfl
theorem errW_some (c : Int) : errW (some c) = .iface 0 (.int .i64 c) := rfl

theorem info2 : (Try.prog.info? 2).map (fun i => (i.zero, i.size, i.bytes)) = some (some (.int .i64 0), 1, 8) := by kernel_rfl
theorem info4 : (Try.prog.info? 4).map (fun i => (i.zero, i.size, i.bytes)) = some (some (.bool false), 1, 1) := by kernel_rfl
-- the values' own types
def rd_L3 (xs : List (List Bool)) (i : Int) : (List Bool) := xs.getD i.toNat ([] : List Bool)
theorem at_L3 {w : World} {A : Option Addr} {n : Nat} {xs : List (List Bool)} (h : Kd.C (Kd.slice 4 Kd.bool) w A n xs) (i : Int) (h0 : 0 ≤ i) (h1 : i < n) : ∃ ad A0 c0, A = some ad ∧ w.cell? (ad.add i.toNat) = some (.slice A0 (rd_L3 xs i).length c0) ∧ (rd_L3 xs i).length ≤ c0 ∧ Kd.bool.C w A0 (rd_L3 xs i).length (rd_L3 xs i) := by
  obtain ⟨ad, c, e, _, hK, hc0⟩ := Kd.C_get h ([] : List Bool) i h0 h1
  have hc : ∀ j u, c[j]? = some u → w.cell? (ad.add (i.toNat * 1 + j)) = some u := hc0
  obtain ⟨A0, c0, rfl, l0, g0⟩ := hK
  exact ⟨ad, A0, c0, e, by have hq := hc 0 _ rfl; rwa [Nat.mul_one, Nat.add_zero] at hq, l0, g0⟩

end Go.Proofs.Ytnhdeljkoackfaa.HC
