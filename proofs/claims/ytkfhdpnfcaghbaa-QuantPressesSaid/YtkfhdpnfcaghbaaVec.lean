/- What vectors come to, as plain lists. No program in sight, but for 'Tells': what a closure tells. -/
import Derived.Test.YtkfhdpnfcaghbaaBase
import Derived.Test.YtkfhdpnfcaghbaaWWords
import Derived.Outline
import Derived.Shelf.Abstract
import Derived.Deep.RegionWith
import Derived.Deep.RegionHeld3
import Derived.StillTailTactics
import Derived.Lib.SliceRun
namespace Go.Proofs.Ytkfhdpnfcaghbaa.Sp
open Go.RowKit Go.Proofs.YtkfhdpnfcaghbaaW.PrintWords

def V64 (l : List Int) : Prop := ∀ x ∈ l, I64 x
instance (l : List Int) : Decidable (V64 l) := by unfold V64; infer_instance
theorem V64.rd {l : List Int} (h : V64 l) (i : Int) : I64 (rd l i) := by
  unfold Go.Proofs.YtkfhdpnfcaghbaaW.PrintWords.rd
  rw [List.getD_eq_getElem?_getD]
  cases hx : l[i.toNat]? with
  | none => exact i64_zero
  | some x => exact h x (List.mem_of_getElem? hx)
theorem V64.nil : V64 [] := by intro x hx; cases hx
theorem V64.append {a b : List Int} (ha : V64 a) (hb : V64 b) : V64 (a ++ b) := by
  intro x hx
  rcases List.mem_append.1 hx with h | h
  · exact ha x h
  · exact hb x h
theorem V64.snoc {a : List Int} {x : Int} (ha : V64 a) (hx : I64 x) : V64 (a ++ [x]) := ha.append (by intro y hy; cases List.mem_singleton.1 hy; exact hx)
theorem v64_of_wf {l : List Int} (h : ∀ x ∈ l, (Lit.int .i64 x).wf = true) : V64 l := fun x hx => i64_of_wf (h x hx)

def mostGo : List (Int × Int) → Int → Int × Int
  | [], m => (m, 0)
  | p :: ps, m => if p.2 = 0 then mostGo ps (if m < p.1 then p.1 else m) else (0, p.2)
def absF (x : Int) : Int × Int := res (x.natAbs : Int)
def checkE (a : List Int) : Int := if a.length > 4096 then 3 else 0
def mostV (a : List Int) : Int × Int := if checkE a = 0 then mostGo (a.map absF) 0 else (0, checkE a)
theorem checkE_le {a : List Int} (h : checkE a = 0) : a.length ≤ 4096 := by
  unfold checkE at h; split at h
  · cases h
  · omega

theorem rd_nat {l : List Int} {i : Nat} (h : i < l.length) : Go.Proofs.YtkfhdpnfcaghbaaW.PrintWords.rd l (i : Int) = l[i] := by
  simp [Go.Proofs.YtkfhdpnfcaghbaaW.PrintWords.rd, List.getD_eq_getElem?_getD, List.getElem?_eq_getElem h]
theorem rdb_nat {l : List Bool} {i : Nat} (h : i < l.length) : rdOf false l (i : Int) = l[i] := by
  simp [rdOf, List.getD_eq_getElem?_getD, List.getElem?_eq_getElem h]
end Go.Proofs.Ytkfhdpnfcaghbaa.Sp
