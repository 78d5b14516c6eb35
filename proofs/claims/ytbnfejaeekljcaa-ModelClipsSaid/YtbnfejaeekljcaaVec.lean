/- What vectors come to, as plain lists. No program in sight, but for 'Tells': what a closure tells. -/
import Derived.Test.YtbnfejaeekljcaaBase
import Derived.Test.YtbnfejaeekljcaaWWords
import Derived.Outline
import Derived.Shelf.Abstract
import Derived.Deep.RegionWith
import Derived.Deep.RegionHeld3
import Derived.StillTailTactics
import Derived.Lib.SliceRun
namespace Go.Proofs.Ytbnfejaeekljcaa.Sp
open Go.RowKit Go.Proofs.YtbnfejaeekljcaaW.PrintWords

/-- All numbers have 64 bits. -/
def V64 (l : List Int) : Prop := ∀ x ∈ l, I64 x
instance (l : List Int) : Decidable (V64 l) := by unfold V64; infer_instance
theorem V64.rd {l : List Int} (h : V64 l) (i : Int) : I64 (rd l i) := by
  unfold Go.Proofs.YtbnfejaeekljcaaW.PrintWords.rd
  rw [List.getD_eq_getElem?_getD]
  cases hx : l[i.toNat]? with
  | none => exact i64_zero
  | some x => exact h x (List.mem_of_getElem? hx)
theorem V64.nil : V64 [] := by intro x hx; cases hx
theorem V64.append {a b : List Int} (ha : V64 a) (hb : V64 b) : V64 (a ++ b) := by
  intro x hx
  rcases List.mem_append.1 hx with h | h
  · exact ha x h
  · exact hb x h
theorem V64.snoc {a : List Int} {x : Int} (ha : V64 a) (hx : I64 x) : V64 (a ++ [x]) := ha.append (by intro y hy; cases List.mem_singleton.1 hy; exact hx)
theorem v64_of_wf {l : List Int} (h : ∀ x ∈ l, (Lit.int .i64 x).wf = true) : V64 l := fun x hx => i64_of_wf (h x hx)

/-- All of them, or the first error. -/
def seqV : List (Int × Int) → List Int × Int
  | [] => ([], 0)
  | p :: ps => if p.2 = 0 then (if (seqV ps).2 = 0 then (p.1 :: (seqV ps).1, 0) else ([], (seqV ps).2)) else ([], p.2)
/-- Their sum, from s on, or the first error. -/
def sumV : List (Int × Int) → Int → Int × Int
  | [], s => (s, 0)
  | p :: ps, s => if p.2 = 0 then (if (res (s + p.1)).2 = 0 then sumV ps (res (s + p.1)).1 else (0, (res (s + p.1)).2)) else (0, p.2)
/-- The greatest, from m on, or the first error. -/
def mostGo : List (Int × Int) → Int → Int × Int
  | [], m => (m, 0)
  | p :: ps, m => if p.2 = 0 then mostGo ps (if m < p.1 then p.1 else m) else (0, p.2)
def absF (x : Int) : Int × Int := res (x.natAbs : Int)
def pairE (a b : List Int) : Int := if a.length > 4096 ∨ b.length > 4096 then 3 else if a.length ≠ b.length then 4 else 0
def checkE (a : List Int) : Int := if a.length > 4096 then 3 else 0
def fracE (f : Int) : Int := if 0 ≤ f ∧ f ≤ 30 then 0 else 1
def addV (a b : List Int) : List Int × Int := if pairE a b = 0 then seqV (List.zipWith (fun x y => res (x + y)) a b) else ([], pairE a b)
def subV (a b : List Int) : List Int × Int := if pairE a b = 0 then seqV (List.zipWith (fun x y => res (x - y)) a b) else ([], pairE a b)
def scaleV (a : List Int) (by_ f : Int) : List Int × Int := if checkE a = 0 then (if fracE f = 0 then seqV (a.map fun x => mulF x by_ f) else ([], fracE f)) else ([], checkE a)
def moreV (y : List Int) (by_ : Int) (x : List Int) (f : Int) : List Int × Int := if (scaleV x by_ f).2 = 0 then addV y (scaleV x by_ f).1 else ([], (scaleV x by_ f).2)
def dotV (a b : List Int) (f : Int) : Int × Int := if pairE a b = 0 then (if fracE f = 0 then sumV (List.zipWith (fun x y => mulF x y f) a b) 0 else (0, fracE f)) else (0, pairE a b)
def sizeV (a : List Int) : Int × Int := if checkE a = 0 then sumV (a.map absF) 0 else (0, checkE a)
def mostV (a : List Int) : Int × Int := if checkE a = 0 then mostGo (a.map absF) 0 else (0, checkE a)
def clipE (m : Int) : Int := if m < 0 then 1 else 0
def clipV (a : List Int) (m : Int) : List Int × Int := if checkE a = 0 then (if clipE m = 0 then seqV (a.map fun x => clipF x m) else ([], clipE m)) else ([], checkE a)
def zeroV (n : Int) : List Int × Int := if n < 0 ∨ n > 4096 then ([], 1) else (List.replicate n.toNat 0, 0)
/-- The vectors behind the first one added to it. -/
def sumFrom : List (List Int) → List Int → List Int × Int
  | [], out => (out, 0)
  | v :: l, out => if (addV out v).2 = 0 then sumFrom l (addV out v).1 else ([], (addV out v).2)
def sumsV : List (List Int) → List Int × Int
  | [] => ([], 0)
  | v :: l => if checkE v = 0 then sumFrom l v else ([], checkE v)

/-! ### in rounds -/
def eachGo (g : Nat → Option (Int × Int)) : Nat → Nat → List Int → Option (List Int × Int)
  | 0, _, acc => some (acc, 0)
  | d + 1, i, acc => (g i).bind fun p => if p.2 = 0 then eachGo g d (i + 1) (acc ++ [p.1]) else some ([], p.2)
def totalGo (add : Int → Int → Option (Int × Int)) (g : Nat → Option (Int × Int)) : Nat → Nat → Int → Option (Int × Int)
  | 0, _, s => some (s, 0)
  | d + 1, i, s => (g i).bind fun p => if p.2 = 0 then (add s p.1).bind fun q => if q.2 = 0 then totalGo add g d (i + 1) q.1 else some (0, q.2) else some (0, p.2)
theorem eachGo_spec (g : Nat → Option (Int × Int)) (ps : List (Int × Int)) : ∀ (d i : Nat) (acc : List Int), d + i = ps.length → (∀ j, (h : j < ps.length) → g j = some ps[j]) →
    eachGo g d i acc = some (if (seqV (ps.drop i)).2 = 0 then (acc ++ (seqV (ps.drop i)).1, 0) else ([], (seqV (ps.drop i)).2)) := by
  intro d
  induction d with
  | zero =>
    intro i acc hd hg
    rw [List.drop_eq_nil_of_le (by omega)]
    simp [eachGo, seqV]
  | succ d ih =>
    intro i acc hd hg
    have hi : i < ps.length := by omega
    rw [List.drop_eq_getElem_cons hi, eachGo, hg i hi]
    simp only [Option.bind_some, seqV]
    by_cases c : (ps[i]).2 = 0
    · simp only [c, if_true]
      rw [ih (i + 1) _ (by omega) hg]
      by_cases c2 : (seqV (ps.drop (i + 1))).2 = 0
      · simp [c2]
      · simp [c2]
    · simp [c]
theorem each_spec {g : Nat → Option (Int × Int)} {ps : List (Int × Int)} {n : Nat} (hn : ps.length = n) (hg : ∀ j, (h : j < ps.length) → g j = some ps[j]) : eachGo g n 0 [] = some (seqV ps) := by
  rw [eachGo_spec g ps n 0 [] (by omega) hg, List.drop_zero]
  split
  · rename_i h; simp only [List.nil_append]; congr 1; exact Prod.ext rfl h.symm
  · rename_i h
    have : ∀ qs : List (Int × Int), (seqV qs).2 ≠ 0 → (seqV qs).1 = [] := by
      intro qs
      cases qs with
      | nil => simp [seqV]
      | cons p qs => simp only [seqV]; split <;> (try split) <;> simp
    congr 1; exact Prod.ext (this ps h).symm rfl
theorem totalGo_spec (add : Int → Int → Option (Int × Int)) (hadd : ∀ a b, I64 a → I64 b → add a b = some (res (a + b))) (g : Nat → Option (Int × Int)) (ps : List (Int × Int)) (hps : ∀ p ∈ ps, I64 p.1) : ∀ (d i : Nat) (s : Int), I64 s → d + i = ps.length → (∀ j, (h : j < ps.length) → g j = some ps[j]) →
    totalGo add g d i s = some (sumV (ps.drop i) s) := by
  intro d
  induction d with
  | zero =>
    intro i s hs hd hg
    rw [List.drop_eq_nil_of_le (by omega)]
    simp [totalGo, sumV]
  | succ d ih =>
    intro i s hs hd hg
    have hi : i < ps.length := by omega
    rw [List.drop_eq_getElem_cons hi, totalGo, hg i hi]
    simp only [Option.bind_some, sumV]
    by_cases c : (ps[i]).2 = 0
    · rw [if_pos c, if_pos c, hadd _ _ hs (hps _ (List.getElem_mem hi))]
      simp only [Option.bind_some]
      by_cases c2 : (res (s + (ps[i]).1)).2 = 0
      · rw [if_pos c2, if_pos c2, ih (i + 1) _ (res_i64 _) (by omega) hg]
      · rw [if_neg c2, if_neg c2]
    · rw [if_neg c, if_neg c]
theorem total_spec {add : Int → Int → Option (Int × Int)} (hadd : ∀ a b, I64 a → I64 b → add a b = some (res (a + b))) {g : Nat → Option (Int × Int)} {ps : List (Int × Int)} (hps : ∀ p ∈ ps, I64 p.1) {n : Nat} (hn : ps.length = n) (hg : ∀ j, (h : j < ps.length) → g j = some ps[j]) : totalGo add g n 0 0 = some (sumV ps 0) := by
  rw [totalGo_spec add hadd g ps hps n 0 0 i64_zero (by omega) hg, List.drop_zero]

/-! ### numbers stay numbers -/
theorem seqV_v64 : ∀ ps : List (Int × Int), (∀ p ∈ ps, I64 p.1) → V64 (seqV ps).1
  | [], _ => V64.nil
  | p :: ps, h => by
    have ih := seqV_v64 ps (fun q hq => h q (by simp [hq]))
    unfold seqV
    split
    · split
      · intro x hx
        rcases List.mem_cons.1 hx with e | e
        · rw [e]; exact h p (by simp)
        · exact ih x e
      · exact V64.nil
    · exact V64.nil
theorem mulF_i64 (a b f : Int) : I64 (mulF a b f).1 := by
  unfold mulF; split
  · exact res_i64 _
  · exact i64_zero
theorem clipF_i64 {a m : Int} (ha : I64 a) (hm : I64 m) : I64 (clipF a m).1 := by
  unfold clipF I64 at *; split
  · simp
  · simp only; (repeat' split) <;> omega
theorem zip_i64 {f : Int → Int → Int × Int} (hf : ∀ x y, I64 (f x y).1) : ∀ (a b : List Int), ∀ p ∈ List.zipWith f a b, I64 p.1
  | [], _ => by simp
  | _ :: _, [] => by simp
  | x :: a, y :: b => by
    intro p hp
    rw [List.zipWith_cons_cons] at hp
    rcases List.mem_cons.1 hp with e | e
    · rw [e]; exact hf x y
    · exact zip_i64 hf a b p e
theorem addV_v64 (a b : List Int) : V64 (addV a b).1 := by
  unfold addV; split
  · exact seqV_v64 _ (zip_i64 (fun x y => res_i64 _) a b)
  · exact V64.nil
theorem subV_v64 (a b : List Int) : V64 (subV a b).1 := by
  unfold subV; split
  · exact seqV_v64 _ (zip_i64 (fun x y => res_i64 _) a b)
  · exact V64.nil
theorem scaleV_v64 (a : List Int) (k f : Int) : V64 (scaleV a k f).1 := by
  unfold scaleV; split
  · split
    · exact seqV_v64 _ (by intro p hp; obtain ⟨x, _, rfl⟩ := List.mem_map.1 hp; exact mulF_i64 _ _ _)
    · exact V64.nil
  · exact V64.nil
theorem moreV_v64 (y : List Int) (k : Int) (x : List Int) (f : Int) : V64 (moreV y k x f).1 := by
  unfold moreV; split
  · exact addV_v64 _ _
  · exact V64.nil
theorem clipV_v64 {a : List Int} {m : Int} (ha : V64 a) (hm : I64 m) : V64 (clipV a m).1 := by
  unfold clipV; split
  · split
    · exact seqV_v64 _ (by intro p hp; obtain ⟨x, hx, rfl⟩ := List.mem_map.1 hp; exact clipF_i64 (ha x hx) hm)
    · exact V64.nil
  · exact V64.nil
theorem sumV_i64 : ∀ (ps : List (Int × Int)) (s : Int), I64 s → I64 (sumV ps s).1
  | [], s, hs => hs
  | p :: ps, s, hs => by
    unfold sumV; split
    · split
      · exact sumV_i64 ps _ (res_i64 _)
      · exact i64_zero
    · exact i64_zero
theorem zip_get {f : Int → Int → Int × Int} (a b : List Int) (hl : a.length = b.length) (j : Nat) (h : j < (List.zipWith f a b).length) : (List.zipWith f a b)[j] = f (Go.Proofs.YtbnfejaeekljcaaW.PrintWords.rd a (j : Int)) (Go.Proofs.YtbnfejaeekljcaaW.PrintWords.rd b (j : Int)) := by
  have hj : j < a.length := by simpa [List.length_zipWith, hl] using h
  have hj2 : j < b.length := by omega
  simp [Go.Proofs.YtbnfejaeekljcaaW.PrintWords.rd, List.getElem_zipWith, List.getD_eq_getElem?_getD, List.getElem?_eq_getElem hj, List.getElem?_eq_getElem hj2]
theorem map_get {f : Int → Int × Int} (a : List Int) (j : Nat) (h : j < (a.map f).length) : (a.map f)[j] = f (Go.Proofs.YtbnfejaeekljcaaW.PrintWords.rd a (j : Int)) := by
  have hj : j < a.length := by simpa using h
  simp [Go.Proofs.YtbnfejaeekljcaaW.PrintWords.rd, List.getD_eq_getElem?_getD, List.getElem?_eq_getElem hj]

theorem mulF_zero_snd (f : Int) : (mulF 0 0 f).2 = fracE f := by
  unfold mulF fracE; split
  · simp [res, I64]
  · rfl
theorem clipF_zero (m : Int) : clipF 0 m = (0, clipE m) := by
  unfold clipF clipE
  by_cases h : m < 0
  · rw [if_pos h, if_pos h]
  · rw [if_neg h, if_neg h, if_neg (by omega), if_neg h]
theorem pairE_len {a b : List Int} (h : pairE a b = 0) : a.length = b.length := by
  unfold pairE at h; split at h
  · cases h
  · split at h
    · cases h
    · omega
theorem pairE_le {a b : List Int} (h : pairE a b = 0) : a.length ≤ 4096 := by
  unfold pairE at h; split at h
  · cases h
  · omega
theorem checkE_le {a : List Int} (h : checkE a = 0) : a.length ≤ 4096 := by
  unfold checkE at h; split at h
  · cases h
  · omega

theorem rd_nat {l : List Int} {i : Nat} (h : i < l.length) : Go.Proofs.YtbnfejaeekljcaaW.PrintWords.rd l (i : Int) = l[i] := by
  simp [Go.Proofs.YtbnfejaeekljcaaW.PrintWords.rd, List.getD_eq_getElem?_getD, List.getElem?_eq_getElem h]
theorem rdb_nat {l : List Bool} {i : Nat} (h : i < l.length) : rdOf false l (i : Int) = l[i] := by
  simp [rdOf, List.getD_eq_getElem?_getD, List.getElem?_eq_getElem h]
/-- Short enough, all of them. -/
def fewV (l : List (List Int)) : Bool := l.all fun v => decide (v.length ≤ 5000)
theorem seqV_ok (g : Int → Int) : ∀ a : List Int, seqV (a.map fun x => (g x, 0)) = (a.map g, 0)
  | [] => rfl
  | x :: a => by simp [seqV, seqV_ok g a]
theorem seqV_clip (a : List Int) {m : Int} (h : ¬ m < 0) : seqV (a.map fun x => clipF x m) = (a.map (fun x => (clipF x m).1), 0) := by
  have : (fun x => clipF x m) = fun x => ((clipF x m).1, 0) := by funext x; unfold clipF; rw [if_neg h]
  rw [this]; exact seqV_ok _ a

/-- A closure that tells g: in all worlds that lie above w. -/
def Tells (P : Program) (K : Nat) (caps : Array Value) (g : Nat → Option (Int × Int)) (n : Nat) (w : World) : Prop :=
  ∀ (i : Nat) (W : World) (x e : Int), i < n → Below w.heap.size w W → g i = some (x, e) →
    Calls P K (#[.int .i64 i] ++ caps) W fun ed W' => ed = .returned (.tuple #[.int .i64 x, .int .i64 e]) ∧ Below W.heap.size W W'

end Go.Proofs.Ytbnfejaeekljcaa.Sp
