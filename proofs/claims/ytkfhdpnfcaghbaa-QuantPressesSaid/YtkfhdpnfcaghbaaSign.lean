/- What a closure tells, place by place; a new row with room. -/
import Derived.Test.YtkfhdpnfcaghbaaVec
import Derived.Lib.JoinLaws
namespace Go.Proofs.Ytkfhdpnfcaghbaa.Sp
open Go.RowKit Go.Proofs.YtkfhdpnfcaghbaaW.PrintWords
def TellsD (P : Program) (K : Nat) (caps : Array Value) (n : Nat) (x y : Nat → Value) (w : World) : Prop :=
  ∀ (i m : Nat), i < n →
    Calls P K (#[x i] ++ caps) (w.drewN m) fun ed W' => ed = .returned (y i) ∧ Drawn0 (w.drewN m) W'
theorem heap_mid (w : World) (A B C : Obj) : (((w.alloc A).alloc B).alloc C).heap[w.heap.size + 1]? = some B := by
  have h1 : ((w.alloc A).alloc B).heap.size = w.heap.size + 2 := by show ((w.heap.push A).push B).size = _; simp
  have h2 : ((w.alloc A).alloc B).heap[w.heap.size + 1]? = some B := by
    show ((w.heap.push A).push B)[w.heap.size + 1]? = some B
    rw [Array.getElem?_push, if_pos (by simp)]
  show (((w.alloc A).alloc B).heap.push C)[w.heap.size + 1]? = some B
  rw [Array.getElem?_push, if_neg (by omega), h2]
theorem getD_mem {l : List Int} {i : Nat} (h : i < l.length) : l.getD i default ∈ l := by
  rw [List.getD_eq_getElem?_getD, List.getElem?_eq_getElem h]; exact List.getElem_mem h
def risesB : List Int → Bool
  | a :: b :: l => decide (a < b) && risesB (b :: l)
  | _ => true
def checkI (dim : Int) (l : List Int) : Int := if 1 ≤ dim ∧ dim ≤ 4096 ∧ risesB l = true ∧ (∀ x ∈ l, 0 ≤ x ∧ x < dim) then 0 else 1
theorem risesB_short {l : List Int} (h : l.length ≤ 1) : risesB l = true := by
  match l, h with
  | [], _ => rfl
  | [_], _ => rfl
theorem risesB_head : ∀ (l : List Int) (a : Int), risesB (a :: l) = true → ∀ x ∈ l, a < x
  | [], _, _, x, hx => by cases hx
  | b :: l, a, h, x, hx => by
    simp only [risesB, Bool.and_eq_true, decide_eq_true_eq] at h
    rcases List.mem_cons.1 hx with e | e
    · omega
    · have := risesB_head l b h.2 x e; omega
theorem risesB_last : ∀ (l : List Int) (h : l ≠ []), risesB l = true → ∀ x ∈ l, x ≤ l.getLast h
  | [a], _, _, x, hx => by simp at hx; simp [hx]
  | a :: b :: l, h, hr, x, hx => by
    simp only [risesB, Bool.and_eq_true, decide_eq_true_eq] at hr
    rw [List.getLast_cons (by simp)]
    have ih := risesB_last (b :: l) (by simp) hr.2
    rcases List.mem_cons.1 hx with e | e
    · have := ih b (by simp); omega
    · exact ih x e
def MayP (a0 a1 : Int) (l2 l3 : List Int) (a4 a5 : Int) (l6 : List Int) (l7 : List Bool) : Prop :=
  (1 ≤ a1 ∧ a1 ≤ 4096) ∧
  ((a0 = 0 ∧ l2 = [] ∧ (l3.length : Int) = a1 ∧ a4 = 0 ∧ a5 = 0 ∧ l6 = [] ∧ l7 = []) ∨
   (a0 = 1 ∧ checkI a1 l2 = 0 ∧ l3.length = l2.length ∧ a4 = 0 ∧ a5 = 0 ∧ l6 = [] ∧ l7 = []) ∨
   (a0 = 2 ∧ (1 ≤ a5 ∧ a5 ≤ 8) ∧ (l6.length : Int) = a1 ∧ (∀ n ∈ l6, (bl n.toNat : Int) ≤ a5) ∧ l2 = [] ∧ l3 = [] ∧ 0 ≤ a4 ∧ (l7.length : Int) = a1) ∨
   (a0 = 3 ∧ l2 = [] ∧ l3 = [] ∧ a5 = 0 ∧ l6 = [] ∧ 0 ≤ a4 ∧ (l7.length : Int) = a1))
instance (a0 a1 : Int) (l2 l3 : List Int) (a4 a5 : Int) (l6 : List Int) (l7 : List Bool) : Decidable (MayP a0 a1 l2 l3 a4 a5 l6 l7) := by unfold MayP; infer_instance
set_option linter.unusedSimpArgs false in
theorem ite_beq {α : Type} (F : Bool → α) (a b : Int) : (if a = 0 then F (b == 0) else F false) = F (decide (a = 0 ∧ b = 0)) := by
  by_cases h : a = 0
  · rw [if_pos h]; congr 1; simp only [h, true_and]; rfl
  · rw [if_neg h]; congr 1; simp [h]
theorem may_logic (a0_0 a0_1 a0_4 a0_5 ck n2 n3 n6 n7 : Int) (A : Prop) [Decidable A] (j3 : Bool → Bool → Bool → Option Bool)
 (hj : ∀ x y z, j3 x y z = if a0_0 = 0 then (if n2 = 0 then (if n3 = a0_1 then (if y = true then (some z) else (some false)) else (some false)) else (some false)) else (if a0_0 = 1 then (if ck = 0 then (if n3 = n2 then (if y = true then (some z) else (some false)) else (some false)) else (some false)) else (if a0_0 = 2 then (if a0_5 < 1 then some false else (if a0_5 > 8 then some false else (if (n6 != a0_1) = true then some false else some (decide (A ∧ x = true ∧ 0 ≤ a0_4 ∧ n7 = a0_1))))) else (if a0_0 = 3 then (if x = true then (if y = true then (if a0_4 ≥ 0 then (some (n7 == a0_1)) else (some false)) else (some false)) else (some false)) else (some false))))) :
  (if a0_1 < 1 then some false else if (decide (a0_1 > 4096)) = true then some false else j3 (decide (n2 = 0 ∧ n3 = 0)) (decide (a0_5 = 0 ∧ n6 = 0)) (decide (a0_4 = 0 ∧ n7 = 0))) = some (decide ((1 ≤ a0_1 ∧ a0_1 ≤ 4096) ∧
  ((a0_0 = 0 ∧ n2 = 0 ∧ n3 = a0_1 ∧ a0_4 = 0 ∧ a0_5 = 0 ∧ n6 = 0 ∧ n7 = 0) ∨
   (a0_0 = 1 ∧ ck = 0 ∧ n3 = n2 ∧ a0_4 = 0 ∧ a0_5 = 0 ∧ n6 = 0 ∧ n7 = 0) ∨
   (a0_0 = 2 ∧ (1 ≤ a0_5 ∧ a0_5 ≤ 8) ∧ n6 = a0_1 ∧ A ∧ n2 = 0 ∧ n3 = 0 ∧ 0 ≤ a0_4 ∧ n7 = a0_1) ∨
   (a0_0 = 3 ∧ n2 = 0 ∧ n3 = 0 ∧ a0_5 = 0 ∧ n6 = 0 ∧ 0 ≤ a0_4 ∧ n7 = a0_1)))) := by
  rw [hj]
  by_cases d1 : a0_1 < 1
  · rw [if_pos d1]; symm; congr 1; exact decide_eq_false (fun h => by omega)
  · rw [if_neg d1]
    by_cases d2 : a0_1 > 4096
    · rw [if_pos (decide_eq_true d2)]; symm; congr 1; exact decide_eq_false (fun h => by omega)
    · rw [if_neg (by simpa using d2)]
      have e1 : (1 ≤ a0_1 ∧ a0_1 ≤ 4096) := by omega
      by_cases s0 : a0_0 = 0
      · subst s0
        by_cases q1 : n2 = 0 <;> by_cases q2 : n3 = a0_1 <;> by_cases q3 : a0_5 = 0 <;> by_cases q4 : n6 = 0 <;> simp [q1, q2, q3, q4, e1]
        all_goals omega
      · by_cases s1 : a0_0 = 1
        · subst s1
          by_cases q1 : ck = 0 <;> by_cases q2 : n3 = n2 <;> by_cases q3 : a0_5 = 0 <;> by_cases q4 : n6 = 0 <;> simp [q1, q2, q3, q4, e1]
        · by_cases s2 : a0_0 = 2
          · subst s2
            by_cases q1 : a0_5 < 1
            · simp [q1, e1]; omega
            · by_cases q2 : a0_5 > 8
              · simp [q1, q2, e1]; omega
              · by_cases q3 : n6 = a0_1
                · have q1' : 1 ≤ a0_5 := by omega
                  have q2' : a0_5 ≤ 8 := by omega
                  simp [q3, q1, q2, e1, q1', q2', Bool.and_assoc]
                · simp [q1, q2, q3, e1]
          · by_cases s3 : a0_0 = 3
            · subst s3
              by_cases q1 : n2 = 0 <;> by_cases q2 : n3 = 0 <;> by_cases q3 : a0_5 = 0 <;> by_cases q4 : n6 = 0 <;> by_cases q5 : 0 ≤ a0_4 <;> simp [q1, q2, q3, q4, q5, e1]
              all_goals rfl
            · simp [s0, s1, s2, s3]
def U64L (l : List Int) : Prop := ∀ x ∈ l, U64 x
instance (l : List Int) : Decidable (U64L l) := by unfold U64L; infer_instance
end Go.Proofs.Ytkfhdpnfcaghbaa.Sp
