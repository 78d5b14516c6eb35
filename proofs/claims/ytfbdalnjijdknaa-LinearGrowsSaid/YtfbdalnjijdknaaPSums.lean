/- Sums of vectors, column by column. No program in sight. -/
import Derived.Test.YtfbdalnjijdknaaPVec
namespace Go.Proofs.Ytfbdalnjijdknaa.Sp
open Go.RowKit Go.Proofs.YtfbdalnjijdknaaW.PrintWords
/-- Column by column. -/
def zadd (a b : List Int) : List Int := List.zipWith (· + ·) a b
def colSum (m : Nat) : List (List Int) → List Int
  | [] => List.replicate m 0
  | v :: l => zadd v (colSum m l)
theorem zadd_assoc : ∀ a b c : List Int, zadd (zadd a b) c = zadd a (zadd b c)
  | [], b, c => by simp [zadd]
  | _ :: _, [], c => by simp [zadd]
  | _ :: _, _ :: _, [] => by simp [zadd]
  | x :: a, y :: b, z :: c => by
    have ih := zadd_assoc a b c
    simp only [zadd, List.zipWith_cons_cons] at ih ⊢
    rw [ih, Int.add_assoc]
theorem zadd_comm : ∀ a b : List Int, zadd a b = zadd b a
  | [], b => by simp [zadd]
  | _ :: _, [] => by simp [zadd]
  | x :: a, y :: b => by
    have ih := zadd_comm a b
    simp only [zadd, List.zipWith_cons_cons] at ih ⊢
    rw [ih, Int.add_comm]
theorem zadd_zero : ∀ a : List Int, zadd a (List.replicate a.length 0) = a
  | [] => rfl
  | x :: a => by
    have ih := zadd_zero a
    simp only [zadd, List.length_cons, List.replicate_succ, List.zipWith_cons_cons] at ih ⊢
    rw [ih, Int.add_zero]
theorem zadd_len {a b : List Int} {m : Nat} (ha : a.length = m) (hb : b.length = m) : (zadd a b).length = m := by simp [zadd, ha, hb]
theorem colSum_len {m : Nat} : ∀ l : List (List Int), (∀ v ∈ l, v.length = m) → (colSum m l).length = m
  | [], _ => by simp [colSum]
  | v :: l, h => zadd_len (h v (by simp)) (colSum_len l (fun u hu => h u (by simp [hu])))
/-- All numbers of a size of B at the most. -/
def Bd (B : Int) (a : List Int) : Prop := ∀ x ∈ a, -B ≤ x ∧ x ≤ B
theorem zadd_bd {A B : Int} : ∀ {a b : List Int}, Bd A a → Bd B b → Bd (A + B) (zadd a b)
  | [], b, _, _ => by intro x hx; simp [zadd] at hx
  | _ :: _, [], _, _ => by intro x hx; simp [zadd] at hx
  | x :: a, y :: b, ha, hb => by
    intro z hz
    simp only [zadd, List.zipWith_cons_cons] at hz
    have h1 := ha x (by simp)
    have h2 := hb y (by simp)
    rcases List.mem_cons.1 hz with e | e
    · omega
    · exact zadd_bd (a := a) (b := b) (fun u hu => ha u (by simp [hu])) (fun u hu => hb u (by simp [hu])) z e
theorem colSum_bd {m : Nat} {B : Int} (hB : 0 ≤ B) : ∀ l : List (List Int), (∀ v ∈ l, Bd B v) → Bd (B * l.length) (colSum m l)
  | [], _ => by intro x hx; rw [(List.mem_replicate.1 hx).2]; simp
  | v :: l, h => by
    have h1 := zadd_bd (h v (by simp)) (colSum_bd (m := m) hB l (fun u hu => h u (by simp [hu])))
    rw [show B * ((v :: l).length : Int) = B + B * (l.length : Int) by rw [List.length_cons]; push_cast; rw [Int.mul_add, Int.mul_one]; omega]
    exact h1
theorem seq_zadd {A B : Int} (hAB : A + B ≤ 9223372036854775807) : ∀ {a b : List Int}, Bd A a → Bd B b → seqV (List.zipWith (fun x y => res (x + y)) a b) = (zadd a b, 0)
  | [], b, _, _ => by simp [zadd, seqV]
  | _ :: _, [], _, _ => by simp [zadd, seqV]
  | x :: a, y :: b, ha, hb => by
    have h1 := ha x (by simp)
    have h2 := hb y (by simp)
    have ih := seq_zadd (a := a) (b := b) hAB (fun u hu => ha u (by simp [hu])) (fun u hu => hb u (by simp [hu]))
    rw [List.zipWith_cons_cons, res_of (show I64 (x + y) by unfold I64; omega), seqV_cons_of rfl (by rw [ih]), ih]
    simp [zadd]
theorem addV_zadd {A B : Int} {m : Nat} (hm : m ≤ 4096) {a b : List Int} (la : a.length = m) (lb : b.length = m) (hAB : A + B ≤ 9223372036854775807) (ha : Bd A a) (hb : Bd B b) : addV a b = (zadd a b, 0) := by
  unfold addV
  rw [if_pos (pairE_of (by omega) (by omega))]
  exact seq_zadd hAB ha hb
theorem sumFrom_col {m : Nat} (hm : m ≤ 4096) {B : Int} (hB : 0 ≤ B) : ∀ (l : List (List Int)) (acc : List Int) (A : Int), (∀ v ∈ l, v.length = m ∧ Bd B v) → acc.length = m → Bd A acc → A + B * l.length ≤ 9223372036854775807 →
    sumFrom l acc = (zadd acc (colSum m l), 0)
  | [], acc, A, _, ha, _, _ => by
    simp only [sumFrom, colSum]
    rw [← ha, zadd_zero]
  | v :: l, acc, A, h, ha, hA, hb => by
    have e : B * ((v :: l).length : Int) = B * (l.length : Int) + B := by rw [List.length_cons]; push_cast; rw [Int.mul_add, Int.mul_one]
    rw [e] at hb
    have hn : 0 ≤ B * (l.length : Int) := Int.mul_nonneg hB (by omega)
    have hv := h v (by simp)
    simp only [sumFrom]
    rw [addV_zadd hm ha hv.1 (by omega) hA hv.2, if_pos rfl, sumFrom_col hm hB l _ (A + B) (fun u hu => h u (by simp [hu])) (zadd_len ha hv.1) (zadd_bd hA hv.2) (by omega), zadd_assoc]
    rfl
theorem sumsV_col {m : Nat} (hm : m ≤ 4096) {B : Int} (hB : 0 ≤ B) (l : List (List Int)) (hl : 0 < l.length) (h : ∀ v ∈ l, v.length = m ∧ Bd B v) (hb : B * l.length ≤ 9223372036854775807) : sumsV l = (colSum m l, 0) := by
  cases l with
  | nil => simp at hl
  | cons v l =>
    have e : B * ((v :: l).length : Int) = B * (l.length : Int) + B := by rw [List.length_cons]; push_cast; rw [Int.mul_add, Int.mul_one]
    rw [e] at hb
    have hv := h v (by simp)
    show (if checkE v = 0 then sumFrom l v else ([], checkE v)) = _
    rw [if_pos (checkE_of (by omega)), sumFrom_col hm hB l v B (fun u hu => h u (by simp [hu])) hv.1 hv.2 (by omega)]
    rfl
theorem colSum_append {m : Nat} : ∀ (a b : List (List Int)), (∀ v ∈ b, v.length = m) → colSum m (a ++ b) = zadd (colSum m a) (colSum m b)
  | [], b, h => by
    have e := zadd_zero (colSum m b)
    rw [colSum_len b h] at e
    show colSum m b = zadd (List.replicate m 0) (colSum m b)
    rw [zadd_comm]; exact e.symm
  | v :: a, b, h => by simp only [List.cons_append, colSum]; rw [colSum_append a b h, zadd_assoc]
theorem colSum_reverse {m : Nat} : ∀ l : List (List Int), (∀ v ∈ l, v.length = m) → colSum m l.reverse = colSum m l
  | [], _ => rfl
  | v :: l, h => by
    have hv := h v (by simp)
    rw [List.reverse_cons, colSum_append _ _ (by intro u hu; cases List.mem_singleton.1 hu; exact hv), colSum_reverse l (fun u hu => h u (by simp [hu]))]
    show zadd (colSum m l) (zadd v (List.replicate m 0)) = zadd v (colSum m l)
    rw [← hv, zadd_zero, hv, zadd_comm]

end Go.Proofs.Ytfbdalnjijdknaa.Sp
