/- What lines of classes come to, as plain lists. No program in sight. -/
import Derived.Test.YtbnfejaeekljcaaLinear
namespace Go.Proofs.Ytbnfejaeekljcaa.Sp
open Go.RowKit Go.Proofs.YtbnfejaeekljcaaW.PrintWords

def badOut (out : Int) : Prop := out < 2 ∨ out > 8
instance (o : Int) : Decidable (badOut o) := by unfold badOut; infer_instance
def dimS (n out : Int) : Int × Int := if n < 1 ∨ n > 16 ∨ badOut out then (0, 1) else ((n + 1) * out, 0)
/-- Pieces of n each. -/
def chunksS (n : Nat) (w : List Int) (k : Nat) : List (List Int) := (List.range k).map fun i => (w.drop (i * n)).take n
def goodRow (out : Int) (w : List Int) : Prop := 2 ≤ w.length / out.toNat ∧ w.length / out.toNat ≤ 17 ∧ w.length / out.toNat * out.toNat = w.length
instance (o : Int) (w : List Int) : Decidable (goodRow o w) := by unfold goodRow; infer_instance
def rowsS (out : Int) (w : List Int) : List (List Int) × Int :=
  if badOut out then ([], 1) else if goodRow out w then (chunksS (w.length / out.toNat) w out.toNat, 0) else ([], 4)
def linesS (out : Int) (w x : List Int) (f : Int) : List Int × Int :=
  if (rowsS out w).2 ≠ 0 then ([], (rowsS out w).2) else
  if (((rowsS out w).1.getD 0 []).length : Int) - 1 ≠ x.length then ([], 4) else
  if f < 0 ∨ f > 30 then ([], 1) else seqV ((rowsS out w).1.map fun row => tellL row x f)
def tellS (out : Int) (w x : List Int) (f : Int) : List Int × Int := if (linesS out w x f).2 = 0 then softV f (linesS out w x f).1 else ([], (linesS out w x f).2)
def classS (out : Int) (w x : List Int) (f : Int) : Int × Int := if (linesS out w x f).2 = 0 then bestF (linesS out w x f).1 else (0, (linesS out w x f).2)
def offS (out : Int) (w x : List Int) (y f : Int) : List Int × Int :=
  if (tellS out w x f).2 = 0 then (if y < 0 ∨ y ≥ out then ([], 1) else ((tellS out w x f).1.set y.toNat (wrap64 (rd (tellS out w x f).1 y - 2 ^ f.toNat)), 0)) else ([], (tellS out w x f).2)
def checkS (n out : Int) (w : List Int) (l : List (List Int × Int)) : Int :=
  if (dimS n out).2 ≠ 0 then 1 else if (w.length : Int) ≠ (dimS n out).1 ∨ ¬ (∀ s ∈ l, (s.1.length : Int) = n) then 4 else
  if l.length = 0 ∨ l.length > 64 ∨ ¬ (∀ s ∈ l, 0 ≤ s.2 ∧ s.2 < out) then 1 else 0
def fitS (out : Int) (w : List Int) (l : List (List Int × Int)) : Int :=
  if (rowsS out w).2 ≠ 0 then (rowsS out w).2 else checkS (wrap64 ((((rowsS out w).1.getD 0 []).length : Int) - 1)) out w l
/-- How the lines are bent, one behind the other. -/
def bendRows (x : List Int) (f : Int) : List Int → List Int × Int
  | [] => ([], 0)
  | o :: os => if (scaleV x o f).2 = 0 then (if (bendRows x f os).2 = 0 then ((scaleV x o f).1 ++ o :: (bendRows x f os).1, 0) else ([], (bendRows x f os).2)) else ([], (scaleV x o f).2)
def bendS (out : Int) (w : List Int) (f : Int) (s : List Int × Int) : List Int × Int :=
  if (offS out w s.1 s.2 f).2 = 0 then bendRows s.1 f (offS out w s.1 s.2 f).1 else ([], (offS out w s.1 s.2 f).2)
def gradS (out : Int) (w : List Int) (f : Int) (l : List (List Int × Int)) : List Int × Int :=
  if fitS out w l = 0 then (if (rowsL (bendS out w f) l).2 = 0 then meanL l.length (rowsL (bendS out w f) l).1 else ([], (rowsL (bendS out w f) l).2)) else ([], fitS out w l)
/-- How many are right, from m on, or the first error. -/
def countS (out : Int) (w : List Int) (f : Int) : List (List Int × Int) → Int → Int × Int
  | [], m => (m, 0)
  | s :: l, m => if (classS out w s.1 f).2 = 0 then countS out w f l (if (classS out w s.1 f).1 = s.2 then m + 1 else m) else (0, (classS out w s.1 f).2)
def rightF (out : Int) (w : List Int) (f : Int) (l : List (List Int × Int)) : Int × Int := if fitS out w l = 0 then countS out w f l 0 else (0, fitS out w l)

theorem chunksS_length (n : Nat) (w : List Int) (k : Nat) : (chunksS n w k).length = k := by simp [chunksS]
theorem rowsS_good {o : Int} {w : List Int} (h : (rowsS o w).2 = 0) : ∃ k m : Nat, o = k ∧ 2 ≤ k ∧ k ≤ 8 ∧ 2 ≤ m ∧ m ≤ 17 ∧ m * k = w.length ∧ (rowsS o w).1 = chunksS m w k := by
  unfold rowsS at h ⊢
  by_cases c : badOut o
  · rw [if_pos c] at h; cases h
  · rw [if_neg c] at h ⊢
    by_cases g : goodRow o w
    · rw [if_pos g]
      unfold badOut at c
      obtain ⟨g1, g2, g3⟩ := g
      exact ⟨o.toNat, w.length / o.toNat, by omega, by omega, by omega, g1, g2, g3, rfl⟩
    · rw [if_neg g] at h; cases h
theorem chunk_len {n k i : Nat} {w : List Int} (h : n * k = w.length) (hi : i < k) : ((w.drop (i * n)).take n).length = n := by
  have h1 : (i + 1) * n ≤ k * n := Nat.mul_le_mul_right n hi
  rw [Nat.add_mul, Nat.one_mul, Nat.mul_comm k n, h] at h1
  rw [List.length_take, List.length_drop]
  omega
theorem chunks_mem {n k : Nat} {w r : List Int} (h : n * k = w.length) (hr : r ∈ chunksS n w k) : r.length = n ∧ ∀ x ∈ r, x ∈ w := by
  unfold chunksS at hr
  obtain ⟨i, hi, rfl⟩ := List.mem_map.1 hr
  exact ⟨chunk_len h (List.mem_range.1 hi), fun x hx => List.mem_of_mem_drop (List.mem_of_mem_take hx)⟩
theorem chunks_v64 {n k : Nat} {w r : List Int} (h : n * k = w.length) (hv : V64 w) (hr : r ∈ chunksS n w k) : V64 r := fun x hx => hv x ((chunks_mem h hr).2 x hx)
theorem chunks_head {n k : Nat} {w : List Int} (h : n * k = w.length) (hk : 0 < k) : ((chunksS n w k).getD 0 []).length = n := by
  have h0 : 0 < (chunksS n w k).length := by rw [chunksS_length]; exact hk
  have : (chunksS n w k).getD 0 [] ∈ chunksS n w k := by
    rw [List.getD_eq_getElem?_getD, List.getElem?_eq_getElem h0, Option.getD_some]; exact List.getElem_mem h0
  exact (chunks_mem h this).1
theorem seqV_nil_of : ∀ ps : List (Int × Int), (seqV ps).2 ≠ 0 → (seqV ps).1 = []
  | [], h => by simp [seqV] at h
  | p :: ps, h => by
    simp only [seqV] at h ⊢
    split <;> (try split) <;> simp_all
theorem seqV_i64 : ∀ ps : List (Int × Int), (∀ p ∈ ps, I64 p.1) → V64 (seqV ps).1
  | [], _ => by intro x hx; simp [seqV] at hx
  | p :: ps, h => by
    have ih := seqV_i64 ps (fun q hq => h q (List.mem_cons_of_mem _ hq))
    intro x hx
    simp only [seqV] at hx
    split at hx
    · split at hx
      · rcases List.mem_cons.1 hx with rfl | hx
        · exact h p List.mem_cons_self
        · exact ih x hx
      · simp at hx
    · simp at hx
theorem linesS_ok {o : Int} {w x : List Int} {f : Int} (h : (linesS o w x f).2 = 0) : (rowsS o w).2 = 0 ∧ (((rowsS o w).1.getD 0 []).length : Int) - 1 = x.length ∧ (0 ≤ f ∧ f ≤ 30) ∧ linesS o w x f = seqV ((rowsS o w).1.map fun row => tellL row x f) := by
  unfold linesS at h ⊢
  by_cases c : (rowsS o w).2 = 0
  · rw [if_neg (not_not_intro c)] at h ⊢
    by_cases c2 : (((rowsS o w).1.getD 0 []).length : Int) - 1 = x.length
    · rw [if_neg (not_not_intro c2)] at h ⊢
      by_cases c3 : f < 0 ∨ f > 30
      · rw [if_pos c3] at h; cases h
      · rw [if_neg c3]
        exact ⟨c, c2, by omega, rfl⟩
    · rw [if_pos c2] at h; cases h
  · rw [if_pos c] at h; exact absurd h c
theorem linesS_v64 {o : Int} {w x : List Int} {f : Int} (h : (linesS o w x f).2 = 0) : V64 (linesS o w x f).1 := by
  rw [(linesS_ok h).2.2.2]
  refine seqV_i64 _ ?_
  intro p hp
  obtain ⟨r, -, rfl⟩ := List.mem_map.1 hp
  exact tellL_i64 _ _ _
theorem seqV_slen : ∀ ps : List (Int × Int), (seqV ps).2 = 0 → (seqV ps).1.length = ps.length
  | [], _ => rfl
  | p :: ps, h => by
    have ih := seqV_slen ps
    simp only [seqV] at h ⊢
    by_cases c : p.2 = 0
    · rw [if_pos c] at h ⊢
      by_cases c2 : (seqV ps).2 = 0
      · rw [if_pos c2, List.length_cons, ih c2, List.length_cons]
      · rw [if_neg c2] at h; exact absurd h c2
    · rw [if_neg c] at h; exact absurd h c
theorem softV_len {f : Int} {z : List Int} (h : (softV f z).2 = 0) : (softV f z).1.length = z.length := by
  unfold softV at h ⊢
  by_cases c : (bestF z).2 = 0
  · rw [if_neg (not_not_intro c)] at h ⊢
    by_cases c2 : f < 0 ∨ f > 30
    · rw [if_pos c2] at h; cases h
    · rw [if_neg c2] at h ⊢
      by_cases c3 : (seqV (z.map (powF (rd z (bestF z).1) f))).2 = 0
      · rw [if_neg (not_not_intro c3)] at h ⊢
        rw [seqV_slen _ h, List.length_map, seqV_slen _ c3, List.length_map]
      · rw [if_pos c3] at h; exact absurd h c3
  · rw [if_pos c] at h; exact absurd h c
theorem linesS_len {o : Int} {w x : List Int} {f : Int} (h : (linesS o w x f).2 = 0) : ((linesS o w x f).1.length : Int) = o ∧ 2 ≤ o ∧ o ≤ 8 := by
  obtain ⟨h1, -, -, h4⟩ := linesS_ok h
  obtain ⟨k, m, rfl, hk2, hk8, hm2, hm17, hmk, hr⟩ := rowsS_good h1
  rw [h4] at h ⊢
  rw [seqV_slen _ h, List.length_map, hr, chunksS_length]
  omega
theorem tellS_ok {o : Int} {w x : List Int} {f : Int} (h : (tellS o w x f).2 = 0) : (linesS o w x f).2 = 0 ∧ (softV f (linesS o w x f).1).2 = 0 ∧ tellS o w x f = softV f (linesS o w x f).1 ∧ ((tellS o w x f).1.length : Int) = o ∧ 2 ≤ o ∧ o ≤ 8 ∧ 0 ≤ f ∧ f ≤ 30 := by
  unfold tellS at h ⊢
  by_cases c : (linesS o w x f).2 = 0
  · rw [if_pos c] at h ⊢
    have h1 := linesS_len c
    have h2 := (linesS_ok c).2.2.1
    refine ⟨c, h, rfl, ?_, h1.2.1, h1.2.2, h2.1, h2.2⟩
    rw [softV_len h]; exact h1.1
  · rw [if_neg c] at h; exact absurd h c
theorem softV_a64 (f : Int) (z : List Int) : V64 (softV f z).1 := by
  unfold softV
  split
  · intro x hx; cases hx
  · split
    · intro x hx; cases hx
    · split
      · intro x hx; cases hx
      · refine seqV_i64 _ ?_
        intro p hp
        obtain ⟨q, -, rfl⟩ := List.mem_map.1 hp
        exact divF_i64 _ _ _
theorem offS_good {o : Int} {w x : List Int} {y f : Int} (h : (offS o w x y f).2 = 0) : ((offS o w x y f).1.length : Int) = o ∧ 2 ≤ o ∧ o ≤ 8 ∧ V64 (offS o w x y f).1 := by
  unfold offS at h ⊢
  by_cases c : (tellS o w x f).2 = 0
  · rw [if_pos c] at h ⊢
    obtain ⟨-, -, he, hl, h2, h8, -, -⟩ := tellS_ok c
    by_cases c2 : y < 0 ∨ y ≥ o
    · rw [if_pos c2] at h; cases h
    · rw [if_neg c2]
      refine ⟨by rw [List.length_set]; exact hl, h2, h8, ?_⟩
      intro z hz
      rcases List.mem_or_eq_of_mem_set hz with e | e
      · rw [he] at e; exact softV_a64 _ _ z e
      · rw [e]; exact wrap64_i64 _
  · rw [if_neg c] at h; exact absurd h c
theorem scaleV_xlen (a : List Int) (k f : Int) : (scaleV a k f).1.length ≤ a.length := by
  unfold scaleV
  split
  · split
    · have := seqV_lle (a.map fun x => mulF x k f); rw [List.length_map] at this; exact this
    · exact Nat.zero_le _
  · exact Nat.zero_le _
theorem bendRows_len {x : List Int} {f : Int} : ∀ {os : List Int}, (bendRows x f os).1.length ≤ os.length * (x.length + 1)
  | [] => Nat.zero_le _
  | o :: os => by
    have ih := @bendRows_len x f os
    have hl := scaleV_xlen x o f
    rw [bendRows, List.length_cons, Nat.add_mul, Nat.one_mul]
    split
    · split
      · rw [List.length_append, List.length_cons]; omega
      · exact Nat.zero_le _
    · exact Nat.zero_le _
theorem bendRows_v64 {x : List Int} {f : Int} : ∀ {os : List Int}, V64 os → V64 (bendRows x f os).1
  | [], _ => by intro z hz; simp [bendRows] at hz
  | o :: os, h => by
    have ih := @bendRows_v64 x f os (fun z hz => h z (List.mem_cons_of_mem _ hz))
    rw [bendRows]
    split
    · split
      · intro z hz
        rcases List.mem_append.1 hz with e | e
        · exact scaleV_v64 _ _ _ z e
        · rcases List.mem_cons.1 e with rfl | e
          · exact h z List.mem_cons_self
          · exact ih z e
      · intro z hz; cases hz
    · intro z hz; cases hz
theorem bendS_good (o : Int) (w : List Int) (f : Int) (s : List Int × Int) : V64 (bendS o w f s).1 ∧ (bendS o w f s).1.length ≤ 8 * (s.1.length + 1) := by
  unfold bendS
  by_cases c : (offS o w s.1 s.2 f).2 = 0
  · rw [if_pos c]
    obtain ⟨hl, h2, h8, hv⟩ := offS_good c
    exact ⟨bendRows_v64 hv, Nat.le_trans bendRows_len (Nat.mul_le_mul_right _ (by omega))⟩
  · rw [if_neg c]; exact ⟨(fun x hx => by cases hx), Nat.zero_le _⟩
theorem fitS_ok {o : Int} {w : List Int} {l : List (List Int × Int)} (h : fitS o w l = 0) : l.length ≤ 64 ∧ ∀ s ∈ l, s.1.length ≤ 16 := by
  unfold fitS at h
  by_cases c : (rowsS o w).2 = 0
  · rw [if_neg (not_not_intro c)] at h
    obtain ⟨k, m, rfl, hk2, hk8, hm2, hm17, hmk, hr⟩ := rowsS_good c
    have hhd : ((rowsS (k : Int) w).1.getD 0 []).length = m := by rw [hr]; exact chunks_head hmk (by omega)
    rw [hhd, wrap64_of (by unfold I64; omega)] at h
    unfold checkS at h
    split at h
    · cases h
    · split at h
      · cases h
      · rename_i h2
        split at h
        · cases h
        · rename_i h3
          have h4 : ∀ s ∈ l, (s.1.length : Int) = (m : Int) - 1 := by
            apply Classical.byContradiction
            intro hn
            exact h2 (.inr hn)
          exact ⟨by omega, fun s hs => by have := h4 s hs; omega⟩
  · rw [if_pos c] at h; exact absurd h c
end Go.Proofs.Ytbnfejaeekljcaa.Sp
