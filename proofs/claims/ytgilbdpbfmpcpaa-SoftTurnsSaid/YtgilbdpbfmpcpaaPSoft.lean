/- Laws of lines of classes, in plain Lean. No program in sight. -/
import Derived.Test.YtgilbdpbfmpcpaaSoft
import Derived.Test.YtgilbdpbfmpcpaaPTable2
import Derived.Test.YtgilbdpbfmpcpaaPLinear
namespace Go.Proofs.Ytgilbdpbfmpcpaa.Sp
set_option linter.unusedVariables false
set_option linter.unusedSimpArgs false
open Go.RowKit Go.Proofs.YtgilbdpbfmpcpaaW.PrintWords

/-! ### pieces -/
theorem take_chunk (n i : Nat) (w : List Int) : w.take (i * n) ++ (w.drop (i * n)).take n = w.take ((i + 1) * n) := by
  rw [Nat.add_mul, Nat.one_mul, List.take_add]
theorem chunks_get {n k i : Nat} {w : List Int} (h : i < k) : (chunksS n w k)[i]'(by rw [chunksS_length]; exact h) = (w.drop (i * n)).take n := by simp [chunksS]
/-- By so much greater behind every so many numbers, in the first j pieces. -/
def bump (m : Nat) (by_ : Int) (w : List Int) (j : Nat) : List Int := w.mapIdx fun i v => if i % m = m - 1 ∧ i / m < j then v + by_ else v
theorem bump_len (m : Nat) (b : Int) (w : List Int) (j : Nat) : (bump m b w j).length = w.length := by simp [bump]
theorem bump_get {m : Nat} {b : Int} {w : List Int} {j i : Nat} (h : i < w.length) : (bump m b w j)[i]'(by rw [bump_len]; exact h) = if i % m = m - 1 ∧ i / m < j then w[i] + b else w[i] := by simp [bump]
theorem bump_zero (m : Nat) (b : Int) (w : List Int) : bump m b w 0 = w := by
  refine List.ext_getElem (bump_len _ _ _ _) (fun i h1 h2 => ?_)
  rw [bump_get h2, if_neg (fun h => absurd h.2 (Nat.not_lt_zero _))]
theorem at_last {m j : Nat} (hm : 0 < m) : (j * m + (m - 1)) % m = m - 1 ∧ (j * m + (m - 1)) / m = j := by
  rw [Nat.mul_comm, Nat.mul_add_mod, Nat.mod_eq_of_lt (by omega), Nat.mul_add_div hm, Nat.div_eq_of_lt (by omega)]
  exact ⟨rfl, rfl⟩
theorem bump_step {m : Nat} {b : Int} {w : List Int} {j : Nat} (hm : 0 < m) (h : j * m + (m - 1) < w.length) : bump m b w (j + 1) = (bump m b w j).set (j * m + (m - 1)) (w[j * m + (m - 1)] + b) := by
  refine List.ext_getElem (by rw [List.length_set, bump_len, bump_len]) (fun i h1 h2 => ?_)
  rw [bump_len] at h1
  rw [bump_get h1, List.getElem_set, bump_get h1]
  by_cases c : j * m + (m - 1) = i
  · subst c
    rw [if_pos rfl, if_pos ⟨(at_last hm).1, by rw [(at_last hm).2]; omega⟩]
  · rw [if_neg c]
    by_cases d : i % m = m - 1 ∧ i / m < j
    · rw [if_pos d, if_pos ⟨d.1, by omega⟩]
    · rw [if_neg d]
      refine if_neg (fun e => ?_)
      have h3 := Nat.div_add_mod i m
      have h4 : i / m = j := by
        have : ¬ i / m < j := fun x => d ⟨e.1, x⟩
        omega
      rw [h4, e.1, Nat.mul_comm] at h3
      exact c h3
theorem bump_at {m : Nat} {b : Int} {w : List Int} {j : Nat} (hm : 0 < m) (h : j * m + (m - 1) < w.length) : (bump m b w j)[j * m + (m - 1)]'(by rw [bump_len]; exact h) = w[j * m + (m - 1)] := by
  rw [bump_get h, if_neg (by rw [(at_last hm).2]; omega)]
/-- A piece of what was made greater. -/
theorem bump_row {m k i : Nat} {b : Int} {w : List Int} (hm : 0 < m) (h : m * k = w.length) (hi : i < k) :
    ((bump m b w k).drop (i * m)).take m = ((w.drop (i * m)).take m).set (m - 1) (rd ((w.drop (i * m)).take m) ((m - 1 : Nat) : Int) + b) := by
  have hl := chunk_len h hi
  have hl2 : (((bump m b w k).drop (i * m)).take m).length = m := chunk_len (by rw [bump_len]; exact h) hi
  have h1 : (i + 1) * m ≤ k * m := Nat.mul_le_mul_right m hi
  rw [Nat.add_mul, Nat.one_mul, Nat.mul_comm k m, h] at h1
  refine List.ext_getElem (by rw [List.length_set, hl, hl2]) (fun t h3 h4 => ?_)
  have ht : t < m := by omega
  have e1 : (i * m + t) % m = t := by rw [Nat.mul_comm, Nat.mul_add_mod, Nat.mod_eq_of_lt ht]
  have e2 : (i * m + t) / m = i := by rw [Nat.mul_comm, Nat.mul_add_div hm, Nat.div_eq_of_lt ht]; rfl
  rw [List.getElem_take, List.getElem_drop, bump_get (by omega), List.getElem_set, e1, e2]
  by_cases c : m - 1 = t
  · rw [if_pos ⟨c.symm, hi⟩, if_pos c, rd_nat (by omega)]
    simp only [List.getElem_take, List.getElem_drop, c]
  · rw [if_neg (fun e => c e.1.symm), if_neg c, List.getElem_take, List.getElem_drop]
/-! ### lines -/
theorem rowsS_of {k m : Nat} {w : List Int} (hk : 2 ≤ k ∧ k ≤ 8) (hm : 2 ≤ m ∧ m ≤ 17) (h : m * k = w.length) : rowsS k w = (chunksS m w k, 0) := by
  have hd : w.length / k = m := by rw [← h]; exact Nat.mul_div_cancel _ (by omega)
  unfold rowsS
  rw [if_neg (by unfold badOut; omega), if_pos (by unfold goodRow; rw [Int.toNat_natCast, hd]; exact ⟨hm.1, hm.2, h⟩), Int.toNat_natCast, hd]
/-- What lines tell, each by itself. -/
theorem linesS_rows {o : Int} {w x : List Int} {f : Int} (h : (linesS o w x f).2 = 0) : ∃ k m : Nat, o = k ∧ 2 ≤ k ∧ k ≤ 8 ∧ 2 ≤ m ∧ m ≤ 17 ∧ m * k = w.length ∧ m = x.length + 1 ∧ (0 ≤ f ∧ f ≤ 30) ∧ linesS o w x f = seqV ((chunksS m w k).map fun row => tellL row x f) := by
  obtain ⟨h1, h2, h3, h4⟩ := linesS_ok h
  obtain ⟨k, m, rfl, hk2, hk8, hm2, hm17, hmk, hr⟩ := rowsS_good h1
  rw [hr] at h2 h4
  rw [chunks_head hmk (by omega)] at h2
  exact ⟨k, m, rfl, hk2, hk8, hm2, hm17, hmk, by omega, h3, h4⟩
theorem linesS_of {k m : Nat} {w x : List Int} {f : Int} (hk : 2 ≤ k ∧ k ≤ 8) (hm : 2 ≤ m ∧ m ≤ 17) (h : m * k = w.length) (hx : m = x.length + 1) (hf : 0 ≤ f ∧ f ≤ 30) : linesS k w x f = seqV ((chunksS m w k).map fun row => tellL row x f) := by
  unfold linesS
  rw [rowsS_of hk hm h]
  simp only []
  rw [if_neg (by decide), chunks_head h (by omega), if_neg (by omega), if_neg (by omega)]
theorem seqV_each {α : Type} {g : α → Int × Int} {v : α → Int} : ∀ (l : List α), (∀ x ∈ l, g x = (v x, 0)) → seqV (l.map g) = (l.map v, 0)
  | [], _ => rfl
  | x :: l, h => by
    rw [List.map_cons, seqV, h x (by simp), seqV_each l (fun y hy => h y (by simp [hy]))]
    simp only [if_true, List.map_cons]
/-- Small lines tell small numbers; greater by the same, they tell as much more. -/
theorem lines_bump {k m : Nat} {w x : List Int} {f b : Int} (hk : 2 ≤ k ∧ k ≤ 8) (hm : 2 ≤ m ∧ m ≤ 17) (h : m * k = w.length) (hx : m = x.length + 1) (hf : 0 ≤ f ∧ f ≤ 30)
    (hw : ∀ n ∈ w, -1099511627776 ≤ n ∧ n ≤ 1099511627776) (hxs : ∀ n ∈ x, -32768 ≤ n ∧ n ≤ 32768) (hb : -1099511627776 ≤ b ∧ b ≤ 1099511627776) :
    ∃ z : List Int, linesS k w x f = (z, 0) ∧ linesS k (bump m b w k) x f = (z.map (· + b), 0) ∧ ∀ n ∈ z, -2305843009213693952 ≤ n ∧ n ≤ 2305843009213693952 := by
  have hck : ∀ row : List Int, row.length = m → checkL x.length row [(x, 0)] = 0 := fun row hr => checkL_of (by omega) (by omega) (by omega) (fun s hs => by rw [List.mem_singleton.1 hs]) (by simp) (by simp)
  have hrow : ∀ i, i < k → ((w.drop (i * m)).take m).length = m ∧ ∀ n ∈ (w.drop (i * m)).take m, -1099511627776 ≤ n ∧ n ≤ 1099511627776 := fun i hi => ⟨chunk_len h hi, fun n hn => hw n (List.mem_of_mem_drop (List.mem_of_mem_take hn))⟩
  have ht : ∀ i, i < k → tellL ((w.drop (i * m)).take m) x f = (isum (dots f (((w.drop (i * m)).take m).take x.length) x) + rd ((w.drop (i * m)).take m) x.length, 0) ∧ -(16 * (1099511627776 * 32768)) ≤ isum (dots f (((w.drop (i * m)).take m).take x.length) x) ∧ isum (dots f (((w.drop (i * m)).take m).take x.length) x) ≤ 16 * (1099511627776 * 32768) ∧ -1099511627776 ≤ rd ((w.drop (i * m)).take m) x.length ∧ rd ((w.drop (i * m)).take m) x.length ≤ 1099511627776 := fun i hi =>
    tellL_small (A := 1099511627776) (B := 32768) (by decide) (by decide) (hck _ (hrow i hi).1) (hrow i hi).2 hxs (by decide) (by decide) hf
  have ht2 : ∀ i, i < k → tellL (((bump m b w k).drop (i * m)).take m) x f = (isum (dots f (((w.drop (i * m)).take m).take x.length) x) + rd ((w.drop (i * m)).take m) x.length + b, 0) := fun i hi => by
    obtain ⟨h1, h2, h3, h4, h5⟩ := ht i hi
    have hl := (hrow i hi).1
    rw [bump_row (by omega) h hi]
    generalize (w.drop (i * m)).take m = row at *
    have e1 : m - 1 = x.length := by omega
    rw [e1]
    unfold tellL at h1 ⊢
    rw [if_pos (hck _ (by rw [List.length_set]; exact hl)), List.take_set_of_le (Nat.le_refl _)]
    rw [if_pos (hck _ hl)] at h1
    have hd : (dotV (row.take x.length) x f).2 = 0 := by
      by_cases c : (dotV (row.take x.length) x f).2 = 0
      · exact c
      · rw [if_neg c] at h1; exact absurd (congrArg Prod.snd h1) c
    rw [if_pos hd] at h1 ⊢
    have hI : I64 ((dotV (row.take x.length) x f).1 + rd row x.length) := by
      apply Classical.byContradiction
      intro c
      rw [res_not c] at h1
      exact absurd (show (2 : Int) = 0 from congrArg Prod.snd h1) (by decide)
    rw [res_of hI] at h1
    have hs := congrArg Prod.fst h1
    simp only [] at hs
    have er : rd (row.set x.length (rd row x.length + b)) x.length = rd row x.length + b := by rw [rd_nat (by rw [List.length_set]; omega), List.getElem_set_self]
    rw [er, res_of (by unfold I64; omega)]
    congr 1
    omega
  refine ⟨(List.range k).map fun i => isum (dots f (((w.drop (i * m)).take m).take x.length) x) + rd ((w.drop (i * m)).take m) x.length, ?_, ?_, ?_⟩
  · rw [linesS_of hk hm h hx hf]
    unfold chunksS
    rw [List.map_map]
    exact seqV_each _ (fun i hi => (ht i (List.mem_range.1 hi)).1)
  · rw [linesS_of hk hm (by rw [bump_len]; exact h) hx hf]
    unfold chunksS
    rw [List.map_map, List.map_map]
    exact seqV_each _ (fun i hi => ht2 i (List.mem_range.1 hi))
  · intro n hn
    obtain ⟨i, hi, rfl⟩ := List.mem_map.1 hn
    obtain ⟨-, h2, h3, h4, h5⟩ := ht i (List.mem_range.1 hi)
    omega
/-! ### sums -/
theorem sumI_set : ∀ (l : List Int) (i : Nat) (v : Int), i < l.length → sumI (l.set i v) = sumI l - rd l (i : Int) + v
  | [], i, v, h => absurd h (by simp)
  | x :: l, 0, v, _ => by
    have e : rd (x :: l) ((0 : Nat) : Int) = x := by rw [rd_nat (by simp)]; rfl
    rw [e, List.set_cons_zero, sumI, sumI]; omega
  | x :: l, i + 1, v, h => by
    have ih := sumI_set l i v (by simpa using h)
    have e : rd (x :: l) ((i + 1 : Nat) : Int) = rd l (i : Int) := by rw [rd_nat h, rd_nat (by simpa using h)]; rfl
    rw [e, List.set_cons_succ, sumI, sumI, ih]; omega
theorem sumI_take (s : List Int) (i : Nat) (h : i < s.length) : sumI (s.take (i + 1)) = sumI (s.take i) + rd s i := by
  rw [List.take_add_one, List.getElem?_eq_getElem h, rd_nat h]
  exact sumI_app _ _
/-- What is known of shares. -/
structure Fine (f : Int) (z s : List Int) (a : Int) : Prop where
  len : s.length = z.length
  nonneg : ∀ i : Nat, i < z.length → 0 ≤ rd s i
  le : ∀ i : Nat, i < z.length → rd s i ≤ 2 ^ f.toNat
  most : ∀ i : Nat, i < z.length → rd s i ≤ rd s a
  whole : sumI s ≤ 2 ^ f.toNat
  more : 2 ^ f.toNat - sumI s < z.length
theorem fine_of {f : Int} {z : List Int} {a : Int} (hf : 0 ≤ f ∧ f ≤ 30) (hb : IsBest z a) : Fine f z (shares (rd z a) f z) a := by
  have hp := pow_pos_ f.toNat
  have hS := pows_pos hb hf
  have hn : 0 < z.length := by have := hb.1; have := hb.2.1; omega
  have hP : ∀ i : Nat, i < z.length → rd (shares (rd z a) f z) i = powE (rd z a - rd z i) f * 2 ^ f.toNat / sumI (pows (rd z a) f z) := by
    intro i hi
    rw [rd_nat (by simpa [shares, pows] using hi), rd_nat hi]
    simp [shares, pows]
  have hmem := pows_mem hb.le hf
  have hle : ∀ i : Nat, i < z.length → rd z i ≤ rd z a := fun i hi => hb.2.2.1 i hi
  have hin : ∀ i : Nat, i < z.length → powE (rd z a - rd z i) f ∈ pows (rd z a) f z := fun i hi => List.mem_map.2 ⟨rd z i, rd_mem hi, rfl⟩
  have ha : ((a.toNat : Nat) : Int) = a := by have := hb.1; omega
  have hat := hP a.toNat (by have := hb.1; have := hb.2.1; omega)
  rw [ha] at hat
  have hne : pows (rd z a) f z ≠ [] := by intro e; have := congrArg List.length e; simp [pows] at this; rw [this] at hn; simp at hn
  have hlen : (pows (rd z a) f z).length = z.length := by simp [pows]
  refine ⟨by simp [shares, pows], fun i hi => ?_, fun i hi => ?_, fun i hi => ?_, ?_, ?_⟩
  · rw [hP i hi]; exact (share_bd (hmem _ (hin i hi)).1 (sumI_mem _ (fun x hx => (hmem x hx).1) _ (hin i hi)) (by omega) (by omega)).1
  · rw [hP i hi]; exact (share_bd (hmem _ (hin i hi)).1 (sumI_mem _ (fun x hx => (hmem x hx).1) _ (hin i hi)) (by omega) (by omega)).2
  · rw [hP i hi, hat]
    exact share_mono (powE_mono (by omega) (by have := hle i hi; omega) hf) (by omega) (by omega)
  · exact sum_whole (by omega)
  · have := sum_more (l := pows (rd z a) f z) (c := 2 ^ f.toNat) (by omega) hne
    rw [hlen] at this; exact this
theorem shl_pow {f : Int} (hf : 0 ≤ f ∧ f ≤ 30) : shl .i64 1 f = 2 ^ f.toNat := by
  have hp := pow_pos_ f.toNat
  have h30 := pow_le30_ hf
  unfold shl
  rw [show min f.toNat IntKind.i64.bits = f.toNat from by show min f.toNat 64 = _; omega, iwrap, wrap64_of (by unfold I64; omega)]; omega
/-- What is known of what lines tell. -/
theorem tellS_fine {o : Int} {w x : List Int} {f : Int} (h : (tellS o w x f).2 = 0) : (0 ≤ f ∧ f ≤ 30) ∧ ((tellS o w x f).1.length : Int) = o ∧ 2 ≤ o ∧ o ≤ 8 ∧ (linesS o w x f).2 = 0 ∧ classS o w x f = ((classS o w x f).1, 0) ∧ (0 ≤ (classS o w x f).1 ∧ (classS o w x f).1 < o) ∧
    Fine f (linesS o w x f).1 (tellS o w x f).1 (classS o w x f).1 := by
  obtain ⟨h1, h2, h3, h4, h5, h6, h7, h8⟩ := tellS_ok h
  obtain ⟨hf, hbest, hlen, hb0, hnear, es⟩ := softV_ok h2
  have hcl : classS o w x f = bestF (linesS o w x f).1 := if_pos h1
  have F := fine_of hf hbest
  have hb1 := hbest.2.1
  have hlo := (linesS_len h1).1
  rw [← show (tellS o w x f).1 = shares (rd (linesS o w x f).1 (bestF (linesS o w x f).1).1) f (linesS o w x f).1 by rw [h3, es]] at F
  rw [hcl]
  exact ⟨hf, h4, h5, h6, h1, Prod.ext rfl hb0, ⟨hbest.1, by omega⟩, F⟩
theorem linesS_err {o : Int} {w x : List Int} {f : Int} (h : (linesS o w x f).2 ≠ 0) : (linesS o w x f).1 = [] := by
  unfold linesS at h ⊢
  by_cases c : (rowsS o w).2 = 0
  · rw [if_neg (not_not_intro c)] at h ⊢
    split
    · rfl
    · rename_i c1
      rw [if_neg c1] at h
      split
      · rfl
      · rename_i c2
        rw [if_neg c2] at h
        exact seqV_nil_of _ h
  · rw [if_pos c]
theorem tellS_err {o : Int} {w x : List Int} {f : Int} (h : (tellS o w x f).2 ≠ 0) : (tellS o w x f).1 = [] := by
  unfold tellS at h ⊢
  split
  · rename_i c; rw [if_pos c] at h; exact softV_err h
  · rfl
theorem offS_err {o : Int} {w x : List Int} {y f : Int} (h : (offS o w x y f).2 ≠ 0) : (offS o w x y f).1 = [] := by
  unfold offS at h ⊢
  split
  · rename_i c
    rw [if_pos c] at h
    split
    · rfl
    · rename_i c2; rw [if_neg c2] at h; exact absurd rfl h
  · rfl
/-- What a sample is off. -/
theorem offS_fine {o : Int} {w x : List Int} {y f : Int} (h : (offS o w x y f).2 = 0) : (0 ≤ f ∧ f ≤ 30) ∧ ((offS o w x y f).1.length : Int) = o ∧ 2 ≤ o ∧ o ≤ 8 ∧
    (∀ i : Nat, (i : Int) < o → (((i : Int) = y → rd (offS o w x y f).1 i ≤ 0 ∧ -(2 ^ f.toNat) ≤ rd (offS o w x y f).1 i) ∧ ((i : Int) ≠ y → 0 ≤ rd (offS o w x y f).1 i ∧ rd (offS o w x y f).1 i ≤ 2 ^ f.toNat))) ∧
    sumI (offS o w x y f).1 ≤ 0 ∧ -o < sumI (offS o w x y f).1 := by
  have hg := offS_good h
  unfold offS at h hg ⊢
  by_cases c : (tellS o w x f).2 = 0
  · rw [if_pos c] at h hg ⊢
    by_cases c2 : y < 0 ∨ y ≥ o
    · rw [if_pos c2] at h; cases h
    · rw [if_neg c2] at hg ⊢
      obtain ⟨hf, hl, ho2, ho8, h1, h2, h3, F⟩ := tellS_fine c
      have hp := pow_pos_ f.toNat
      have h30 := pow_le30_ hf
      have fl := F.len
      obtain ⟨k, rfl⟩ : ∃ k : Nat, y = k := ⟨y.toNat, by omega⟩
      have hk : k < (tellS o w x f).1.length := by omega
      have n1 := F.nonneg k (by omega)
      have n2 := F.le k (by omega)
      have ew : wrap64 (rd (tellS o w x f).1 (k : Int) - 2 ^ f.toNat) = rd (tellS o w x f).1 (k : Int) - 2 ^ f.toNat := wrap64_of (by unfold I64; omega)
      have es := sumI_set (tellS o w x f).1 k (rd (tellS o w x f).1 (k : Int) - 2 ^ f.toNat) hk
      have w1 := F.whole
      have w2 := F.more
      simp only [] at hg ⊢
      rw [ew, Int.toNat_natCast] at hg ⊢
      refine ⟨hf, hg.1, ho2, ho8, fun i hi => ⟨fun e => ?_, fun e => ?_⟩, by omega, by omega⟩
      · have : i = k := by omega
        subst this
        rw [rd_nat (by rw [List.length_set]; exact hk), List.getElem_set_self]
        omega
      · have q1 := F.nonneg i (by omega)
        have q2 := F.le i (by omega)
        have : rd ((tellS o w x f).1.set k (rd (tellS o w x f).1 (k : Int) - 2 ^ f.toNat)) (i : Int) = rd (tellS o w x f).1 (i : Int) := by
          rw [rd_nat (by rw [List.length_set]; omega), List.getElem_set_ne (by omega)]
          exact (rd_nat (by omega)).symm
        rw [this]; exact ⟨q1, q2⟩
  · rw [if_neg c] at h; exact absurd h c
/-! ### numbers greater by the same -/
theorem rd_shift (z : List Int) (b : Int) (i : Nat) (h : i < z.length) : rd (z.map (· + b)) i = rd z i + b := by
  rw [rd_nat (by simpa using h), rd_nat h]; simp
theorem best_shift (z : List Int) (b : Int) : bestF (z.map (· + b)) = bestF z := by
  by_cases h : (bestF z).2 = 0
  · obtain ⟨hb, h0, h1⟩ := bestF_is h
    have e : bestF z = ((bestF z).1, 0) := Prod.ext rfl h
    rw [e]
    obtain ⟨b0, b1, b2, b3⟩ := hb
    refine bestF_of ⟨b0, by simpa using b1, fun j hj => ?_, fun j hj => ?_⟩ (by simpa using h1)
    · have hj' : j < z.length := by simpa using hj
      have := b2 j hj'
      have ea := rd_shift z b (bestF z).1.toNat (by omega)
      rw [show (((bestF z).1.toNat : Nat) : Int) = (bestF z).1 by omega] at ea
      rw [rd_shift z b j hj', ea]; omega
    · have := b3 j hj
      have ea := rd_shift z b (bestF z).1.toNat (by omega)
      rw [show (((bestF z).1.toNat : Nat) : Int) = (bestF z).1 by omega] at ea
      rw [rd_shift z b j (by omega), ea]; omega
  · unfold bestF at *
    simp only [List.length_map]
    split at h
    · rename_i c; rw [if_pos c, if_pos c]
    · rename_i c
      split at h
      · rename_i d; rw [if_neg c, if_neg c, if_pos d, if_pos d]
      · exact absurd rfl h
theorem soft_shift (f : Int) (z : List Int) (b : Int) (hz : ∀ x ∈ z, -2305843009213693952 ≤ x ∧ x ≤ 2305843009213693952) : softV f (z.map (· + b)) = softV f z := by
  by_cases h : (bestF z).2 = 0
  · by_cases hf : f < 0 ∨ f > 30
    · rw [softV_bad2 h hf, softV_bad2 (by rw [best_shift]; exact h) hf]
    · obtain ⟨hb, h0, h1⟩ := bestF_is h
      have h' : (bestF (z.map (· + b))).2 = 0 := by rw [best_shift]; exact h
      obtain ⟨hb', _, h1'⟩ := bestF_is h'
      rw [best_shift] at hb'
      have ea := rd_shift z b (bestF z).1.toNat (by have := hb.1; have := hb.2.1; omega)
      rw [show (((bestF z).1.toNat : Nat) : Int) = (bestF z).1 by have := hb.1; omega] at ea
      have hm := hz _ hb.mem
      have hn : NearB (rd z (bestF z).1) z := fun x hx => by have := hz x hx; omega
      have hn' : NearB (rd (z.map (· + b)) (bestF z).1) (z.map (· + b)) := fun x hx => by
        obtain ⟨y, hy, rfl⟩ := List.mem_map.1 hx
        have := hz y hy
        rw [ea]; omega
      rw [softV_near hb h1 (by omega) hn, softV_near hb' h1' (by omega) hn']
      have ep : pows (rd (z.map (· + b)) (bestF z).1) f (z.map (· + b)) = pows (rd z (bestF z).1) f z := by
        unfold pows
        rw [List.map_map]
        apply List.map_congr_left
        intro x _
        show powE (_ - (x + b)) f = _
        rw [ea]; congr 1; omega
      unfold shares
      rw [ep]
  · rw [softV_bad1 h, softV_bad1 (by rw [best_shift]; exact h), best_shift]
/-- With all bases greater by the same, shares and class are the same. -/
theorem tellS_bump {o : Int} {w x : List Int} {f b : Int} (h : (tellS o w x f).2 = 0) (hw : ∀ n ∈ w, -1099511627776 ≤ n ∧ n ≤ 1099511627776) (hxs : ∀ n ∈ x, -32768 ≤ n ∧ n ≤ 32768) (hb : -1099511627776 ≤ b ∧ b ≤ 1099511627776) :
    tellS o (bump (x.length + 1) b w o.toNat) x f = tellS o w x f ∧ classS o (bump (x.length + 1) b w o.toNat) x f = classS o w x f := by
  obtain ⟨h1, -, -, -, -, -, -, -⟩ := tellS_ok h
  obtain ⟨k, m, rfl, hk2, hk8, hm2, hm17, hmk, rfl, hf, -⟩ := linesS_rows h1
  rw [Int.toNat_natCast]
  obtain ⟨z, e1, e2, hz⟩ := lines_bump ⟨hk2, hk8⟩ ⟨hm2, hm17⟩ hmk rfl hf hw hxs hb
  unfold tellS classS
  rw [e1, e2]
  simp only [if_true]
  exact ⟨soft_shift f z b hz, best_shift z b⟩
end Go.Proofs.Ytgilbdpbfmpcpaa.Sp
