/- VecSums: the sum of vectors is the first one, and the sum of the others, added; the other way round it is the same. -/
import Derived.Test.YtllicjinmlkcfaaHBx10
import Derived.Test.YtllicjinmlkcfaaPVec
namespace Go.Proofs.Ytllicjinmlkcfaa.Pure
open Go.RowKit Go.Proofs.Ytllicjinmlkcfaa.HB Go.Proofs.YtllicjinmlkcfaaW.PrintWords Go.Proofs.YtllicjinmlkcfaaW.PrintLast Go.Proofs.YtllicjinmlkcfaaW.PrintMore Go.Proofs.Ytllicjinmlkcfaa.Sp
set_option linter.unusedVariables false
set_option linter.unusedSimpArgs false
/-- Column by column. -/
def zadd (a b : List Int) : List Int := List.zipWith (· + ·) a b
def colSum (m : Nat) : List (List Int) → List Int
  | [] => List.replicate m 0
  | v :: l => zadd v (colSum m l)
theorem zadd_assoc : ∀ a b c : List Int, zadd (zadd a b) c = zadd a (zadd b c)
  | [], b, c => by simp [zadd]
  | _ :: _, [], c => by simp [zadd]
  | _ :: _, _ :: _, [] => by simp [zadd]
  | x :: a, y :: b, z :: c => by
    have ih := zadd_assoc a b c
    simp only [zadd, List.zipWith_cons_cons] at ih ⊢
    rw [ih, Int.add_assoc]
theorem zadd_comm : ∀ a b : List Int, zadd a b = zadd b a
  | [], b => by simp [zadd]
  | _ :: _, [] => by simp [zadd]
  | x :: a, y :: b => by
    have ih := zadd_comm a b
    simp only [zadd, List.zipWith_cons_cons] at ih ⊢
    rw [ih, Int.add_comm]
theorem zadd_zero : ∀ a : List Int, zadd a (List.replicate a.length 0) = a
  | [] => rfl
  | x :: a => by
    have ih := zadd_zero a
    simp only [zadd, List.length_cons, List.replicate_succ, List.zipWith_cons_cons] at ih ⊢
    rw [ih, Int.add_zero]
theorem zadd_len {a b : List Int} {m : Nat} (ha : a.length = m) (hb : b.length = m) : (zadd a b).length = m := by simp [zadd, ha, hb]
theorem colSum_len {m : Nat} : ∀ l : List (List Int), (∀ v ∈ l, v.length = m) → (colSum m l).length = m
  | [], _ => by simp [colSum]
  | v :: l, h => zadd_len (h v (by simp)) (colSum_len l (fun u hu => h u (by simp [hu])))
/-- All numbers of a size of B at the most. -/
def Bd (B : Int) (a : List Int) : Prop := ∀ x ∈ a, -B ≤ x ∧ x ≤ B
theorem zadd_bd {A B : Int} : ∀ {a b : List Int}, Bd A a → Bd B b → Bd (A + B) (zadd a b)
  | [], b, _, _ => by intro x hx; simp [zadd] at hx
  | _ :: _, [], _, _ => by intro x hx; simp [zadd] at hx
  | x :: a, y :: b, ha, hb => by
    intro z hz
    simp only [zadd, List.zipWith_cons_cons] at hz
    have h1 := ha x (by simp)
    have h2 := hb y (by simp)
    rcases List.mem_cons.1 hz with e | e
    · omega
    · exact zadd_bd (a := a) (b := b) (fun u hu => ha u (by simp [hu])) (fun u hu => hb u (by simp [hu])) z e
theorem colSum_bd {m : Nat} {B : Int} (hB : 0 ≤ B) : ∀ l : List (List Int), (∀ v ∈ l, Bd B v) → Bd (B * l.length) (colSum m l)
  | [], _ => by intro x hx; rw [(List.mem_replicate.1 hx).2]; simp
  | v :: l, h => by
    have h1 := zadd_bd (h v (by simp)) (colSum_bd (m := m) hB l (fun u hu => h u (by simp [hu])))
    rw [show B * ((v :: l).length : Int) = B + B * (l.length : Int) by rw [List.length_cons]; push_cast; rw [Int.mul_add, Int.mul_one]; omega]
    exact h1
theorem seq_zadd {A B : Int} (hAB : A + B ≤ 9223372036854775807) : ∀ {a b : List Int}, Bd A a → Bd B b → seqV (List.zipWith (fun x y => res (x + y)) a b) = (zadd a b, 0)
  | [], b, _, _ => by simp [zadd, seqV]
  | _ :: _, [], _, _ => by simp [zadd, seqV]
  | x :: a, y :: b, ha, hb => by
    have h1 := ha x (by simp)
    have h2 := hb y (by simp)
    have ih := seq_zadd (a := a) (b := b) hAB (fun u hu => ha u (by simp [hu])) (fun u hu => hb u (by simp [hu]))
    rw [List.zipWith_cons_cons, res_of (show I64 (x + y) by unfold I64; omega), seqV_cons_of rfl (by rw [ih]), ih]
    simp [zadd]
theorem addV_zadd {A B : Int} {m : Nat} (hm : m ≤ 4096) {a b : List Int} (la : a.length = m) (lb : b.length = m) (hAB : A + B ≤ 9223372036854775807) (ha : Bd A a) (hb : Bd B b) : addV a b = (zadd a b, 0) := by
  unfold addV
  rw [if_pos (pairE_of (by omega) (by omega))]
  exact seq_zadd hAB ha hb
theorem sumFrom_col {m : Nat} (hm : m ≤ 4096) {B : Int} (hB : 0 ≤ B) : ∀ (l : List (List Int)) (acc : List Int) (A : Int), (∀ v ∈ l, v.length = m ∧ Bd B v) → acc.length = m → Bd A acc → A + B * l.length ≤ 9223372036854775807 →
    sumFrom l acc = (zadd acc (colSum m l), 0)
  | [], acc, A, _, ha, _, _ => by
    simp only [sumFrom, colSum]
    rw [← ha, zadd_zero]
  | v :: l, acc, A, h, ha, hA, hb => by
    have e : B * ((v :: l).length : Int) = B * (l.length : Int) + B := by rw [List.length_cons]; push_cast; rw [Int.mul_add, Int.mul_one]
    rw [e] at hb
    have hn : 0 ≤ B * (l.length : Int) := Int.mul_nonneg hB (by omega)
    have hv := h v (by simp)
    simp only [sumFrom]
    rw [addV_zadd hm ha hv.1 (by omega) hA hv.2, if_pos rfl, sumFrom_col hm hB l _ (A + B) (fun u hu => h u (by simp [hu])) (zadd_len ha hv.1) (zadd_bd hA hv.2) (by omega), zadd_assoc]
    rfl
theorem sumsV_col {m : Nat} (hm : m ≤ 4096) {B : Int} (hB : 0 ≤ B) (l : List (List Int)) (hl : 0 < l.length) (h : ∀ v ∈ l, v.length = m ∧ Bd B v) (hb : B * l.length ≤ 9223372036854775807) : sumsV l = (colSum m l, 0) := by
  cases l with
  | nil => simp at hl
  | cons v l =>
    have e : B * ((v :: l).length : Int) = B * (l.length : Int) + B := by rw [List.length_cons]; push_cast; rw [Int.mul_add, Int.mul_one]
    rw [e] at hb
    have hv := h v (by simp)
    show (if checkE v = 0 then sumFrom l v else ([], checkE v)) = _
    rw [if_pos (checkE_of (by omega)), sumFrom_col hm hB l v B (fun u hu => h u (by simp [hu])) hv.1 hv.2 (by omega)]
    rfl
theorem colSum_append {m : Nat} : ∀ (a b : List (List Int)), (∀ v ∈ b, v.length = m) → colSum m (a ++ b) = zadd (colSum m a) (colSum m b)
  | [], b, h => by
    have e := zadd_zero (colSum m b)
    rw [colSum_len b h] at e
    show colSum m b = zadd (List.replicate m 0) (colSum m b)
    rw [zadd_comm]; exact e.symm
  | v :: a, b, h => by simp only [List.cons_append, colSum]; rw [colSum_append a b h, zadd_assoc]
theorem colSum_reverse {m : Nat} : ∀ l : List (List Int), (∀ v ∈ l, v.length = m) → colSum m l.reverse = colSum m l
  | [], _ => rfl
  | v :: l, h => by
    have hv := h v (by simp)
    rw [List.reverse_cons, colSum_append _ _ (by intro u hu; cases List.mem_singleton.1 hu; exact hv), colSum_reverse l (fun u hu => h u (by simp [hu]))]
    show zadd (colSum m l) (zadd v (List.replicate m 0)) = zadd v (colSum m l)
    rw [← hv, zadd_zero, hv, zadd_comm]
theorem sums_l1 (x0 x30 : List (List Int)) (x31 x32 : Int) (v : List Int) (hb : v.length ≤ 4096) : ∀ (d i K : Nat), d + i = v.length →
    thrumlaw02_VecSums.l1 (K + d + 1) x0 true x30 x31 x32 v (v.length : Int) (i : Int) = some true ∨
    (Bd 1125899906842624 (v.drop i) ∧ thrumlaw02_VecSums.l1 (K + d + 1) x0 true x30 x31 x32 v (v.length : Int) (i : Int) = thrumlaw02_VecSums.l0 K x0 true x30 x31 (wrap64 (x32 + 1))) := by
  intro d
  induction d with
  | zero =>
    intro i K hd
    right
    rw [List.drop_eq_nil_of_le (by omega)]
    refine ⟨(by intro x hx; cases hx), ?_⟩
    rw [thrumlaw02_VecSums.l1.eq_2, if_neg (by omega)]
  | succ d ih =>
    intro i K hd
    have hi : i < v.length := by omega
    rw [show K + (d + 1) + 1 = (K + d + 1) + 1 by omega, thrumlaw02_VecSums.l1.eq_2, if_pos (by omega), if_pos (by omega), if_pos (by omega), show rd v (i : Int) = v[i] from rd_nat hi]
    by_cases c : v[i] > 1125899906842624
    · left; rw [if_pos c]
    · rw [if_neg c]
      by_cases c2 : v[i] < -1125899906842624
      · left; rw [if_pos c2]
      · rw [if_neg c2, wrap64_of (show I64 ((i : Int) + 1) by unfold I64; omega), show (i : Int) + 1 = ((i + 1 : Nat) : Int) by omega]
        rcases ih (i + 1) K (by omega) with h | ⟨h, h'⟩
        · exact .inl h
        · right
          refine ⟨?_, h'⟩
          rw [List.drop_eq_getElem_cons hi]
          intro x hx
          rcases List.mem_cons.1 hx with e | e
          · omega
          · exact h x e
/-- The end, when all is as it must be. -/
theorem sums_l2 (x0 : List (List Int)) (m : Nat) (hm : m ≤ 4096) (hv64 : ∀ v ∈ x0, V64 v) (hf : fewV x0 = true) (hn2 : 2 ≤ x0.length) (hn : x0.length ≤ 100) (h : ∀ v ∈ x0, v.length = m ∧ Bd 1125899906842624 v) : ∀ (d i K : Nat) (acc : List (List Int)), d + i = x0.length → acc = x0.reverse.take i →
    thrumlaw02_VecSums.l2 (K + d + 1) x0 true acc (x0.length : Int) (i : Int) = some true := by
  intro d
  induction d with
  | zero =>
    intro i K acc hd hacc
    rw [thrumlaw02_VecSums.l2.eq_2, if_neg (by omega)]
    have hacc : acc = x0.reverse := by rw [hacc, List.take_of_length_le (by simp; omega)]
    subst hacc
    have hfr : fewV x0.reverse = true := by simp only [fewV, List.all_eq_true] at hf ⊢; intro v hv; exact hf v (by simpa using hv)
    cases x0 with
    | nil => simp at hn2
    | cons v l =>
      have hl1 : 0 < l.length := by simp at hn2; omega
      have hv := h v (by simp)
      have hl : ∀ u ∈ l, u.length = m ∧ Bd 1125899906842624 u := fun u hu => h u (by simp [hu])
      have hlen : l.length ≤ 99 := by simp at hn; omega
      have hfl : fewV l = true := by simp only [fewV, List.all_cons, Bool.and_eq_true] at hf; exact hf.2
      have e1 : sumsV (v :: l) = (colSum m (v :: l), 0) := sumsV_col hm (by omega) _ (by simp) h (by simp only [List.length_cons]; push_cast; omega)
      have e2 : sumsV l = (colSum m l, 0) := sumsV_col hm (by omega) _ hl1 hl (by omega)
      have e3 : sumsV (v :: l).reverse = (colSum m (v :: l), 0) := by
        rw [sumsV_col hm (B := 1125899906842624) (by omega) _ (by simp) (fun u hu => h u (List.mem_reverse.1 hu)) (by simp only [List.length_reverse, List.length_cons]; push_cast; omega), colSum_reverse _ (fun u hu => (h u hu).1)]
      have hbd := colSum_bd (m := m) (by omega : (0 : Int) ≤ 1125899906842624) l (fun u hu => (hl u hu).2)
      have e4 : addV v (colSum m l) = (colSum m (v :: l), 0) := addV_zadd hm hv.1 (colSum_len l (fun u hu => (hl u hu).1)) (by omega) hv.2 hbd
      have hc64 : V64 (colSum m l) := fun x hx => by have := hbd x hx; unfold I64; omega
      rw [show vec_Sum.f (v :: l) = some (sumsV (v :: l)) from if_pos ⟨hv64, hf⟩, e1]
      simp only [Option.bind_some]
      rw [if_pos (by simp only [List.length_cons]; omega), show (v :: l).drop 1 = l from rfl, show vec_Sum.f l = some (sumsV l) from if_pos ⟨fun u hu => hv64 u (by simp [hu]), hfl⟩, e2]
      simp only [Option.bind_some]
      rw [if_pos (by simp only [List.length_cons]; omega), show rd_L1 (v :: l) 0 = v from rfl, vec_Add.of _ _ ⟨hv64 v (by simp), hc64⟩, e4]
      simp only [Option.bind_some]
      rw [show vec_Sum.f (v :: l).reverse = some (sumsV (v :: l).reverse) from if_pos ⟨fun u hu => hv64 u (List.mem_reverse.1 hu), hfr⟩, e3]
      simp [vec_Same.f, slices_Equal_int64_int64.f]
  | succ d ih =>
    intro i K acc hd hacc
    have hi : i < x0.length := by omega
    have hal : acc.length = i := by rw [hacc]; simp; omega
    have hw : wrap64 (wrap64 ((x0.length : Int) - 1) - (i : Int)) = ((x0.length - 1 - i : Nat) : Int) := by
      rw [wrap64_of (show I64 ((x0.length : Int) - 1) by unfold I64; omega), wrap64_of (by unfold I64; omega)]; omega
    rw [show K + (d + 1) + 1 = (K + d + 1) + 1 by omega, thrumlaw02_VecSums.l2.eq_2, if_pos (by omega), hw, if_pos (by omega), if_pos (by omega), if_pos (by omega), wrap64_of (show I64 ((i : Int) + 1) by unfold I64; omega), show (i : Int) + 1 = ((i + 1 : Nat) : Int) by omega]
    refine ih (i + 1) K _ (by omega) ?_
    have hj : x0.length - 1 - i < x0.length := by omega
    have e : rd_L1 x0 ((x0.length - 1 - i : Nat) : Int) = x0[x0.length - 1 - i] := by simp [rd_L1, List.getD_eq_getElem?_getD, List.getElem?_eq_getElem hj]
    rw [e, hacc, List.take_add_one, List.getElem?_eq_getElem (by simp; omega), List.getElem_reverse]; rfl
theorem sums_l0 (x0 : List (List Int)) (hv64 : ∀ v ∈ x0, V64 v) (hf : fewV x0 = true) (hn2 : 2 ≤ x0.length) (hn : x0.length ≤ 100) : ∀ (d i K : Nat), d + i = x0.length → 4100 * d + 200 ≤ K →
    (∀ v ∈ x0.take i, v.length = (x0[0]'(by omega)).length ∧ v.length ≤ 4096 ∧ Bd 1125899906842624 v) →
    thrumlaw02_VecSums.l0 K x0 true x0 (x0.length : Int) (i : Int) = some true := by
  intro d
  have h0 : 0 < x0.length := by omega
  have e0 : rd_L1 x0 0 = x0[0] := by
    cases x0 with
    | nil => simp at h0
    | cons v l => rfl
  induction d with
  | zero =>
    intro i K hd hK hg
    obtain ⟨K', rfl⟩ : ∃ K', K = (K' + x0.length + 1) + 1 := ⟨K - x0.length - 2, by omega⟩
    rw [thrumlaw02_VecSums.l0.eq_2, if_neg (by omega)]
    rw [List.take_of_length_le (by omega)] at hg
    have hm0 := hg x0[0] (List.getElem_mem h0)
    exact sums_l2 x0 x0[0].length hm0.2.1 hv64 hf hn2 hn (fun v hv => ⟨(hg v hv).1, (hg v hv).2.2⟩) x0.length 0 K' [] (by omega) (by simp)
  | succ d ih =>
    intro i K hd hK hg
    have hi : i < x0.length := by omega
    have e : rd_L1 x0 (i : Int) = x0[i] := by simp [rd_L1, List.getD_eq_getElem?_getD, List.getElem?_eq_getElem hi]
    obtain ⟨K', rfl⟩ : ∃ K', K = K' + 1 := ⟨K - 1, by omega⟩
    rw [thrumlaw02_VecSums.l0.eq_2, if_pos (by omega), if_pos (by omega), if_pos (by omega), if_pos (by omega), e, e0]
    by_cases c : x0[i].length = x0[0].length
    · rw [if_pos (by omega)]
      by_cases c2 : x0[i].length > 4096
      · rw [if_pos (by omega)]
      · rw [if_neg (by omega)]
        obtain ⟨K2, hK2⟩ : ∃ K2, K' = K2 + x0[i].length + 1 := ⟨K' - x0[i].length - 1, by omega⟩
        rw [hK2]
        rcases sums_l1 x0 x0 (x0.length : Int) (i : Int) x0[i] (by omega) x0[i].length 0 K2 (by omega) with h | ⟨h, h'⟩
        · exact h
        · rw [List.drop_zero] at h
          refine Eq.trans h' ?_
          rw [wrap64_of (show I64 ((i : Int) + 1) by unfold I64; omega), show (i : Int) + 1 = ((i + 1 : Nat) : Int) by omega]
          refine ih (i + 1) K2 (by omega) (by omega) ?_
          rw [List.take_add_one, List.getElem?_eq_getElem hi]
          intro v hv
          rcases List.mem_append.1 hv with hv | hv
          · exact hg v hv
          · have hv : v = x0[i] := by simpa using hv
            rw [hv]; exact ⟨c, by omega, h⟩
    · rw [if_neg (by omega)]
theorem VecSums : thrumlaw02_VecSums.Pure := by
  intro l0 w0
  have h0 : ∀ v ∈ l0, V64 v := fun v hv => v64_of_wf (w0.2 v hv).2
  refine ⟨4100 * l0.length + 200, ?_⟩
  unfold thrumlaw02_VecSums.f thrumlaw02_live.f
  simp only [Option.bind_some, if_true, thrumlaw02_few.f]
  by_cases c : (fewV l0 && decide (l0.length ≤ 100)) = true
  · rw [if_pos c]
    simp only [Bool.and_eq_true, decide_eq_true_eq] at c
    by_cases c2 : (l0.length : Int) < 2
    · rw [if_pos c2]
    · rw [if_neg c2]
      exact sums_l0 l0 h0 c.1 (by omega) c.2 l0.length 0 _ (by omega) (Nat.le_refl _) (by simp)
  · rw [if_neg c]
end Go.Proofs.Ytllicjinmlkcfaa.Pure
