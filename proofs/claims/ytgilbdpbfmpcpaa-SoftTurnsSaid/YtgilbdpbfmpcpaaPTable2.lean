/- Laws of shares, in plain Lean. No program in sight. -/
import Derived.Test.YtgilbdpbfmpcpaaPTable
namespace Go.Proofs.Ytgilbdpbfmpcpaa.Sp
set_option linter.unusedVariables false
set_option linter.unusedSimpArgs false
open Go.RowKit Go.Proofs.YtgilbdpbfmpcpaaW.PrintWords

theorem sumI_append : ∀ (a b : List Int), sumI (a ++ b) = sumI a + sumI b
  | [], b => by simp [sumI]
  | x :: a, b => by simp only [List.cons_append, sumI, sumI_append a b]; omega
theorem sumI_nonneg : ∀ (l : List Int), (∀ x ∈ l, 0 ≤ x) → 0 ≤ sumI l
  | [], _ => Int.le_refl _
  | x :: l, h => by have h1 := h x (by simp); have h2 := sumI_nonneg l (fun y hy => h y (by simp [hy])); simp only [sumI]; omega
theorem sumI_mem : ∀ (l : List Int), (∀ x ∈ l, 0 ≤ x) → ∀ y ∈ l, y ≤ sumI l
  | [], _, y, hy => by cases hy
  | x :: l, h, y, hy => by
    have h1 := h x (by simp)
    have h2 := sumI_nonneg l (fun y hy => h y (by simp [hy]))
    rcases List.mem_cons.1 hy with e | e
    · simp only [sumI]; omega
    · have := sumI_mem l (fun y hy => h y (by simp [hy])) y e; simp only [sumI]; omega
theorem sumI_le : ∀ (l : List Int) (m : Int), (∀ x ∈ l, x ≤ m) → sumI l ≤ l.length * m
  | [], m, _ => by simp [sumI]
  | x :: l, m, h => by
    have h1 := h x (by simp)
    have h2 := sumI_le l m (fun y hy => h y (by simp [hy]))
    simp only [sumI, List.length_cons]
    have : ((l.length + 1 : Nat) : Int) * m = l.length * m + m := by rw [Int.natCast_add, Int.add_mul]; simp
    omega
theorem seqV_map {g : Int → Int × Int} {h : Int → Int} : ∀ (l : List Int), (∀ x ∈ l, g x = (h x, 0)) → seqV (l.map g) = (l.map h, 0)
  | [], _ => rfl
  | x :: l, hh => by
    have h1 := hh x (by simp)
    have h2 := seqV_map l (fun y hy => hh y (by simp [hy]))
    simp only [List.map_cons, seqV, h1, h2, if_true]
theorem seqV_bad {g : Int → Int × Int} (l : List Int) (e : Int) (he : e ≠ 0) : (∀ x ∈ l, (g x).2 = 0 ∨ (g x).2 = e) → (∃ x ∈ l, (g x).2 = e) → seqV (l.map g) = ([], e) := by
  induction l with
  | nil => intro _ h; obtain ⟨x, hx, _⟩ := h; cases hx
  | cons x l ih =>
    intro h1 h2
    simp only [List.map_cons, seqV]
    rcases h1 x (by simp) with c | c
    · rw [if_pos c, ih (fun y hy => h1 y (by simp [hy])) (by
        obtain ⟨y, hy, hc⟩ := h2
        rcases List.mem_cons.1 hy with e1 | e1
        · rw [← e1, hc] at c; exact absurd c he
        · exact ⟨y, e1, hc⟩), if_neg he]
    · rw [if_neg (by rw [c]; exact he), c]

/-- How far below m a number may lie. -/
def NearB (m : Int) (z : List Int) : Prop := ∀ x ∈ z, m - x ≤ 9223372036854775807
instance (m : Int) (z : List Int) : Decidable (NearB m z) := by unfold NearB; infer_instance
/-- Powers, shares. -/
def pows (m f : Int) (z : List Int) : List Int := z.map fun x => powE (m - x) f
def shares (m f : Int) (z : List Int) : List Int := (pows m f z).map fun p => p * 2 ^ f.toNat / sumI (pows m f z)
theorem powF_near {m f x : Int} (hf : 0 ≤ f ∧ f ≤ 30) (hx : x ≤ m) (h : m - x ≤ 9223372036854775807) : powF m f x = (powE (m - x) f, 0) := by
  unfold powF
  rw [if_pos (by unfold I64; omega), expF_of hf (by omega) (by unfold I64; omega)]
  rw [show -(x - m) = m - x by omega]
theorem powF_far {m f x : Int} (hf : 0 ≤ f ∧ f ≤ 30) (hx : x ≤ m) (h : ¬ m - x ≤ 9223372036854775807) : powF m f x = (0, 2) := by
  unfold powF
  split
  · rw [expF_over hf (by omega) (by unfold I64; omega)]
  · rfl
theorem rd_mem {z : List Int} {i : Nat} (h : i < z.length) : rd z i ∈ z := by
  have : rd z i = z[i] := by simp [rd, List.getD_eq_getElem?_getD, List.getElem?_eq_getElem h]
  rw [this]; exact List.getElem_mem h
theorem IsBest.le {z : List Int} {a : Int} (h : IsBest z a) : ∀ x ∈ z, x ≤ rd z a := by
  intro x hx
  obtain ⟨i, hi, rfl⟩ := List.mem_iff_getElem.1 hx
  have := h.2.2.1 i hi
  rw [show rd z (i : Int) = z[i] by simp [rd, List.getD_eq_getElem?_getD, List.getElem?_eq_getElem hi]] at this
  exact this
theorem IsBest.mem {z : List Int} {a : Int} (h : IsBest z a) : rd z a ∈ z := by
  have := rd_mem (z := z) (i := a.toNat) (by have := h.1; have := h.2.1; omega)
  rwa [show ((a.toNat : Nat) : Int) = a by have := h.1; omega] at this
theorem seq_near {z : List Int} {a f : Int} (hb : IsBest z a) (hf : 0 ≤ f ∧ f ≤ 30) (h : NearB (rd z a) z) : seqV (z.map (powF (rd z a) f)) = (pows (rd z a) f z, 0) :=
  seqV_map z (fun x hx => powF_near hf (hb.le x hx) (h x hx))
theorem seq_far {z : List Int} {a f : Int} (hb : IsBest z a) (hf : 0 ≤ f ∧ f ≤ 30) (h : ¬ NearB (rd z a) z) : seqV (z.map (powF (rd z a) f)) = ([], 2) := by
  refine seqV_bad z 2 (by decide) (fun x hx => ?_) ?_
  · by_cases c : rd z a - x ≤ 9223372036854775807
    · rw [powF_near hf (hb.le x hx) c]; exact .inl rfl
    · rw [powF_far hf (hb.le x hx) c]; exact .inr rfl
  · apply Classical.byContradiction
    intro c
    refine h (fun x hx => Classical.byContradiction fun d => c ⟨x, hx, ?_⟩)
    rw [powF_far hf (hb.le x hx) d]
theorem pows_pos {z : List Int} {a f : Int} (hb : IsBest z a) (hf : 0 ≤ f ∧ f ≤ 30) : 2 ^ f.toNat ≤ sumI (pows (rd z a) f z) := by
  have := sumI_mem (pows (rd z a) f z) (by intro x hx; obtain ⟨y, _, rfl⟩ := List.mem_map.1 hx; exact powE_nonneg _ _) (powE (rd z a - rd z a) f) (List.mem_map.2 ⟨_, hb.mem, rfl⟩)
  rwa [Int.sub_self, powE_zero hf] at this
theorem share_bd {p S c : Int} (hp : 0 ≤ p) (hS : p ≤ S) (hS0 : 0 < S) (hc : 0 ≤ c) : 0 ≤ p * c / S ∧ p * c / S ≤ c := by
  refine ⟨Int.ediv_nonneg (Int.mul_nonneg hp hc) (by omega), ?_⟩
  have : p * c ≤ S * c := Int.mul_le_mul_of_nonneg_right hS hc
  calc p * c / S ≤ S * c / S := Int.ediv_le_ediv hS0 this
    _ = c := Int.mul_ediv_cancel_left _ (by omega)
theorem divF_share {p S f : Int} (hf : 0 ≤ f ∧ f ≤ 30) (hp : 0 ≤ p) (hS : p ≤ S) (hS0 : 0 < S) : divF p S f = (p * 2 ^ f.toNat / S, 0) := by
  unfold divF divQ
  rw [if_neg (by omega), if_pos hS0]
  have h1 := share_bd (c := 2 ^ f.toNat) hp hS hS0 (Int.le_of_lt (pow_pos' _))
  have h2 := pow2_le30 hf
  unfold res
  rw [if_pos (by unfold I64; omega)]
theorem pows_mem {m f : Int} {z : List Int} (hz : ∀ x ∈ z, x ≤ m) (hf : 0 ≤ f ∧ f ≤ 30) : ∀ p ∈ pows m f z, 0 ≤ p ∧ p ≤ 2 ^ f.toNat := by
  intro p hp
  obtain ⟨x, hx, rfl⟩ := List.mem_map.1 hp
  exact ⟨powE_nonneg _ _, powE_le (by have := hz x hx; omega) hf⟩
theorem seq_shares {z : List Int} {a f : Int} (hb : IsBest z a) (hf : 0 ≤ f ∧ f ≤ 30) : seqV ((pows (rd z a) f z).map fun p => divF p (sumI (pows (rd z a) f z)) f) = (shares (rd z a) f z, 0) := by
  have hpos := pows_pos hb hf
  have hp := pow_pos' f.toNat
  refine seqV_map _ (fun p hp' => divF_share hf (pows_mem hb.le hf p hp').1 (sumI_mem _ (fun x hx => (pows_mem hb.le hf x hx).1) p hp') (by omega))
theorem softV_near {z : List Int} {a f : Int} (hb : IsBest z a) (hl : z.length ≤ 4096) (hf : 0 ≤ f ∧ f ≤ 30) (h : NearB (rd z a) z) : softV f z = (shares (rd z a) f z, 0) := by
  unfold softV
  rw [bestF_of hb hl]
  simp only [seq_near hb hf h, ne_eq, not_true, if_false]
  rw [if_neg (by omega)]
  exact seq_shares hb hf
theorem softV_far {z : List Int} {a f : Int} (hb : IsBest z a) (hl : z.length ≤ 4096) (hf : 0 ≤ f ∧ f ≤ 30) (h : ¬ NearB (rd z a) z) : softV f z = ([], 2) := by
  unfold softV
  rw [bestF_of hb hl]
  simp only [seq_far hb hf h]
  rw [if_neg (by simp), if_neg (by omega), if_pos (by decide)]
theorem softV_bad1 {z : List Int} {f : Int} (h : (bestF z).2 ≠ 0) : softV f z = ([], (bestF z).2) := by unfold softV; rw [if_pos h]
theorem softV_bad2 {z : List Int} {f : Int} (h : (bestF z).2 = 0) (hf : f < 0 ∨ f > 30) : softV f z = ([], 1) := by unfold softV; rw [if_neg (by simpa using h), if_pos hf]
/-- What went right. -/
theorem softV_ok {z : List Int} {f : Int} (h : (softV f z).2 = 0) : (0 ≤ f ∧ f ≤ 30) ∧ IsBest z (bestF z).1 ∧ z.length ≤ 4096 ∧ (bestF z).2 = 0 ∧ NearB (rd z (bestF z).1) z ∧ softV f z = (shares (rd z (bestF z).1) f z, 0) := by
  by_cases hb : (bestF z).2 = 0
  · by_cases hf : f < 0 ∨ f > 30
    · rw [softV_bad2 hb hf] at h; cases h
    · obtain ⟨h1, h2, h3⟩ := bestF_is hb
      by_cases hn : NearB (rd z (bestF z).1) z
      · exact ⟨by omega, h1, h3, hb, hn, softV_near h1 h3 (by omega) hn⟩
      · rw [softV_far h1 h3 (by omega) hn] at h; cases h
  · rw [softV_bad1 hb] at h; exact absurd h hb
theorem softV_err {z : List Int} {f : Int} (h : (softV f z).2 ≠ 0) : (softV f z).1 = [] := by
  by_cases hb : (bestF z).2 = 0
  · by_cases hf : f < 0 ∨ f > 30
    · rw [softV_bad2 hb hf]
    · obtain ⟨h1, h2, h3⟩ := bestF_is hb
      by_cases hn : NearB (rd z (bestF z).1) z
      · rw [softV_near h1 h3 (by omega) hn] at h; exact absurd rfl h
      · rw [softV_far h1 h3 (by omega) hn]
  · rw [softV_bad1 hb]
theorem softV_v64 (f : Int) (z : List Int) : V64 (softV f z).1 := by
  by_cases h : (softV f z).2 = 0
  · obtain ⟨hf, hb, _, _, _, e⟩ := softV_ok h
    rw [e]
    intro x hx
    obtain ⟨p, hp, rfl⟩ := List.mem_map.1 hx
    have h0 := pows_mem hb.le hf p hp
    have h1 := sumI_mem _ (fun x hx => (pows_mem hb.le hf x hx).1) p hp
    have h2 := pows_pos hb hf
    have h3 := pow_pos' f.toNat
    have h4 := share_bd (c := 2 ^ f.toNat) h0.1 h1 (by omega) (by omega)
    have h5 := pow2_le30 hf
    unfold I64; omega
  · rw [softV_err h]; intro x hx; cases hx
/-! ### shares -/
theorem sum_shares_le (S c : Int) (hS : 0 < S) : ∀ l : List Int, sumI (l.map fun p => p * c / S) * S ≤ sumI l * c
  | [] => by simp [sumI]
  | p :: l => by
    have h := sum_shares_le S c hS l
    have h1 := Int.ediv_mul_le (p * c) (show S ≠ 0 by omega)
    simp only [List.map_cons, sumI, Int.add_mul]; omega
theorem sum_shares_ge (S c : Int) (hS : 0 < S) : ∀ l : List Int, sumI l * c ≤ sumI (l.map fun p => p * c / S) * S + l.length * (S - 1)
  | [] => by simp [sumI]
  | p :: l => by
    have h := sum_shares_ge S c hS l
    have h1 := Int.emod_lt_of_pos (p * c) hS
    have h2 := Int.emod_add_mul_ediv (p * c) S
    have h3 : S * (p * c / S) = p * c / S * S := Int.mul_comm _ _
    have h4 : ((l.length + 1 : Nat) : Int) * (S - 1) = l.length * (S - 1) + (S - 1) := by rw [Int.natCast_add, Int.add_mul]; simp
    simp only [List.map_cons, sumI, Int.add_mul, List.length_cons]; omega
theorem sum_whole {l : List Int} {c : Int} (hS : 0 < sumI l) : sumI (l.map fun p => p * c / sumI l) ≤ c := by
  have h := sum_shares_le (sumI l) c hS l
  rw [Int.mul_comm (sumI l) c] at h
  exact Int.le_of_mul_le_mul_right h hS
theorem sum_more {l : List Int} {c : Int} (hS : 0 < sumI l) (hl : l ≠ []) : c - sumI (l.map fun p => p * c / sumI l) < l.length := by
  have h := sum_shares_ge (sumI l) c hS l
  have hn : 0 < l.length := List.length_pos_iff.2 hl
  apply Classical.byContradiction
  intro d
  have h2 : ((l.length : Int) + sumI (l.map fun p => p * c / sumI l)) * sumI l ≤ c * sumI l := Int.mul_le_mul_of_nonneg_right (by omega) (by omega)
  rw [Int.add_mul] at h2
  rw [Int.mul_comm (sumI l) c] at h
  have h3 : (l.length : Int) * (sumI l - 1) = l.length * sumI l - l.length := by rw [Int.mul_sub]; simp
  omega
theorem share_mono {p q S c : Int} (h : p ≤ q) (hS : 0 < S) (hc : 0 ≤ c) : p * c / S ≤ q * c / S := Int.ediv_le_ediv hS (Int.mul_le_mul_of_nonneg_right h hc)
theorem share_most {l : List Int} {p c : Int} (hl : l ≠ []) (hp : ∀ x ∈ l, x ≤ p) (hS : 0 < sumI l) (hc : 0 ≤ c) : c / l.length ≤ p * c / sumI l := by
  have hn : 0 < l.length := List.length_pos_iff.2 hl
  rw [Int.le_ediv_iff_mul_le hS]
  have h1 := sumI_le l p hp
  have hq : 0 ≤ c / (l.length : Int) := Int.ediv_nonneg hc (by omega)
  have h2 : c / (l.length : Int) * sumI l ≤ c / (l.length : Int) * (l.length * p) := Int.mul_le_mul_of_nonneg_left h1 hq
  have h3 : c / (l.length : Int) * (l.length : Int) ≤ c := Int.ediv_mul_le c (by omega)
  have hp0 : 0 ≤ p := by
    apply Classical.byContradiction
    intro d
    have := sumI_le l p hp
    have h5 : (l.length : Int) * p ≤ 1 * p := by
      have := Int.mul_le_mul_of_nonpos_right (show (1 : Int) ≤ l.length by omega) (show p ≤ 0 by omega)
      omega
    omega
  have h4 : c / (l.length : Int) * (l.length : Int) * p ≤ c * p := Int.mul_le_mul_of_nonneg_right h3 hp0
  rw [Int.mul_assoc] at h4
  rw [Int.mul_comm p c]
  omega
end Go.Proofs.Ytgilbdpbfmpcpaa.Sp
