/- Laws of roots, powers and shares, in plain Lean. No program in sight. -/
import Derived.Test.YtbnfejaeekljcaaTable
namespace Go.Proofs.Ytbnfejaeekljcaa.Sp
open Go.RowKit Go.Proofs.YtbnfejaeekljcaaW.PrintWords

def tabN (i : Nat) : Int := tabL.getD i 0
theorem rd_tab {i : Int} : rd tabL i = tabN i.toNat := rfl
theorem tab_step : ∀ i, i < 16 → tabN (i + 1) < tabN i := by decide
theorem tab_ge : ∀ i, i < 17 → 536870912 ≤ tabN i := by decide
theorem tab_le : ∀ i, i < 17 → tabN i ≤ 1073741824 := by decide
theorem tab_mono {i j : Nat} (h : i ≤ j) (hj : j < 17) : tabN j ≤ tabN i := by
  obtain ⟨d, rfl⟩ := Nat.le.dest h
  clear h
  induction d with
  | zero => exact Int.le_refl _
  | succ d ih =>
    have h1 := tab_step (i + d) (by omega)
    have h2 := ih (by omega)
    rw [show i + (d + 1) = i + d + 1 from rfl]; omega
/-- The power of a number y below 0. -/
def powE (y f : Int) : Int := rd tabL (y % 2 ^ f.toNat * 16 / 2 ^ f.toNat) / 2 ^ (y / 2 ^ f.toNat + (30 - f)).toNat
theorem pow_pos' (n : Nat) : (0 : Int) < 2 ^ n := Int.pow_pos (by decide)
theorem row_lt (y : Int) {f : Int} : 0 ≤ y % 2 ^ f.toNat * 16 / 2 ^ f.toNat ∧ y % 2 ^ f.toNat * 16 / 2 ^ f.toNat < 16 := by
  have hp := pow_pos' f.toNat
  generalize (2 : Int) ^ f.toNat = p at *
  have h1 := Int.emod_nonneg y (show p ≠ 0 by omega)
  have h2 := Int.emod_lt_of_pos y hp
  refine ⟨Int.ediv_nonneg (by omega) (by omega), ?_⟩
  rw [Int.ediv_lt_iff_lt_mul hp]
  omega
theorem div_pow_succ (a : Int) (k : Nat) : a / 2 ^ (k + 1) = a / 2 ^ k / 2 := by
  rw [Int.pow_succ, Int.ediv_ediv_of_nonneg (Int.le_of_lt (pow_pos' k))]
theorem div_pow_add (a : Int) (k j : Nat) : a / 2 ^ (k + j) = a / 2 ^ k / 2 ^ j := by
  rw [Int.pow_add, Int.ediv_ediv_of_nonneg (Int.le_of_lt (pow_pos' k))]
theorem div_pow_comm (a : Int) (k j : Nat) : a / 2 ^ (k + j) = a / 2 ^ j / 2 ^ k := by rw [Nat.add_comm, div_pow_add]
theorem div_pow_le {a : Int} (ha : 0 ≤ a) {k j : Nat} (h : k ≤ j) : a / 2 ^ j ≤ a / 2 ^ k := by
  obtain ⟨d, rfl⟩ := Nat.le.dest h
  rw [div_pow_add]
  exact Int.ediv_le_self _ (Int.ediv_nonneg ha (Int.le_of_lt (pow_pos' k)))
theorem powE_nonneg (y f : Int) : 0 ≤ powE y f := by
  have := row_lt y (f := f)
  have := tab_ge (y % 2 ^ f.toNat * 16 / 2 ^ f.toNat).toNat (by omega)
  exact Int.ediv_nonneg (by rw [rd_tab]; omega) (Int.le_of_lt (pow_pos' _))
theorem powE_mono {a b f : Int} (h0 : 0 ≤ a) (h : a ≤ b) (hf : 0 ≤ f ∧ f ≤ 30) : powE b f ≤ powE a f := by
  have hp := pow_pos' f.toNat
  have ra := row_lt a (f := f)
  have rb := row_lt b (f := f)
  unfold powE
  rw [rd_tab, rd_tab]
  obtain ⟨i, hi⟩ : ∃ i, (a % 2 ^ f.toNat * 16 / 2 ^ f.toNat).toNat = i := ⟨_, rfl⟩
  obtain ⟨j, hj⟩ : ∃ j, (b % 2 ^ f.toNat * 16 / 2 ^ f.toNat).toNat = j := ⟨_, rfl⟩
  have hq : a / 2 ^ f.toNat ≤ b / 2 ^ f.toNat := Int.ediv_le_ediv hp h
  have hq0 : 0 ≤ a / 2 ^ f.toNat := Int.ediv_nonneg h0 (Int.le_of_lt hp)
  have ti := tab_ge i (by omega)
  have tj := tab_le j (by omega)
  have tj0 := tab_ge j (by omega)
  rcases Int.lt_or_le (a / 2 ^ f.toNat) (b / 2 ^ f.toNat) with hlt | hge
  · rw [hi, hj]
    refine Int.le_trans (div_pow_le (k := (a / 2 ^ f.toNat + (30 - f)).toNat + 1) (by omega) (by omega)) ?_
    rw [div_pow_comm]
    exact Int.ediv_le_ediv (pow_pos' _) (by omega)
  · have he : a / 2 ^ f.toNat = b / 2 ^ f.toNat := by omega
    have hm : a % 2 ^ f.toNat ≤ b % 2 ^ f.toNat := by
      have h1 := Int.emod_add_mul_ediv a (2 ^ f.toNat)
      have h2 := Int.emod_add_mul_ediv b (2 ^ f.toNat)
      rw [he] at h1
      omega
    have hij : i ≤ j := by
      have := Int.ediv_le_ediv hp (show a % 2 ^ f.toNat * 16 ≤ b % 2 ^ f.toNat * 16 by omega)
      omega
    rw [hi, hj, he]
    exact Int.ediv_le_ediv (pow_pos' _) (tab_mono hij (by omega))
theorem powE_zero {f : Int} (hf : 0 ≤ f ∧ f ≤ 30) : powE 0 f = 2 ^ f.toNat := by
  unfold powE
  have h1 : (0 : Int) % 2 ^ f.toNat * 16 / 2 ^ f.toNat = 0 := by simp
  have h2 : (0 : Int) / 2 ^ f.toNat = 0 := by simp
  rw [h1, h2, show rd tabL 0 = (2 : Int) ^ 30 from rfl, Int.zero_add]
  have : (2 : Int) ^ 30 = 2 ^ f.toNat * 2 ^ (30 - f).toNat := by rw [← Int.pow_add]; congr 1; omega
  rw [this, Int.mul_ediv_cancel _ (by have := pow_pos' (30 - f).toNat; omega)]
theorem powE_le {y f : Int} (h : 0 ≤ y) (hf : 0 ≤ f ∧ f ≤ 30) : powE y f ≤ 2 ^ f.toNat := by
  rw [← powE_zero hf]; exact powE_mono (Int.le_refl _) h hf
theorem powE_half {y f : Int} (h : 0 ≤ y) (hf : 0 ≤ f ∧ f ≤ 30) : powE (y + 2 ^ f.toNat) f = powE y f / 2 := by
  have hp := pow_pos' f.toNat
  unfold powE
  rw [Int.add_emod_right, Int.add_ediv_of_dvd_right (Int.dvd_refl _), Int.ediv_self (by omega)]
  have hq0 : 0 ≤ y / 2 ^ f.toNat := Int.ediv_nonneg h (Int.le_of_lt hp)
  rw [show (y / 2 ^ f.toNat + 1 + (30 - f)).toNat = (y / 2 ^ f.toNat + (30 - f)).toNat + 1 by omega, div_pow_succ]
theorem expF_of {x f : Int} (hf : 0 ≤ f ∧ f ≤ 30) (hx : x ≤ 0) (h : I64 (-x)) : expF x f = (powE (-x) f, 0) := by
  unfold expF; rw [if_neg (by omega), if_pos h]; rfl
theorem expF_over {x f : Int} (hf : 0 ≤ f ∧ f ≤ 30) (hx : x ≤ 0) (h : ¬ I64 (-x)) : expF x f = (0, 2) := by
  unfold expF; rw [if_neg (by omega), if_neg h]
theorem pow2_le30 {f : Int} (hf : 0 ≤ f ∧ f ≤ 30) : (2 : Int) ^ f.toNat ≤ 1073741824 := by
  have h := Nat.pow_le_pow_right (n := 2) (by decide) (show f.toNat ≤ 30 by omega)
  have e : (2 : Int) ^ f.toNat = ((2 ^ f.toNat : Nat) : Int) := by simp
  rw [e]; omega
theorem expF_i64 (x f : Int) : I64 (expF x f).1 := by
  by_cases c : f < 0 ∨ f > 30 ∨ x > 0
  · unfold expF; rw [if_pos c]; exact i64_zero
  · by_cases d : I64 (-x)
    · rw [expF_of (by omega) (by omega) d]
      have h1 := powE_nonneg (-x) f
      have h2 := powE_le (y := -x) (f := f) (by omega) (by omega)
      have h3 := pow2_le30 (f := f) (by omega)
      unfold I64; simp only; omega
    · rw [expF_over (by omega) (by omega) d]; exact i64_zero

theorem expF_ok {x f : Int} (h : (expF x f).2 = 0) : (0 ≤ f ∧ f ≤ 30) ∧ x ≤ 0 ∧ I64 (-x) ∧ expF x f = (powE (-x) f, 0) := by
  unfold expF at h
  split at h
  · cases h
  · rename_i c
    split at h
    · rename_i d; exact ⟨by omega, by omega, d, expF_of (by omega) (by omega) d⟩
    · cases h
theorem expF_bd {x f : Int} (h : (expF x f).2 = 0) : 0 ≤ (expF x f).1 ∧ (expF x f).1 ≤ 1073741824 := by
  obtain ⟨hf, hx, hi, e⟩ := expF_ok h
  rw [e]
  have q1 := powE_nonneg (-x) f
  have q2 := powE_le (y := -x) (f := f) (by omega) hf
  have q3 := pow2_le30 hf
  exact ⟨q1, by show powE (-x) f ≤ _; omega⟩
/-! ### the greatest one's place -/
/-- at is the place of the greatest one, the first. -/
def IsBest (z : List Int) (a : Int) : Prop := 0 ≤ a ∧ a < z.length ∧ (∀ j : Nat, j < z.length → rd z j ≤ rd z a) ∧ ∀ j : Nat, (j : Int) < a → rd z j < rd z a
theorem IsBest.unique {z : List Int} {a b : Int} (ha : IsBest z a) (hb : IsBest z b) : a = b := by
  obtain ⟨a0, a1, a2, a3⟩ := ha
  obtain ⟨b0, b1, b2, b3⟩ := hb
  rcases Int.lt_trichotomy a b with h | h | h
  · have h1 := b3 a.toNat (by omega)
    have h2 := a2 b.toNat (by omega)
    rw [show ((a.toNat : Nat) : Int) = a by omega] at h1
    rw [show ((b.toNat : Nat) : Int) = b by omega] at h2
    omega
  · exact h
  · have h1 := a3 b.toNat (by omega)
    have h2 := b2 a.toNat (by omega)
    rw [show ((b.toNat : Nat) : Int) = b by omega] at h1
    rw [show ((a.toNat : Nat) : Int) = a by omega] at h2
    omega
theorem bestGo_is (z : List Int) : ∀ (l : List Int) (i : Nat) (a : Int), l = z.drop i → i ≤ z.length → 0 ≤ a → a < z.length → (a < i ∨ a = 0) → (∀ j : Nat, j < i → rd z j ≤ rd z a) → (∀ j : Nat, (j : Int) < a → rd z j < rd z a) →
    IsBest z (bestGo l i a (rd z a)) := by
  intro l
  induction l with
  | nil =>
    intro i a hl hi h0 h1 hai h2 h3
    have : z.length ≤ i := by have := congrArg List.length hl; simp at this; omega
    unfold bestGo
    exact ⟨h0, h1, fun j hj => h2 j (by omega), h3⟩
  | cons x l ih =>
    intro i a hl hi h0 h1 hai h2 h3
    have hlt : i < z.length := by have := congrArg List.length hl; simp at this; omega
    rw [List.drop_eq_getElem_cons hlt] at hl
    injection hl with e1 e2
    have hx : rd z i = x := by rw [e1]; simp [rd, List.getD_eq_getElem?_getD, List.getElem?_eq_getElem hlt]
    unfold bestGo
    split
    · rename_i c
      rw [← hx]
      refine ih (i + 1) i e2 (by omega) (by omega) (by omega) (by omega) (fun j hj => ?_) (fun j hj => ?_)
      · by_cases e : j = i
        · rw [e]; exact Int.le_refl _
        · have := h2 j (by omega); omega
      · have := h2 j (by omega); omega
    · rename_i c
      refine ih (i + 1) a e2 (by omega) h0 h1 (by omega) (fun j hj => ?_) h3
      by_cases e : j = i
      · rw [e, hx]; omega
      · exact h2 j (by omega)
theorem bestF_err {z : List Int} (h : (bestF z).2 ≠ 0) : (bestF z).1 = 0 := by
  unfold bestF at *
  split
  · rfl
  · split
    · rfl
    · rename_i c1 c2; rw [if_neg c1, if_neg c2] at h; exact absurd rfl h
theorem bestF_is {z : List Int} (h : (bestF z).2 = 0) : IsBest z (bestF z).1 ∧ z.length ≠ 0 ∧ z.length ≤ 4096 := by
  unfold bestF at *
  split at h
  · cases h
  · split at h
    · cases h
    · rename_i c1 c2
      rw [if_neg c1, if_neg c2]
      exact ⟨bestGo_is z z 0 0 rfl (by omega) (by omega) (by omega) (.inr rfl) (fun j hj => by omega) (fun j hj => by omega), c1, by omega⟩
theorem bestF_of {z : List Int} {a : Int} (h : IsBest z a) (hl : z.length ≤ 4096) : bestF z = (a, 0) := by
  have h0 : (bestF z).2 = 0 := by unfold bestF; rw [if_neg (by have := h.1; have := h.2.1; omega), if_neg (by omega)]
  exact Prod.ext ((bestF_is h0).1.unique h) h0
end Go.Proofs.Ytbnfejaeekljcaa.Sp
