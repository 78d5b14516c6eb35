/- SignPresses: any vector pressed, its mean size, any loosened, and whether any is pressed so. -/
import Derived.Test.YtnhdeljkoackfaaHCx18
import Derived.Test.YtnhdeljkoackfaaPVec
namespace Go.Proofs.Ytnhdeljkoackfaa.Pure
open Go.RowKit Go.Proofs.Ytnhdeljkoackfaa.HC Go.Proofs.YtnhdeljkoackfaaW.PrintWords Go.Proofs.YtnhdeljkoackfaaW.PrintLast Go.Proofs.YtnhdeljkoackfaaW.PrintMore Go.Proofs.Ytnhdeljkoackfaa.Sp
set_option linter.unusedVariables false
set_option linter.unusedSimpArgs false
theorem size_ok (B : Int) (hB : 0 ≤ B) (v : List Int) (h : ∀ x ∈ v, (x.natAbs : Int) ≤ B) (hl : v.length ≤ 4096) (hb : B * v.length ≤ 9223372036854775807) : sizeV v = (asum v, 0) := by
  unfold sizeV
  rw [if_pos (checkE_of hl)]
  have e : v.map absF = (v.map fun x => (x.natAbs : Int)).map (fun x => (x, 0)) := by
    rw [List.map_map]
    apply List.map_congr_left
    intro x hx
    have h1 := h x hx
    have h2 : B ≤ 9223372036854775807 := by
      have hn : 0 < v.length := List.length_pos_of_mem hx
      have : B * 1 ≤ B * (v.length : Int) := Int.mul_le_mul_of_nonneg_left (by omega) hB
      omega
    show absF x = ((x.natAbs : Int), 0)
    exact res_of (by unfold I64; omega)
  have e2 : ∀ l : List Int, isum (l.map fun x => (x.natAbs : Int)) = asum l := by
    intro l
    induction l with
    | nil => rfl
    | cons x l ih => simp only [List.map_cons, isum, asum, ih]
  rw [e, sumV_ok B hB _ 0 (fun x hx => by obtain ⟨y, hy, rfl⟩ := List.mem_map.1 hx; have := h y hy; omega) (by rw [List.length_map]; omega), e2]
  simp
theorem size_is {v : List Int} (h : (sizeV v).2 = 0) : v.length ≤ 4096 ∧ (∀ x ∈ v, (absF x).2 = 0) ∧ (sizeV v).1 = asum v ∧ asum v ≤ 9223372036854775807 := by
  unfold sizeV at *
  by_cases c : checkE v = 0
  · rw [if_pos c] at h ⊢
    obtain ⟨h1, h2⟩ := sumV_abs v 0 h
    have hi := sumV_i64 (v.map absF) 0 i64_zero
    refine ⟨checkE_le c, h1, by omega, ?_⟩
    unfold I64 at hi; omega
  · rw [if_neg c] at h; exact absurd h c
theorem press_of {v : List Int} (hv : V64 v) (h0 : v.length ≠ 0) (h : (sizeV v).2 = 0) : sign_Press.f v = some (3, (v.length : Int), [], [], asum v / v.length, 0, [], v.map (fun x => decide (x < 0)), 0) := by
  obtain ⟨hl, _, hs, hb⟩ := size_is h
  have hn := asum_nonneg v
  unfold sign_Press.f sign_Mean.f
  rw [if_neg (by omega), vec_Size.of v hv]
  simp only [Option.bind_some, h, if_true, hs]
  have hq0 : 0 ≤ asum v / (v.length : Int) := Int.ediv_nonneg hn (by omega)
  have hq1 : asum v / (v.length : Int) ≤ asum v := Int.ediv_le_self _ hn
  rw [Int.tdiv_eq_ediv_of_nonneg hn, wrap64_of (by unfold I64; omega)]
  unfold sign_each_int64_bool.f
  rw [if_pos ⟨rfl, by omega⟩]
  rfl
theorem press_bad {v : List Int} (hv : V64 v) (h : ¬ (v.length ≠ 0 ∧ (sizeV v).2 = 0)) : ∃ e, e ≠ 0 ∧ sign_Press.f v = some (0, 0, [], [], 0, 0, [], [], e) := by
  unfold sign_Press.f sign_Mean.f
  by_cases c : v.length = 0
  · rw [if_pos (by omega)]
    exact ⟨1, by decide, by simp⟩
  · rw [if_neg (by omega), vec_Size.of v hv]
    have h2 : (sizeV v).2 ≠ 0 := fun e => h ⟨c, e⟩
    exact ⟨(sizeV v).2, h2, by simp [h2]⟩
theorem may_s {n S : Int} {neg : List Bool} (h1 : 1 ≤ n ∧ n ≤ 4096) (h2 : 0 ≤ S) (h3 : (neg.length : Int) = n) : MayP 3 n [] [] S 0 [] neg := ⟨h1, .inr (.inr (.inr ⟨rfl, rfl, rfl, rfl, rfl, h2, h3⟩))⟩
theorem May_s {n S : Int} {neg : List Bool} (h1 : 1 ≤ n ∧ n ≤ 4096) (h2 : 0 ≤ S) (h3 : (neg.length : Int) = n) : frame_May.f 3 n [] [] S 0 [] neg = some true := by
  unfold frame_May.f
  rw [if_pos (by intro x hx; cases hx), decide_eq_true (may_s h1 h2 h3)]
theorem loosen_of {n S : Int} {neg : List Bool} (h1 : 1 ≤ n ∧ n ≤ 4096) (h2 : 0 ≤ S) (h3 : (neg.length : Int) = n) : sign_Loosen.f 3 n [] [] S 0 [] neg = some (loosenV S neg, 0) := by
  unfold sign_Loosen.f
  rw [if_pos ⟨(by intro x hx; cases hx), by omega⟩, if_pos ⟨may_s h1 h2 h3, rfl⟩]
theorem live11 : thrumlaw11_live.f = some true := by decide +kernel
theorem few0 (k : Nat) (v : List Int) : thrumlaw11_few.f (k + 1) v [] = some (decide (v.length ≤ 5000)) := by
  unfold thrumlaw11_few.f
  rw [thrumlaw11_few.l0, if_neg (by simp)]
  by_cases c : v.length ≤ 5000
  · rw [if_pos (by omega), decide_eq_true c]; simp
  · rw [if_neg (by omega), decide_eq_false c]
theorem le_up {α : Type} {f : Nat → Option α} (h : ∀ k, LeO (f k) (f (k + 1))) {r : α} {n : Nat} (e : f n = some r) : ∀ d, f (n + d) = some r
  | 0 => e
  | d + 1 => h (n + d) _ (le_up h e d)
theorem sumV_bad : ∀ (ps : List (Int × Int)) (s : Int), (sumV ps s).2 ≠ 0 → (sumV ps s).1 = 0
  | [], s, h => by simp [sumV] at h
  | p :: ps, s, h => by
    simp only [sumV] at h ⊢
    split
    · rename_i c
      rw [if_pos c] at h
      split
      · rename_i c2
        rw [if_pos c2] at h
        exact sumV_bad ps _ h
      · rfl
    · rfl
theorem sizeV_bad {v : List Int} (h : (sizeV v).2 ≠ 0) : (sizeV v).1 = 0 := by
  unfold sizeV at h ⊢
  split
  · rename_i c
    rw [if_pos c] at h
    exact sumV_bad _ _ h
  · rfl
/-- The mean, pressed, loosened, and whether it is pressed so. -/
def meanV (v : List Int) : Int × Int := if (v.length : Int) = 0 then (0, 1) else if (sizeV v).2 = 0 then (wrap64 (Int.tdiv (sizeV v).1 (v.length : Int)), 0) else (0, (sizeV v).2)
def negV (v : List Int) : List Bool := v.map fun x => decide (x < 0)
def pressV (v : List Int) : Int × Int × List Int × List Int × Int × Int × List Int × List Bool × Int :=
  if (meanV v).2 = 0 then (3, (v.length : Int), [], [], (meanV v).1, 0, [], negV v, 0) else (0, 0, [], [], 0, 0, [], [], (meanV v).2)
theorem mean_is {v : List Int} (hv : V64 v) : sign_Mean.f v = some (meanV v) := by
  unfold sign_Mean.f meanV
  by_cases c : (v.length : Int) = 0
  · rw [if_pos c, if_pos c]
  · rw [if_neg c, if_neg c, vec_Size.of v hv]
    simp only [Option.bind_some]
    by_cases c2 : (sizeV v).2 = 0
    · rw [if_pos c2, c2]
    · rw [if_neg c2, sizeV_bad c2, Int.zero_tdiv, wrap64_of (by unfold I64; omega)]
theorem ref_mean_is {v : List Int} (hv : V64 v) : thrumref11_Mean.f v = some (meanV v) := by
  unfold thrumref11_Mean.f meanV
  by_cases c : (v.length : Int) = 0
  · rw [if_pos c, if_pos c]
  · rw [if_neg c, if_neg c]
    unfold thrumref02_Size.f
    rw [if_pos hv]
    simp only [Option.bind_some]
    by_cases c2 : (sizeV v).2 = 0
    · rw [if_pos c2, if_pos c2]
    · rw [if_neg c2, if_neg c2]
theorem mean_ok {v : List Int} (h : (meanV v).2 = 0) : 1 ≤ v.length ∧ v.length ≤ 4096 ∧ 0 ≤ (meanV v).1 := by
  unfold meanV at h ⊢
  by_cases c : (v.length : Int) = 0
  · rw [if_pos c] at h; cases h
  · rw [if_neg c] at h ⊢
    by_cases c2 : (sizeV v).2 = 0
    · rw [if_pos c2]
      obtain ⟨h1, h2, h3, h4⟩ := size_is c2
      have hn := asum_nonneg v
      refine ⟨by omega, h1, ?_⟩
      have hq0 : 0 ≤ asum v / (v.length : Int) := Int.ediv_nonneg hn (by omega)
      have hq1 : asum v / (v.length : Int) ≤ asum v := Int.ediv_le_self _ hn
      rw [h3, Int.tdiv_eq_ediv_of_nonneg hn, wrap64_of (by unfold I64; omega)]
      exact hq0
    · rw [if_neg c2] at h; exact absurd h c2
theorem press_is {v : List Int} (hv : V64 v) : sign_Press.f v = some (pressV v) := by
  unfold sign_Press.f pressV
  rw [mean_is hv]
  simp only [Option.bind_some]
  by_cases c : (meanV v).2 = 0
  · rw [if_pos c, if_pos c]
    obtain ⟨h1, h2, _⟩ := mean_ok c
    unfold sign_each_int64_bool.f
    rw [if_pos ⟨rfl, by omega⟩]
    rfl
  · rw [if_neg c, if_neg c]
theorem ref_press_l0 (v : List Int) (hn : v.length ≤ 4096) (a b c : Int) (d : Int) : ∀ (m i : Nat) (acc : List Bool), m + i = v.length → acc = negV (v.take i) →
    thrumref11_Press.l0 (m + 1) v (v.length : Int) (i : Int) a b c d acc = some (a, b, [], [], c, d, [], negV v, 0)
  | 0, i, acc, hm, hacc => by
    have hi : i = v.length := by omega
    subst hi
    rw [thrumref11_Press.l0, if_neg (by omega), hacc, List.take_length]
  | m + 1, i, acc, hm, hacc => by
    have hi : i < v.length := by omega
    have hl : acc.length ≤ i := by rw [hacc]; simp [negV]; omega
    rw [thrumref11_Press.l0, if_pos (by omega), if_pos (by omega), if_pos (by omega), if_pos (by omega), show rd v (i : Int) = v[i] from rd_nat hi, wrap64_of (by unfold I64; omega), show (i : Int) + 1 = ((i + 1 : Nat) : Int) by omega]
    refine ref_press_l0 v hn a b c d m (i + 1) _ (by omega) ?_
    rw [hacc, List.take_add_one, List.getElem?_eq_getElem hi]
    simp only [negV, List.map_append]; rfl
theorem ref_press_is {v : List Int} (hv : V64 v) (k : Nat) (hk : 4097 ≤ k) : thrumref11_Press.f k v = some (pressV v) := by
  unfold thrumref11_Press.f pressV
  rw [ref_mean_is hv]
  simp only [Option.bind_some]
  by_cases c : (meanV v).2 = 0
  · rw [if_pos c, if_pos c]
    obtain ⟨h1, h2, _⟩ := mean_ok c
    have h := ref_press_l0 v h2 3 (v.length : Int) (meanV v).1 0 v.length 0 [] (by omega) (by simp [negV])
    have := le_up (f := fun k => thrumref11_Press.l0 k v (v.length : Int) 0 3 (v.length : Int) (meanV v).1 0 ([] : List Bool)) (fun k => thrumref11_Press.mono_l k _ _ _ _ _ _ _ _) h (k - (v.length + 1))
    rwa [show v.length + 1 + (k - (v.length + 1)) = k by omega] at this
  · rw [if_neg c, if_neg c]
def looseP (a0 a1 : Int) (l2 l3 : List Int) (a4 a5 : Int) (l6 : List Int) (l7 : List Bool) : List Int × Int := if MayP a0 a1 l2 l3 a4 a5 l6 l7 ∧ a0 = 3 then (loosenV a4 l7, 0) else ([], 1)
theorem loose_is {a0 a1 a4 a5 : Int} {l2 l3 l6 : List Int} {l7 : List Bool} (hu : U64L l6) (hl : l7.length ≤ 500) : sign_Loosen.f a0 a1 l2 l3 a4 a5 l6 l7 = some (looseP a0 a1 l2 l3 a4 a5 l6 l7) := by
  unfold sign_Loosen.f looseP
  rw [if_pos ⟨hu, by omega⟩]
theorem ref_loose_l0 (a0 a1 a4 a5 : Int) (l2 l3 l6 : List Int) (l7 : List Bool) (hl : l7.length ≤ 500) : ∀ (m i : Nat) (acc : List Int), m + i = l7.length → acc = loosenV a4 (l7.take i) →
    thrumref11_Loosen.l0 (m + 1) acc l7 (l7.length : Int) (i : Int) a0 a1 l2 l3 a4 a5 l6 l7 = some (loosenV a4 l7, 0)
  | 0, i, acc, hm, hacc => by
    have hi : i = l7.length := by omega
    subst hi
    rw [thrumref11_Loosen.l0, if_neg (by omega), hacc, List.take_length]
  | m + 1, i, acc, hm, hacc => by
    have hi : i < l7.length := by omega
    have ha : acc.length ≤ i := by rw [hacc]; simp [loosenV]; omega
    have e : acc ++ [if l7[i] = true then wrap64 (-a4) else a4] = loosenV a4 (l7.take (i + 1)) := by
      rw [hacc, List.take_add_one, List.getElem?_eq_getElem hi]
      simp only [loosenV, List.map_append]; rfl
    rw [thrumref11_Loosen.l0, if_pos (by omega), if_pos (by omega), if_pos (by omega), show rdOf false l7 (i : Int) = l7[i] from rdb_nat hi, wrap64_of (x := (i : Int) + 1) (by unfold I64; omega), show (i : Int) + 1 = ((i + 1 : Nat) : Int) by omega]
    have ih := ref_loose_l0 a0 a1 a4 a5 l2 l3 l6 l7 hl m (i + 1) _ (by omega) e
    by_cases c : l7[i] = true
    · rw [if_pos c] at ih ⊢; rw [if_pos (by omega)]; exact ih
    · rw [if_neg c] at ih ⊢; rw [if_pos (by omega)]; exact ih
theorem ref_loose_is {a0 a1 a4 a5 : Int} {l2 l3 l6 : List Int} {l7 : List Bool} (hu : U64L l6) (hl : l7.length ≤ 500) (k : Nat) (hk : 600 ≤ k) : thrumref11_Loosen.f k a0 a1 l2 l3 a4 a5 l6 l7 = some (looseP a0 a1 l2 l3 a4 a5 l6 l7) := by
  unfold thrumref11_Loosen.f looseP thrumref07_May.f
  rw [if_pos hu]
  simp only [Option.bind_some]
  obtain ⟨j, rfl⟩ : ∃ j, k = j + 1 := ⟨k - 1, by omega⟩
  by_cases c : MayP a0 a1 l2 l3 a4 a5 l6 l7
  · rw [if_pos (decide_eq_true c), thrumref11_Loosen.j0]
    by_cases c2 : a0 = 3
    · rw [if_neg (by simp [c2]), if_pos ⟨c, c2⟩]
      have h := ref_loose_l0 a0 a1 a4 a5 l2 l3 l6 l7 hl l7.length 0 [] (by omega) (by simp [loosenV])
      have := le_up (f := fun k => thrumref11_Loosen.l0 k ([] : List Int) l7 (l7.length : Int) 0 a0 a1 l2 l3 a4 a5 l6 l7) (fun k => (thrumref11_Loosen.mono_l k).2 _ _ _ _ _ _ _ _ _ _ _ _) h (j - (l7.length + 1))
      rwa [show l7.length + 1 + (j - (l7.length + 1)) = j by omega] at this
    · rw [if_pos (by simpa using c2), if_neg (fun h => c2 h.2)]
  · rw [if_neg (by simpa using c), thrumref11_Loosen.j0, if_pos rfl, if_neg (fun h => c h.1)]
theorem same_sent {a0 a1 a4 a5 b0 b1 b4 b5 : Int} {l2 l3 l6 m2 m3 m6 : List Int} {l7 m7 : List Bool} : thrumref07_SameSent.f a0 a1 l2 l3 a4 a5 l6 l7 b0 b1 m2 m3 b4 b5 m6 m7 = some (decide (a0 = b0 ∧ a1 = b1 ∧ l2 = m2 ∧ l3 = m3 ∧ a4 = b4 ∧ a5 = b5 ∧ l6 = m6 ∧ l7 = m7)) := by
  unfold thrumref07_SameSent.f thrumref06_Equal.f thrumref02_Same.f thrumref03_SameNumbers.f thrumref05_SameSigns.f
  by_cases c0 : a0 = b0
  · by_cases c1 : a1 = b1
    · by_cases c2 : l2 = m2
      · by_cases c3 : l3 = m3
        · by_cases c4 : a4 = b4
          · by_cases c5 : a5 = b5
            · by_cases c6 : l6 = m6 <;> simp [c0, c1, c2, c3, c4, c5, c6]
            · simp [c0, c1, c2, c3, c4, c5]
          · simp [c0, c1, c2, c3, c4]
        · simp [c0, c1, c2, c3]
      · simp [c0, c1, c2]
    · simp [c0, c1]
  · simp [c0]
def isB (v : List Int) (a0 a1 : Int) (l2 l3 : List Int) (a4 a5 : Int) (l6 : List Int) (l7 : List Bool) : Bool := decide ((meanV v).2 = 0 ∧ (3 = a0 ∧ (v.length : Int) = a1 ∧ [] = l2 ∧ [] = l3 ∧ (meanV v).1 = a4 ∧ 0 = a5 ∧ [] = l6 ∧ negV v = l7))
theorem ref_is_is {v : List Int} (hv : V64 v) {a0 a1 a4 a5 : Int} {l2 l3 l6 : List Int} {l7 : List Bool} (k : Nat) (hk : 4097 ≤ k) : thrumref11_Is.f k v a0 a1 l2 l3 a4 a5 l6 l7 = some (isB v a0 a1 l2 l3 a4 a5 l6 l7) := by
  unfold thrumref11_Is.f isB
  rw [ref_press_is hv k hk]
  simp only [Option.bind_some, same_sent]
  unfold pressV
  by_cases c : (meanV v).2 = 0
  · rw [if_pos c]; simp [c]
  · rw [if_neg c]; simp [c]
theorem is_is {v : List Int} (hv : V64 v) {a0 a1 a4 a5 : Int} {l2 l3 l6 : List Int} {l7 : List Bool} (hu : U64L l6) : sign_Is.f v a0 a1 l2 l3 a4 a5 l6 l7 = some (isB v a0 a1 l2 l3 a4 a5 l6 l7) := by
  unfold sign_Is.f isB
  rw [press_is hv]
  simp only [Option.bind_some]
  unfold pressV
  by_cases c : (meanV v).2 = 0
  · obtain ⟨h1, h2, h3⟩ := mean_ok c
    rw [if_pos c]
    simp only [c, if_true, true_and]
    unfold frame_May.f slices_Equal_bool_bool.f
    rw [if_pos hu]
    simp only [Option.bind_some]
    by_cases q : MayP a0 a1 l2 l3 a4 a5 l6 l7
    · rw [if_pos (decide_eq_true q)]
      by_cases q0 : a0 = 3
      · rw [if_pos q0]
        obtain ⟨_, h⟩ := q
        obtain ⟨e2, e3, e5, e6, e4, e7⟩ : l2 = [] ∧ l3 = [] ∧ a5 = 0 ∧ l6 = [] ∧ 0 ≤ a4 ∧ (l7.length : Int) = a1 := by
          rcases h with h | h | h | h
          · omega
          · omega
          · omega
          · exact ⟨h.2.1, h.2.2.1, h.2.2.2.1, h.2.2.2.2.1, h.2.2.2.2.2.1, h.2.2.2.2.2.2⟩
        by_cases q4 : a4 = (meanV v).1
        · rw [if_pos q4]
          congr 1
          refine decide_eq_decide.2 ⟨fun e => ⟨q0.symm, ?_, e2.symm, e3.symm, q4.symm, e5.symm, e6.symm, e.symm⟩, fun e => e.2.2.2.2.2.2.2.symm⟩
          rw [← e7, e]; simp [negV]
        · rw [if_neg q4]
          congr 1
          exact (decide_eq_false fun e => q4 e.2.2.2.2.1.symm).symm
      · rw [if_neg q0]
        congr 1
        exact (decide_eq_false fun e => q0 e.1.symm).symm
    · rw [if_neg (by simpa using q)]
      congr 1
      refine (decide_eq_false fun e => q ?_).symm
      obtain ⟨e0, e1, e2, e3, e4, e5, e6, e7⟩ := e
      subst e0; subst e1; subst e2; subst e3; subst e4; subst e5; subst e6; subst e7
      exact may_s (by omega) h3 (by simp [negV])
  · rw [if_neg c]; simp [c]
theorem SignPresses : thrumlaw11_SignPresses.Pure := by
  intro v a0 a1 l2 l3 a4 a5 l6 l7 hm hs wl w0 w1 w2 w3 w4 w5 w6 w7
  have hv := v64_of_wf wl
  have hu : U64L l6 := fun x hx => u64_of_wf (w6.2 x hx)
  refine ⟨v.length + 5000, ?_⟩
  unfold thrumlaw11_SignPresses.f
  rw [live11]
  simp only [Option.bind_some, if_true]
  rw [few0]
  simp only [Option.bind_some]
  by_cases c : v.length ≤ 5000
  · rw [if_pos (decide_eq_true c)]
    unfold thrumref07_Big.f
    by_cases b2 : (l2.length : Int) > 500
    · rw [if_pos b2]; simp only [Option.bind_some]; rw [thrumlaw11_SignPresses.j0, if_pos rfl]
    rw [if_neg b2]
    by_cases b3 : (l3.length : Int) > 500
    · rw [if_pos b3]; simp only [Option.bind_some]; rw [thrumlaw11_SignPresses.j0, if_pos rfl]
    rw [if_neg b3]
    by_cases b6 : (l6.length : Int) > 500
    · rw [if_pos b6]; simp only [Option.bind_some]; rw [thrumlaw11_SignPresses.j0, if_pos rfl]
    rw [if_neg b6]
    simp only [Option.bind_some]
    rw [thrumlaw11_SignPresses.j0]
    by_cases b7 : (l7.length : Int) > 500
    · rw [if_pos (decide_eq_true b7)]
    rw [if_neg (by simpa using b7), if_pos (by simp; omega), mean_is hv, ref_mean_is hv, press_is hv, ref_press_is hv _ (by omega), loose_is hu (by omega), ref_loose_is hu (by omega) _ (by omega)]
    simp only [Option.bind_some, if_true, same_sent, and_self, decide_true]
    unfold thrumref02_Same.f
    simp only [Option.bind_some, decide_true, if_true, List.nil_append]
    have hpu : U64L (pressV v).2.2.2.2.2.2.1 := by
      have e : (pressV v).2.2.2.2.2.2.1 = [] := by unfold pressV; split <;> rfl
      rw [e]; intro x hx; cases hx
    rw [is_is hv hu, ref_is_is hv _ (by omega), is_is hv hpu, ref_is_is hv _ (by omega)]
    simp
  · rw [if_neg (by simpa using c), thrumlaw11_SignPresses.j0, if_pos rfl]
end Go.Proofs.Ytnhdeljkoackfaa.Pure
