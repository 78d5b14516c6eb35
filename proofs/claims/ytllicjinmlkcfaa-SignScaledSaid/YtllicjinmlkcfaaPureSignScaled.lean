/- SignScaled: of a vector so many times greater the signs are the same, and the scale is so many times greater. -/
import Derived.Test.YtllicjinmlkcfaaHCx14
import Derived.Test.YtllicjinmlkcfaaPVec
namespace Go.Proofs.Ytllicjinmlkcfaa.Pure
open Go.RowKit Go.Proofs.Ytllicjinmlkcfaa.HC Go.Proofs.YtllicjinmlkcfaaW.PrintWords Go.Proofs.YtllicjinmlkcfaaW.PrintLast Go.Proofs.YtllicjinmlkcfaaW.PrintMore Go.Proofs.Ytllicjinmlkcfaa.Sp
set_option linter.unusedVariables false
set_option linter.unusedSimpArgs false
theorem size_ok (B : Int) (hB : 0 ≤ B) (v : List Int) (h : ∀ x ∈ v, (x.natAbs : Int) ≤ B) (hl : v.length ≤ 4096) (hb : B * v.length ≤ 9223372036854775807) : sizeV v = (asum v, 0) := by
  unfold sizeV
  rw [if_pos (checkE_of hl)]
  have e : v.map absF = (v.map fun x => (x.natAbs : Int)).map (fun x => (x, 0)) := by
    rw [List.map_map]
    apply List.map_congr_left
    intro x hx
    have h1 := h x hx
    have h2 : B ≤ 9223372036854775807 := by
      have hn : 0 < v.length := List.length_pos_of_mem hx
      have : B * 1 ≤ B * (v.length : Int) := Int.mul_le_mul_of_nonneg_left (by omega) hB
      omega
    show absF x = ((x.natAbs : Int), 0)
    exact res_of (by unfold I64; omega)
  have e2 : ∀ l : List Int, isum (l.map fun x => (x.natAbs : Int)) = asum l := by
    intro l
    induction l with
    | nil => rfl
    | cons x l ih => simp only [List.map_cons, isum, asum, ih]
  rw [e, sumV_ok B hB _ 0 (fun x hx => by obtain ⟨y, hy, rfl⟩ := List.mem_map.1 hx; have := h y hy; omega) (by rw [List.length_map]; omega), e2]
  simp
theorem size_is {v : List Int} (h : (sizeV v).2 = 0) : v.length ≤ 4096 ∧ (∀ x ∈ v, (absF x).2 = 0) ∧ (sizeV v).1 = asum v ∧ asum v ≤ 9223372036854775807 := by
  unfold sizeV at *
  by_cases c : checkE v = 0
  · rw [if_pos c] at h ⊢
    obtain ⟨h1, h2⟩ := sumV_abs v 0 h
    have hi := sumV_i64 (v.map absF) 0 i64_zero
    refine ⟨checkE_le c, h1, by omega, ?_⟩
    unfold I64 at hi; omega
  · rw [if_neg c] at h; exact absurd h c
theorem press_of {v : List Int} (hv : V64 v) (h0 : v.length ≠ 0) (h : (sizeV v).2 = 0) : sign_Press.f v = some (3, (v.length : Int), [], [], asum v / v.length, 0, [], v.map (fun x => decide (x < 0)), 0) := by
  obtain ⟨hl, _, hs, hb⟩ := size_is h
  have hn := asum_nonneg v
  unfold sign_Press.f sign_Mean.f
  rw [if_neg (by omega), vec_Size.of v hv]
  simp only [Option.bind_some, h, if_true, hs]
  have hq0 : 0 ≤ asum v / (v.length : Int) := Int.ediv_nonneg hn (by omega)
  have hq1 : asum v / (v.length : Int) ≤ asum v := Int.ediv_le_self _ hn
  rw [Int.tdiv_eq_ediv_of_nonneg hn, wrap64_of (by unfold I64; omega)]
  unfold sign_each_int64_bool.f
  rw [if_pos ⟨rfl, by omega⟩]
  rfl
theorem press_bad {v : List Int} (hv : V64 v) (h : ¬ (v.length ≠ 0 ∧ (sizeV v).2 = 0)) : ∃ e, e ≠ 0 ∧ sign_Press.f v = some (0, 0, [], [], 0, 0, [], [], e) := by
  unfold sign_Press.f sign_Mean.f
  by_cases c : v.length = 0
  · rw [if_pos (by omega)]
    exact ⟨1, by decide, by simp⟩
  · rw [if_neg (by omega), vec_Size.of v hv]
    have h2 : (sizeV v).2 ≠ 0 := fun e => h ⟨c, e⟩
    exact ⟨(sizeV v).2, h2, by simp [h2]⟩
theorem may_s {n S : Int} {neg : List Bool} (h1 : 1 ≤ n ∧ n ≤ 4096) (h2 : 0 ≤ S) (h3 : (neg.length : Int) = n) : MayP 3 n [] [] S 0 [] neg := ⟨h1, .inr (.inr (.inr ⟨rfl, rfl, rfl, rfl, rfl, h2, h3⟩))⟩
theorem May_s {n S : Int} {neg : List Bool} (h1 : 1 ≤ n ∧ n ≤ 4096) (h2 : 0 ≤ S) (h3 : (neg.length : Int) = n) : frame_May.f 3 n [] [] S 0 [] neg = some true := by
  unfold frame_May.f
  rw [if_pos (by intro x hx; cases hx), decide_eq_true (may_s h1 h2 h3)]
theorem loosen_of {n S : Int} {neg : List Bool} (h1 : 1 ≤ n ∧ n ≤ 4096) (h2 : 0 ≤ S) (h3 : (neg.length : Int) = n) : sign_Loosen.f 3 n [] [] S 0 [] neg = some (loosenV S neg, 0) := by
  unfold sign_Loosen.f
  rw [if_pos ⟨(by intro x hx; cases hx), by omega⟩, if_pos ⟨may_s h1 h2 h3, rfl⟩]
theorem live11 : thrumlaw11_live.f = some true := by decide +kernel
theorem few0 (k : Nat) (v : List Int) : thrumlaw11_few.f (k + 1) v [] = some (decide (v.length ≤ 5000)) := by
  unfold thrumlaw11_few.f
  rw [thrumlaw11_few.l0, if_neg (by simp)]
  by_cases c : v.length ≤ 5000
  · rw [if_pos (by omega), decide_eq_true c]; simp
  · rw [if_neg (by omega), decide_eq_false c]
theorem neg_at (v : List Int) (i : Nat) (h : i < v.length) : rdOf false (v.map fun x => decide (x < 0)) (i : Int) = decide (v[i] < 0) := by
  rw [rdb_nat (by simpa using h)]; simp
theorem loosen_at (v : List Int) (S : Int) (hS : 0 ≤ S ∧ S ≤ 9223372036854775807) (i : Nat) (h : i < v.length) : rd (loosenV S (v.map fun x => decide (x < 0))) (i : Int) = if v[i] < 0 then -S else S := by
  rw [rd_nat (by simpa [loosenV] using h)]
  simp only [loosenV, List.getElem_map]
  by_cases c : v[i] < 0
  · rw [decide_eq_true c, if_pos rfl, if_pos c, wrap64_of (by unfold I64; omega)]
  · rw [decide_eq_false c, if_neg (by decide), if_neg c]
theorem loosen_mem {S : Int} (hS : 0 ≤ S ∧ S ≤ 9223372036854775807) {neg : List Bool} {x : Int} (hx : x ∈ loosenV S neg) : x = S ∨ x = -S := by
  obtain ⟨b, _, rfl⟩ := List.mem_map.1 hx
  cases b
  · exact .inl rfl
  · exact .inr (wrap64_of (by unfold I64; omega))
theorem loosen_sum {S : Int} (hS : 0 ≤ S ∧ S ≤ 9223372036854775807) : ∀ neg : List Bool, asum (loosenV S neg) = neg.length * S
  | [] => by simp [loosenV, asum]
  | b :: neg => by
    have ih := loosen_sum hS neg
    have e : ((neg.length + 1 : Nat) : Int) * S = neg.length * S + S := by rw [Int.natCast_add, Int.add_mul]; simp
    rw [List.length_cons, e, ← ih]
    have hx : ((if b then wrap64 (-S) else S).natAbs : Int) = S := by
      cases b
      · show (S.natAbs : Int) = S; omega
      · show ((wrap64 (-S)).natAbs : Int) = S
        rw [wrap64_of (by unfold I64; omega)]; omega
    show ((if b then wrap64 (-S) else S).natAbs : Int) + asum (loosenV S neg) = _
    rw [hx]; omega
theorem loosen_size {S : Int} (hS : 0 ≤ S ∧ S ≤ 9223372036854775807) (neg : List Bool) (hl : neg.length ≤ 4096) (hb : S * neg.length ≤ 9223372036854775807) : sizeV (loosenV S neg) = (neg.length * S, 0) := by
  have e : (loosenV S neg).length = neg.length := by simp [loosenV]
  rw [size_ok S hS.1 _ (fun x hx => by rcases loosen_mem hS hx with h | h <;> (rw [h]; omega)) (by omega) (by rw [e]; exact hb), loosen_sum hS]
theorem loosen_v64 {S : Int} (hS : 0 ≤ S ∧ S ≤ 9223372036854775807) (neg : List Bool) : V64 (loosenV S neg) := by
  intro x hx
  rcases loosen_mem hS hx with h | h <;> (rw [h]; unfold I64; omega)
/-- The mean, times how many there are. -/
theorem mean_mul {a : Int} {n : Nat} (hn : n ≠ 0) : a / (n : Int) * n ≤ a ∧ a - a / (n : Int) * n < n := by
  have h1 := Int.emod_add_mul_ediv a (n : Int)
  have h2 := Int.emod_nonneg a (show (n : Int) ≠ 0 by omega)
  have h3 := Int.emod_lt_of_pos a (show (0 : Int) < n by omega)
  rw [Int.mul_comm] at h1
  omega
theorem asum_mul (b : Int) (hb : 0 ≤ b) : ∀ v : List Int, asum (v.map (b * ·)) = b * asum v
  | [] => by simp [asum]
  | x :: v => by
    have ih := asum_mul b hb v
    simp only [List.map_cons, asum, ih, Int.mul_add]
    rw [Int.natAbs_mul]; push_cast; rw [show ((b.natAbs : Nat) : Int) = b by omega]
theorem scaled_l0 (b : Int) (hb : 1 ≤ b ∧ b ≤ 1000) (v : List Int) (hv : V64 v) (hn0 : v.length ≠ 0) (hn : v.length ≤ 4096) : ∀ (d i : Nat) (acc : List Int), d + i = v.length → acc = (v.take i).map (b * ·) → (∀ x ∈ v.take i, -1099511627776 ≤ x ∧ x ≤ 1099511627776) →
    thrumlaw11_SignScaled.l0 (d + 1) v b true acc v (v.length : Int) (i : Int) = some true := by
  intro d
  induction d with
  | zero =>
    intro i acc hd hacc hin
    have hi : i = v.length := by omega
    subst hi
    rw [List.take_length] at hacc hin
    subst hacc
    have hbx : ∀ x ∈ v, -1099511627776000 ≤ b * x ∧ b * x ≤ 1099511627776000 := by
      intro x hx
      have h := hin x hx
      have e1 := Int.mul_le_mul_of_nonneg_left h.2 (show 0 ≤ b by omega)
      have e2 := Int.mul_le_mul_of_nonneg_left h.1 (show 0 ≤ b by omega)
      omega
    have hw : V64 (v.map (b * ·)) := by
      intro x hx
      obtain ⟨y, hy, rfl⟩ := List.mem_map.1 hx
      have := hbx y hy
      unfold I64; omega
    have hs1 : sizeV v = (asum v, 0) := size_ok 1099511627776 (by decide) v (fun x hx => by have := hin x hx; omega) hn (by omega)
    have hs2 : sizeV (v.map (b * ·)) = (b * asum v, 0) := by
      rw [size_ok 1099511627776000 (by decide) _ (fun x hx => by obtain ⟨y, hy, rfl⟩ := List.mem_map.1 hx; have := hbx y hy; omega) (by simpa using hn) (by simp; omega), asum_mul b (by omega)]
    have h0 := asum_nonneg v
    have hub := asum_le v 1099511627776 (fun x hx => by have := hin x hx; omega)
    rw [thrumlaw11_SignScaled.l0, if_neg (by omega), press_of hv hn0 (by rw [hs1]), press_of hw (by simpa using hn0) (by rw [hs2])]
    simp only [Option.bind_some, if_true, List.length_map, List.map_map]
    rw [asum_mul b (by omega)]
    have hneg : v.map ((fun x => decide (x < 0)) ∘ (b * ·)) = v.map (fun x => decide (x < 0)) := by
      apply List.map_congr_left
      intro x hx
      show decide (b * x < 0) = decide (x < 0)
      refine decide_eq_decide.2 ⟨fun h => ?_, fun h => ?_⟩
      · apply Classical.byContradiction; intro c
        have := Int.mul_nonneg (show 0 ≤ b by omega) (show 0 ≤ x by omega); omega
      · have := Int.mul_le_mul_of_nonneg_left (show x ≤ -1 by omega) (show 0 ≤ b by omega)
        omega
    rw [hneg]
    unfold thrumref05_SameSigns.f
    simp only [Option.bind_some, decide_true, if_true]
    generalize asum v = A at *
    have hnp : (0 : Int) < v.length := by omega
    have m1 := mean_mul (a := A) hn0
    have m2 := mean_mul (a := b * A) hn0
    have q0 : 0 ≤ A / (v.length : Int) := Int.ediv_nonneg h0 (by omega)
    have q1 : A / (v.length : Int) ≤ A := Int.ediv_le_self _ h0
    have q2 : b * (A / (v.length : Int)) ≤ 1000 * (A / (v.length : Int)) := Int.mul_le_mul_of_nonneg_right hb.2 q0
    have q3 : 0 ≤ b * (A / (v.length : Int)) := Int.mul_nonneg (by omega) q0
    have hA2 : A ≤ 4503599627370496 := by omega
    rw [wrap64_of (x := b * (A / (v.length : Int))) (by unfold I64; omega), wrap64_of (x := b * (A / (v.length : Int)) + b) (by unfold I64; omega)]
    have g1 : b * (A / (v.length : Int)) ≤ b * A / (v.length : Int) := by
      rw [Int.le_ediv_iff_mul_le hnp, Int.mul_assoc]
      exact Int.mul_le_mul_of_nonneg_left m1.1 (by omega)
    have g2 : b * A / (v.length : Int) < b * (A / (v.length : Int)) + b := by
      rw [Int.ediv_lt_iff_lt_mul hnp, Int.add_mul, Int.mul_assoc, ← Int.mul_add]
      exact Int.mul_lt_mul_of_pos_left (by omega) (by omega)
    rw [if_pos g1, decide_eq_true g2]
  | succ d ih =>
    intro i acc hd hacc hin
    have hi : i < v.length := by omega
    rw [thrumlaw11_SignScaled.l0, if_pos (by omega), if_pos (by omega), if_pos (by omega), show rd v (i : Int) = v[i] from rd_nat hi]
    by_cases c1 : v[i] > 1099511627776
    · rw [if_pos c1]
    · rw [if_neg c1]
      by_cases c2 : v[i] < -1099511627776
      · rw [if_pos c2]
      · have hla : acc.length ≤ i := by rw [hacc]; simp; omega
        have e1 := Int.mul_le_mul_of_nonneg_left (show v[i] ≤ 1099511627776 by omega) (show 0 ≤ b by omega)
        have e2 := Int.mul_le_mul_of_nonneg_left (show -1099511627776 ≤ v[i] by omega) (show 0 ≤ b by omega)
        rw [if_neg c2, if_pos (by omega), wrap64_of (x := b * v[i]) (by unfold I64; omega), wrap64_of (by unfold I64; omega), show (i : Int) + 1 = ((i + 1 : Nat) : Int) by omega]
        refine ih (i + 1) _ (by omega) ?_ ?_
        · rw [hacc, List.take_add_one, List.getElem?_eq_getElem hi, List.map_append]; rfl
        · intro x hx
          rw [List.take_add_one, List.getElem?_eq_getElem hi] at hx
          rcases List.mem_append.1 hx with e | e
          · exact hin x e
          · simp at e; rw [e]; omega
theorem SignScaled : thrumlaw11_SignScaled.Pure := by
  intro l0 a1 hm hs wl w1
  have hv := v64_of_wf wl
  have h1 := i64_of_wf w1
  refine ⟨l0.length + 1 + 1, ?_⟩
  unfold thrumlaw11_SignScaled.f
  rw [live11]
  simp only [Option.bind_some, if_true]
  rw [few0]
  simp only [Option.bind_some]
  have ht1 := Int.tmod_lt_of_pos a1 (show (0 : Int) < 1000 by decide)
  have ht2 : -1000 < Int.tmod a1 1000 := Int.lt_tmod_of_pos a1 (by decide)
  obtain ⟨b, hb⟩ : ∃ b, wrap64 (1 + Int.tmod (wrap64 (Int.tmod a1 1000 + 1000)) 1000) = b := ⟨_, rfl⟩
  have hbb : 1 ≤ b ∧ b ≤ 1000 := by
    rw [wrap64_of (x := Int.tmod a1 1000 + 1000) (by unfold I64; omega), Int.tmod_eq_emod_of_nonneg (by omega), wrap64_of (by unfold I64; omega)] at hb
    omega
  by_cases c : l0.length ≤ 5000
  · rw [if_pos (decide_eq_true c)]
    by_cases c1 : l0.length = 0
    · rw [if_pos (by omega), thrumlaw11_SignScaled.j0, if_pos rfl]
    · rw [if_neg (by omega), thrumlaw11_SignScaled.j0, hb]
      by_cases c2 : l0.length > 4096
      · rw [if_pos (decide_eq_true (by omega))]
      · rw [if_neg (by simp; omega)]
        exact scaled_l0 b hbb l0 hv c1 (by omega) l0.length 0 [] (by omega) (by simp) (by simp)
  · rw [if_neg (by simpa using c), thrumlaw11_SignScaled.j0, if_pos rfl]
end Go.Proofs.Ytllicjinmlkcfaa.Pure
