/- SignTurned: with all signs turned a vector is pressed to the signs turned. -/
import Derived.Test.YtnhdeljkoackfaaHCx10
import Derived.Test.YtnhdeljkoackfaaPVec
namespace Go.Proofs.Ytnhdeljkoackfaa.Pure
open Go.RowKit Go.Proofs.Ytnhdeljkoackfaa.HC Go.Proofs.YtnhdeljkoackfaaW.PrintWords Go.Proofs.YtnhdeljkoackfaaW.PrintLast Go.Proofs.YtnhdeljkoackfaaW.PrintMore Go.Proofs.Ytnhdeljkoackfaa.Sp
set_option linter.unusedVariables false
set_option linter.unusedSimpArgs false
theorem size_ok (B : Int) (hB : 0 ≤ B) (v : List Int) (h : ∀ x ∈ v, (x.natAbs : Int) ≤ B) (hl : v.length ≤ 4096) (hb : B * v.length ≤ 9223372036854775807) : sizeV v = (asum v, 0) := by
  unfold sizeV
  rw [if_pos (checkE_of hl)]
  have e : v.map absF = (v.map fun x => (x.natAbs : Int)).map (fun x => (x, 0)) := by
    rw [List.map_map]
    apply List.map_congr_left
    intro x hx
    have h1 := h x hx
    have h2 : B ≤ 9223372036854775807 := by
      have hn : 0 < v.length := List.length_pos_of_mem hx
      have : B * 1 ≤ B * (v.length : Int) := Int.mul_le_mul_of_nonneg_left (by omega) hB
      omega
    show absF x = ((x.natAbs : Int), 0)
    exact res_of (by unfold I64; omega)
  have e2 : ∀ l : List Int, isum (l.map fun x => (x.natAbs : Int)) = asum l := by
    intro l
    induction l with
    | nil => rfl
    | cons x l ih => simp only [List.map_cons, isum, asum, ih]
  rw [e, sumV_ok B hB _ 0 (fun x hx => by obtain ⟨y, hy, rfl⟩ := List.mem_map.1 hx; have := h y hy; omega) (by rw [List.length_map]; omega), e2]
  simp
theorem size_is {v : List Int} (h : (sizeV v).2 = 0) : v.length ≤ 4096 ∧ (∀ x ∈ v, (absF x).2 = 0) ∧ (sizeV v).1 = asum v ∧ asum v ≤ 9223372036854775807 := by
  unfold sizeV at *
  by_cases c : checkE v = 0
  · rw [if_pos c] at h ⊢
    obtain ⟨h1, h2⟩ := sumV_abs v 0 h
    have hi := sumV_i64 (v.map absF) 0 i64_zero
    refine ⟨checkE_le c, h1, by omega, ?_⟩
    unfold I64 at hi; omega
  · rw [if_neg c] at h; exact absurd h c
theorem press_of {v : List Int} (hv : V64 v) (h0 : v.length ≠ 0) (h : (sizeV v).2 = 0) : sign_Press.f v = some (3, (v.length : Int), [], [], asum v / v.length, 0, [], v.map (fun x => decide (x < 0)), 0) := by
  obtain ⟨hl, _, hs, hb⟩ := size_is h
  have hn := asum_nonneg v
  unfold sign_Press.f sign_Mean.f
  rw [if_neg (by omega), vec_Size.of v hv]
  simp only [Option.bind_some, h, if_true, hs]
  have hq0 : 0 ≤ asum v / (v.length : Int) := Int.ediv_nonneg hn (by omega)
  have hq1 : asum v / (v.length : Int) ≤ asum v := Int.ediv_le_self _ hn
  rw [Int.tdiv_eq_ediv_of_nonneg hn, wrap64_of (by unfold I64; omega)]
  unfold sign_each_int64_bool.f
  rw [if_pos ⟨rfl, by omega⟩]
  rfl
theorem press_bad {v : List Int} (hv : V64 v) (h : ¬ (v.length ≠ 0 ∧ (sizeV v).2 = 0)) : ∃ e, e ≠ 0 ∧ sign_Press.f v = some (0, 0, [], [], 0, 0, [], [], e) := by
  unfold sign_Press.f sign_Mean.f
  by_cases c : v.length = 0
  · rw [if_pos (by omega)]
    exact ⟨1, by decide, by simp⟩
  · rw [if_neg (by omega), vec_Size.of v hv]
    have h2 : (sizeV v).2 ≠ 0 := fun e => h ⟨c, e⟩
    exact ⟨(sizeV v).2, h2, by simp [h2]⟩
theorem may_s {n S : Int} {neg : List Bool} (h1 : 1 ≤ n ∧ n ≤ 4096) (h2 : 0 ≤ S) (h3 : (neg.length : Int) = n) : MayP 3 n [] [] S 0 [] neg := ⟨h1, .inr (.inr (.inr ⟨rfl, rfl, rfl, rfl, rfl, h2, h3⟩))⟩
theorem May_s {n S : Int} {neg : List Bool} (h1 : 1 ≤ n ∧ n ≤ 4096) (h2 : 0 ≤ S) (h3 : (neg.length : Int) = n) : frame_May.f 3 n [] [] S 0 [] neg = some true := by
  unfold frame_May.f
  rw [if_pos (by intro x hx; cases hx), decide_eq_true (may_s h1 h2 h3)]
theorem loosen_of {n S : Int} {neg : List Bool} (h1 : 1 ≤ n ∧ n ≤ 4096) (h2 : 0 ≤ S) (h3 : (neg.length : Int) = n) : sign_Loosen.f 3 n [] [] S 0 [] neg = some (loosenV S neg, 0) := by
  unfold sign_Loosen.f
  rw [if_pos ⟨(by intro x hx; cases hx), by omega⟩, if_pos ⟨may_s h1 h2 h3, rfl⟩]
theorem live11 : thrumlaw11_live.f = some true := by decide +kernel
theorem few0 (k : Nat) (v : List Int) : thrumlaw11_few.f (k + 1) v [] = some (decide (v.length ≤ 5000)) := by
  unfold thrumlaw11_few.f
  rw [thrumlaw11_few.l0, if_neg (by simp)]
  by_cases c : v.length ≤ 5000
  · rw [if_pos (by omega), decide_eq_true c]; simp
  · rw [if_neg (by omega), decide_eq_false c]
theorem neg_at (v : List Int) (i : Nat) (h : i < v.length) : rdOf false (v.map fun x => decide (x < 0)) (i : Int) = decide (v[i] < 0) := by
  rw [rdb_nat (by simpa using h)]; simp
theorem loosen_at (v : List Int) (S : Int) (hS : 0 ≤ S ∧ S ≤ 9223372036854775807) (i : Nat) (h : i < v.length) : rd (loosenV S (v.map fun x => decide (x < 0))) (i : Int) = if v[i] < 0 then -S else S := by
  rw [rd_nat (by simpa [loosenV] using h)]
  simp only [loosenV, List.getElem_map]
  by_cases c : v[i] < 0
  · rw [decide_eq_true c, if_pos rfl, if_pos c, wrap64_of (by unfold I64; omega)]
  · rw [decide_eq_false c, if_neg (by decide), if_neg c]
theorem loosen_mem {S : Int} (hS : 0 ≤ S ∧ S ≤ 9223372036854775807) {neg : List Bool} {x : Int} (hx : x ∈ loosenV S neg) : x = S ∨ x = -S := by
  obtain ⟨b, _, rfl⟩ := List.mem_map.1 hx
  cases b
  · exact .inl rfl
  · exact .inr (wrap64_of (by unfold I64; omega))
theorem loosen_sum {S : Int} (hS : 0 ≤ S ∧ S ≤ 9223372036854775807) : ∀ neg : List Bool, asum (loosenV S neg) = neg.length * S
  | [] => by simp [loosenV, asum]
  | b :: neg => by
    have ih := loosen_sum hS neg
    have e : ((neg.length + 1 : Nat) : Int) * S = neg.length * S + S := by rw [Int.natCast_add, Int.add_mul]; simp
    rw [List.length_cons, e, ← ih]
    have hx : ((if b then wrap64 (-S) else S).natAbs : Int) = S := by
      cases b
      · show (S.natAbs : Int) = S; omega
      · show ((wrap64 (-S)).natAbs : Int) = S
        rw [wrap64_of (by unfold I64; omega)]; omega
    show ((if b then wrap64 (-S) else S).natAbs : Int) + asum (loosenV S neg) = _
    rw [hx]; omega
theorem loosen_size {S : Int} (hS : 0 ≤ S ∧ S ≤ 9223372036854775807) (neg : List Bool) (hl : neg.length ≤ 4096) (hb : S * neg.length ≤ 9223372036854775807) : sizeV (loosenV S neg) = (neg.length * S, 0) := by
  have e : (loosenV S neg).length = neg.length := by simp [loosenV]
  rw [size_ok S hS.1 _ (fun x hx => by rcases loosen_mem hS hx with h | h <;> (rw [h]; omega)) (by omega) (by rw [e]; exact hb), loosen_sum hS]
theorem loosen_v64 {S : Int} (hS : 0 ≤ S ∧ S ≤ 9223372036854775807) (neg : List Bool) : V64 (loosenV S neg) := by
  intro x hx
  rcases loosen_mem hS hx with h | h <;> (rw [h]; unfold I64; omega)
/-- The mean, times how many there are. -/
theorem mean_mul {a : Int} {n : Nat} (hn : n ≠ 0) : a / (n : Int) * n ≤ a ∧ a - a / (n : Int) * n < n := by
  have h1 := Int.emod_add_mul_ediv a (n : Int)
  have h2 := Int.emod_nonneg a (show (n : Int) ≠ 0 by omega)
  have h3 := Int.emod_lt_of_pos a (show (0 : Int) < n by omega)
  rw [Int.mul_comm] at h1
  omega
theorem asum_neg : ∀ v : List Int, asum (v.map (fun x => -x)) = asum v
  | [] => rfl
  | x :: v => by have ih := asum_neg v; simp only [List.map_cons, asum, ih, Int.natAbs_neg]
theorem turned_l1 (v : List Int) (hv : V64 v) (hl : v.length ≤ 5000) (S : Int) (hS : 0 ≤ S ∧ S ≤ 9223372036854775807) (a b : Int) (l2 l3 : List Int) (a5 : Int) (l6 : List Int) (t0 t1 : Int) (t2 t3 : List Int) (t4 t5 : Int) (t6 : List Int) (u0 u1 : Int) (u2 u3 : List Int) (u4 u5 : Int) (u6 : List Int) : ∀ (d i : Nat), d + i = v.length →
    thrumlaw11_SignTurned.l1 (d + 1) true v (v.length : Int) (i : Int) a b l2 l3 S a5 l6 (v.map fun x => decide (x < 0)) t0 t1 t2 t3 t4 t5 t6 ((v.map (fun x => -x)).map fun x => decide (x < 0)) u0 u1 u2 u3 u4 u5 u6 ((loosenV S (v.map fun x => decide (x < 0))).map fun x => decide (x < 0)) = some true := by
  intro d
  induction d with
  | zero => intro i hd; rw [thrumlaw11_SignTurned.l1, if_neg (by omega)]
  | succ d ih =>
    intro i hd
    have hi : i < v.length := by omega
    have hn := neg_at v i hi
    have hn2 : rdOf false ((v.map (fun x => -x)).map fun x => decide (x < 0)) (i : Int) = decide (-v[i] < 0) := by
      rw [neg_at _ i (by simpa using hi)]; simp
    have hxl : i < (loosenV S (v.map fun x => decide (x < 0))).length := by simpa [loosenV] using hi
    have hu : rdOf false ((loosenV S (v.map fun x => decide (x < 0))).map fun x => decide (x < 0)) (i : Int) = decide ((if v[i] < 0 then -S else S) < 0) := by
      rw [neg_at _ i hxl]
      have := loosen_at v S hS i hi
      rw [rd_nat hxl] at this
      rw [this]
    have il := ih (i + 1) (by omega)
    rw [thrumlaw11_SignTurned.l1, if_pos (by omega), if_pos (by omega), if_pos (by omega), show rd v (i : Int) = v[i] from rd_nat hi, hn, hn2, hu, wrap64_of (x := (i : Int) + 1) (by unfold I64; omega), show (i : Int) + 1 = ((i + 1 : Nat) : Int) by omega, il]
    have hsame : S > 0 → decide ((if v[i] < 0 then -S else S) < 0) = decide (v[i] < 0) := by
      intro hp
      by_cases c : v[i] < 0
      · rw [if_pos c]; exact decide_eq_decide.2 ⟨fun _ => c, fun _ => by omega⟩
      · rw [if_neg c]; exact decide_eq_decide.2 ⟨fun _ => by omega, fun h => absurd h c⟩
    by_cases c0 : v[i] = 0
    · rw [if_pos c0]
      by_cases c1 : S > 0
      · rw [if_pos c1, if_pos (by simp; omega), if_pos (by simp; omega), hsame c1, if_neg (by simp)]
      · rw [if_neg c1]
    · rw [if_neg c0, if_pos (by simp; omega), if_pos (by simp; omega)]
      have hne : (decide (-v[i] < 0) == decide (v[i] < 0)) = false := by
        by_cases c : v[i] < 0
        · rw [decide_eq_true c, decide_eq_false (by omega)]; rfl
        · rw [decide_eq_false c, decide_eq_true (by omega)]; rfl
      rw [hne, if_neg (by decide)]
      by_cases c1 : S > 0
      · rw [if_pos c1, if_pos (by simp; omega), hsame c1, if_neg (by simp)]
      · rw [if_neg c1]
theorem turned_l0 (v : List Int) (hv : V64 v) (hn0 : v.length ≠ 0) (hs : (sizeV v).2 = 0) : ∀ (d i : Nat) (acc : List Int), d + i = v.length → acc = (v.take i).map (fun x => -x) →
    thrumlaw11_SignTurned.l0 (d + 1 + (v.length + 2)) v true acc v (v.length : Int) (i : Int) 3 (v.length : Int) [] [] (asum v / v.length) 0 [] (v.map fun x => decide (x < 0)) = some true := by
  obtain ⟨hl, habs, hsz, hub⟩ := size_is hs
  have hnm : ∀ x ∈ v, -9223372036854775807 ≤ x ∧ x ≤ 9223372036854775807 := by
    intro x hx
    have h := res_snd.1 (habs x hx)
    have h2 := hv x hx
    unfold I64 at h h2; omega
  have h0 := asum_nonneg v
  have m1 := mean_mul (a := asum v) hn0
  have q0 : 0 ≤ asum v / (v.length : Int) := Int.ediv_nonneg h0 (by omega)
  have q1 : asum v / (v.length : Int) ≤ asum v := Int.ediv_le_self _ h0
  intro d
  induction d with
  | zero =>
    intro i acc hd hacc
    have hi : i = v.length := by omega
    subst hi
    rw [List.take_length] at hacc
    subst hacc
    have hw : V64 (v.map (fun x => -x)) := by
      intro x hx
      obtain ⟨y, hy, rfl⟩ := List.mem_map.1 hx
      have := hnm y hy
      unfold I64; omega
    have hs2 : (sizeV (v.map (fun x => -x))).2 = 0 := by
      have e : sizeV (v.map (fun x => -x)) = sizeV v := by
        unfold sizeV checkE
        rw [List.length_map, List.map_map]
        have : v.map (absF ∘ fun x => -x) = v.map absF := by
          apply List.map_congr_left; intro x _; show absF (-x) = absF x; unfold absF; rw [Int.natAbs_neg]
        rw [this]
      rw [e]; exact hs
    have hLz := loosen_of (n := v.length) (S := asum v / (v.length : Int)) (neg := v.map fun x => decide (x < 0)) (by omega) q0 (by simp)
    have hSb : 0 ≤ asum v / (v.length : Int) ∧ asum v / (v.length : Int) ≤ 9223372036854775807 := by omega
    have hls := loosen_size hSb (v.map fun x => decide (x < 0)) (by simpa using hl) (by rw [List.length_map]; omega)
    have hll : (loosenV (asum v / (v.length : Int)) (v.map fun x => decide (x < 0))).length = v.length := by simp [loosenV]
    have hsum := loosen_sum hSb (v.map fun x => decide (x < 0))
    rw [List.length_map] at hsum
    rw [show 0 + 1 + (v.length + 2) = (v.length + 2) + 1 by omega, thrumlaw11_SignTurned.l0, if_neg (by omega), press_of hw (by simpa using hn0) hs2, hLz]
    simp only [Option.bind_some]
    rw [press_of (loosen_v64 hSb _) (by rw [hll]; exact hn0) (by rw [hls])]
    simp only [Option.bind_some, if_true, List.length_map, asum_neg]
    rw [hll, hsum, Int.mul_comm (v.length : Int), Int.mul_ediv_cancel _ (by omega)]
    simp only [if_true, bne_self_eq_false]
    rw [thrumlaw11_SignTurned.j1, if_neg (by decide)]
    exact turned_l1 v hv (by omega) _ hSb _ _ _ _ _ _ _ _ _ _ _ _ _ _ _ _ _ _ _ _ v.length 0 (by omega)
  | succ d ih =>
    intro i acc hd hacc
    have hi : i < v.length := by omega
    have hx := hnm _ (List.getElem_mem hi)
    have hla : acc.length ≤ i := by rw [hacc]; simp; omega
    rw [show d + 1 + 1 + (v.length + 2) = (d + 1 + (v.length + 2)) + 1 by omega, thrumlaw11_SignTurned.l0, if_pos (by omega), if_pos (by omega), if_pos (by omega), if_pos (by omega), show rd v (i : Int) = v[i] from rd_nat hi, wrap64_of (x := -v[i]) (by unfold I64; omega), wrap64_of (by unfold I64; omega), show (i : Int) + 1 = ((i + 1 : Nat) : Int) by omega]
    refine ih (i + 1) _ (by omega) ?_
    rw [hacc, List.take_add_one, List.getElem?_eq_getElem hi, List.map_append]; rfl
theorem SignTurned : thrumlaw11_SignTurned.Pure := by
  intro l0 hm hs wl
  have hv := v64_of_wf wl
  refine ⟨l0.length + 1 + (l0.length + 2), ?_⟩
  unfold thrumlaw11_SignTurned.f
  rw [live11]
  simp only [Option.bind_some, if_true]
  rw [show l0.length + 1 + (l0.length + 2) = (l0.length + 1 + (l0.length + 1)) + 1 by omega, few0]
  simp only [Option.bind_some]
  by_cases c : l0.length ≤ 5000
  · rw [if_pos (decide_eq_true c)]
    by_cases hp : l0.length ≠ 0 ∧ (sizeV l0).2 = 0
    · obtain ⟨hn0, hsz⟩ := hp
      rw [press_of hv hn0 hsz]
      simp only [Option.bind_some, if_true]
      exact turned_l0 l0 hv hn0 hsz l0.length 0 [] (by omega) (by simp)
    · obtain ⟨e, he, hb⟩ := press_bad hv hp
      rw [hb]
      simp only [Option.bind_some]
      rw [if_neg he]
  · rw [if_neg (by simpa using c)]
end Go.Proofs.Ytnhdeljkoackfaa.Pure
