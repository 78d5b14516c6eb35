/- Laws of the plain vectors: no program in sight. -/
import Derived.Test.YtbnfejaeekljcaaVec
namespace Go.Proofs.Ytbnfejaeekljcaa.Sp
open Go.RowKit Go.Proofs.YtbnfejaeekljcaaW.PrintWords

theorem res_snd {x : Int} : (res x).2 = 0 ↔ I64 x := by
  unfold res; split
  · rename_i h; simp [h]
  · rename_i h; simp [h]
theorem res_snd2 (x : Int) : (res x).2 = 0 ∨ (res x).2 = 2 := by unfold res; split <;> simp
theorem res_fst {x : Int} (h : (res x).2 = 0) : (res x).1 = x := by rw [res_of (res_snd.1 h)]
theorem seqV_err : ∀ ps : List (Int × Int), (seqV ps).2 ≠ 0 → (seqV ps).1 = []
  | [], h => by simp [seqV] at h
  | p :: ps, h => by
    simp only [seqV] at h ⊢
    split <;> (try split) <;> simp_all
theorem seqV_cons {p : Int × Int} {ps : List (Int × Int)} (h : (seqV (p :: ps)).2 = 0) : p.2 = 0 ∧ (seqV ps).2 = 0 ∧ (seqV (p :: ps)).1 = p.1 :: (seqV ps).1 := by
  simp only [seqV] at h ⊢
  by_cases c : p.2 = 0
  · rw [if_pos c] at h ⊢
    by_cases c2 : (seqV ps).2 = 0
    · rw [if_pos c2]; exact ⟨c, c2, rfl⟩
    · rw [if_neg c2] at h; exact absurd h c2
  · rw [if_neg c] at h; exact absurd h c
theorem seqV_cons_of {p : Int × Int} {ps : List (Int × Int)} (h : p.2 = 0) (h2 : (seqV ps).2 = 0) : seqV (p :: ps) = (p.1 :: (seqV ps).1, 0) := by
  simp only [seqV]; rw [if_pos h, if_pos h2]
theorem seqV_all : ∀ ps : List (Int × Int), (∀ p ∈ ps, p.2 = 0) → seqV ps = (ps.map (·.1), 0)
  | [], _ => rfl
  | p :: ps, h => by
    have ih := seqV_all ps (fun q hq => h q (by simp [hq]))
    rw [seqV_cons_of (h p (by simp)) (by rw [ih]), ih]; rfl
/-- Two rows, pair by pair: what was done is undone. -/
theorem seqV_undo {f g : Int → Int → Int × Int} (P : Int → Prop) (hfg : ∀ x y, P x → (f x y).2 = 0 → g (f x y).1 y = (x, 0)) : ∀ a b : List Int, a.length = b.length → (∀ x ∈ a, P x) →
    (seqV (List.zipWith f a b)).2 = 0 → seqV (List.zipWith g (seqV (List.zipWith f a b)).1 b) = (a, 0)
  | [], [], _, _, _ => rfl
  | [], _ :: _, h, _, _ => by simp at h
  | _ :: _, [], h, _, _ => by simp at h
  | x :: a, y :: b, hl, hp, h => by
    rw [List.zipWith_cons_cons] at h ⊢
    obtain ⟨h1, h2, h3⟩ := seqV_cons h
    rw [h3, List.zipWith_cons_cons, hfg x y (hp x (by simp)) h1]
    have ih := seqV_undo P hfg a b (by simpa using hl) (fun z hz => hp z (by simp [hz])) h2
    rw [seqV_cons_of rfl (by rw [ih]), ih]
theorem seqV_len {f : Int → Int → Int × Int} : ∀ a b : List Int, a.length = b.length → (seqV (List.zipWith f a b)).2 = 0 → (seqV (List.zipWith f a b)).1.length = a.length
  | [], _, _, _ => by simp [seqV]
  | _ :: _, [], h, _ => by simp at h
  | x :: a, y :: b, hl, h => by
    rw [List.zipWith_cons_cons] at h ⊢
    obtain ⟨h1, h2, h3⟩ := seqV_cons h
    rw [h3, List.length_cons, List.length_cons, seqV_len a b (by simpa using hl) h2]
theorem addV_eq {a b : List Int} (h : (addV a b).2 = 0) : pairE a b = 0 ∧ addV a b = seqV (List.zipWith (fun x y => res (x + y)) a b) := by
  unfold addV at h ⊢
  by_cases c : pairE a b = 0
  · rw [if_pos c]; exact ⟨c, rfl⟩
  · rw [if_neg c] at h; exact absurd h c
theorem subV_eq {a b : List Int} (h : (subV a b).2 = 0) : pairE a b = 0 ∧ subV a b = seqV (List.zipWith (fun x y => res (x - y)) a b) := by
  unfold subV at h ⊢
  by_cases c : pairE a b = 0
  · rw [if_pos c]; exact ⟨c, rfl⟩
  · rw [if_neg c] at h; exact absurd h c
theorem pairE_of {a b : List Int} (h : a.length = b.length) (h2 : a.length ≤ 4096) : pairE a b = 0 := by unfold pairE; rw [if_neg (by omega), if_neg (by omega)]
theorem pairE_comm (a b : List Int) : pairE a b = pairE b a := by unfold pairE; congr 1 <;> (first | (rw [Or.comm]; done) | skip); all_goals (try (simp only [eq_iff_iff]; constructor <;> intro h <;> omega)); all_goals (congr 1; simp only [eq_iff_iff]; constructor <;> intro h <;> omega)
theorem pairE_ne {a b : List Int} (h : pairE a b ≠ 0) : pairE a b = 3 ∨ pairE a b = 4 := by
  unfold pairE at h ⊢; split
  · simp
  · rename_i c; rw [if_neg c] at h; split
    · simp
    · rename_i c2; rw [if_neg c2] at h; exact absurd rfl h
theorem addV_len {a b : List Int} (h : (addV a b).2 = 0) : (addV a b).1.length = a.length := by
  obtain ⟨hp, he⟩ := addV_eq h
  rw [he] at h ⊢; exact seqV_len a b (pairE_len hp) h
theorem subV_len {a b : List Int} (h : (subV a b).2 = 0) : (subV a b).1.length = a.length := by
  obtain ⟨hp, he⟩ := subV_eq h
  rw [he] at h ⊢; exact seqV_len a b (pairE_len hp) h
theorem addV_err {a b : List Int} (h : (addV a b).2 ≠ 0) : (addV a b).1 = [] := by
  unfold addV at h ⊢; split
  · rename_i c; rw [if_pos c] at h; exact seqV_err _ h
  · rfl
theorem subV_err {a b : List Int} (h : (subV a b).2 ≠ 0) : (subV a b).1 = [] := by
  unfold subV at h ⊢; split
  · rename_i c; rw [if_pos c] at h; exact seqV_err _ h
  · rfl
theorem add_sub {a b : List Int} (ha : V64 a) (h : (addV a b).2 = 0) : subV (addV a b).1 b = (a, 0) := by
  have hl := addV_len h
  obtain ⟨hp, he⟩ := addV_eq h
  unfold subV
  rw [if_pos (pairE_of (by rw [hl]; exact pairE_len hp) (by rw [hl]; exact pairE_le hp))]
  rw [he] at h ⊢
  refine seqV_undo I64 ?_ a b (pairE_len hp) ha h
  intro x y hx hxy
  have hxy : (res (x + y)).2 = 0 := hxy
  show res ((res (x + y)).1 - y) = (x, 0)
  rw [res_fst hxy, show x + y - y = x by omega, res_of hx]
theorem sub_add {a b : List Int} (ha : V64 a) (h : (subV a b).2 = 0) : addV (subV a b).1 b = (a, 0) := by
  have hl := subV_len h
  obtain ⟨hp, he⟩ := subV_eq h
  unfold addV
  rw [if_pos (pairE_of (by rw [hl]; exact pairE_len hp) (by rw [hl]; exact pairE_le hp))]
  rw [he] at h ⊢
  refine seqV_undo I64 ?_ a b (pairE_len hp) ha h
  intro x y hx hxy
  have hxy : (res (x - y)).2 = 0 := hxy
  show res ((res (x - y)).1 + y) = (x, 0)
  rw [res_fst hxy, show x - y + y = x by omega, res_of hx]
theorem zip_comm {f : Int → Int → Int × Int} (hf : ∀ x y, f x y = f y x) : ∀ a b : List Int, List.zipWith f a b = List.zipWith f b a
  | [], b => by simp
  | _ :: _, [] => by simp
  | x :: a, y :: b => by rw [List.zipWith_cons_cons, List.zipWith_cons_cons, hf, zip_comm hf a b]
theorem addV_comm (a b : List Int) : addV a b = addV b a := by
  unfold addV; rw [pairE_comm a b, zip_comm (fun x y => by rw [Int.add_comm]) a b]
theorem dotV_comm (a b : List Int) (f : Int) : dotV a b f = dotV b a f := by
  unfold dotV; rw [pairE_comm a b, zip_comm (fun x y => by unfold mulF; rw [Int.mul_comm]) a b]
theorem sumV_nonneg : ∀ (ps : List (Int × Int)) (s : Int), 0 ≤ s → (∀ p ∈ ps, 0 ≤ p.1) → 0 ≤ (sumV ps s).1
  | [], s, hs, _ => hs
  | p :: ps, s, hs, h => by
    simp only [sumV]
    split
    · split
      · rename_i c
        rw [res_fst c]
        exact sumV_nonneg ps _ (by have := h p (by simp); omega) (fun q hq => h q (by simp [hq]))
      · simp
    · simp
theorem res_nonneg {x : Int} (h : 0 ≤ x) : 0 ≤ (res x).1 := by unfold res; split <;> simp [h]
theorem mulF_self (x f : Int) : 0 ≤ (mulF x x f).1 := by
  unfold mulF; split
  · refine res_nonneg (Int.ediv_nonneg ?_ (Int.pow_nonneg (by omega)))
    rw [← Int.natAbs_mul_self]; exact Int.natCast_nonneg _
  · simp
theorem dotV_self (a : List Int) (f : Int) : 0 ≤ (dotV a a f).1 := by
  unfold dotV; split
  · split
    · refine sumV_nonneg _ 0 (by omega) ?_
      intro p hp
      rw [List.zipWith_self] at hp
      obtain ⟨x, _, rfl⟩ := List.mem_map.1 hp
      exact mulF_self x f
    · simp
  · simp
theorem mulF_one {x : Int} (h : I64 x) : mulF x 1 0 = (x, 0) := by
  unfold mulF; rw [if_pos (by omega)]; simp only [Int.mul_one, Int.toNat_zero, Int.pow_zero, Int.ediv_one]; exact res_of h
/-- What adds up to what. -/
def isum : List Int → Int
  | [] => 0
  | x :: l => x + isum l
theorem sumV_ok (B : Int) (hB : 0 ≤ B) : ∀ (l : List Int) (s : Int), (∀ x ∈ l, -B ≤ x ∧ x ≤ B) → (-9223372036854775808 ≤ s - B * l.length ∧ s + B * l.length ≤ 9223372036854775807) → sumV (l.map fun x => (x, 0)) s = (s + isum l, 0)
  | [], s, _, _ => by simp [sumV, isum]
  | x :: l, s, hx, hs => by
    have h1 := hx x (by simp)
    have e : B * ((x :: l).length : Int) = B * (l.length : Int) + B := by rw [List.length_cons]; push_cast; rw [Int.mul_add, Int.mul_one]
    rw [e] at hs
    have hn : 0 ≤ B * (l.length : Int) := Int.mul_nonneg hB (by omega)
    have hI : I64 (s + x) := by unfold I64; omega
    simp only [List.map_cons, sumV, res_of hI, if_true]
    rw [sumV_ok B hB l (s + x) (fun y hy => hx y (by simp [hy])) (by omega), isum, show s + x + isum l = s + (x + isum l) by omega]

theorem seqV_zip {f : Int → Int → Int} : ∀ a b : List Int, (seqV (List.zipWith (fun x y => res (f x y)) a b)).2 = 0 → (seqV (List.zipWith (fun x y => res (f x y)) a b)).1 = List.zipWith f a b
  | [], _, _ => by simp [seqV]
  | _ :: _, [], _ => by simp [seqV]
  | x :: a, y :: b, h => by
    rw [List.zipWith_cons_cons] at h ⊢
    obtain ⟨h1, h2, h3⟩ := seqV_cons h
    rw [h3, List.zipWith_cons_cons, res_fst h1, seqV_zip a b h2]
theorem addV_fst {a b : List Int} (h : (addV a b).2 = 0) : (addV a b).1 = List.zipWith (· + ·) a b := by
  obtain ⟨hp, he⟩ := addV_eq h
  rw [he] at h ⊢; exact seqV_zip (f := (· + ·)) a b h
theorem seqV_same {g : Int → Int × Int} (h : Int → Int) (a : List Int) (hg : ∀ x ∈ a, g x = (h x, 0)) : seqV (a.map g) = (a.map h, 0) := by
  rw [List.map_congr_left hg]; exact seqV_ok h a
theorem checkE_of {a : List Int} (h : a.length ≤ 4096) : checkE a = 0 := if_neg (by omega)
theorem fracE_of {f : Int} (h0 : 0 ≤ f) (h1 : f ≤ 30) : fracE f = 0 := if_pos ⟨h0, h1⟩
theorem scaleV_pow {a : List Int} {f : Int} (ha : V64 a) (hl : a.length ≤ 4096) (h0 : 0 ≤ f) (h1 : f ≤ 30) : scaleV a (2 ^ f.toNat) f = (a, 0) := by
  unfold scaleV
  rw [if_pos (checkE_of hl), if_pos (fracE_of h0 h1), seqV_same id a, List.map_id]
  intro x hx
  unfold mulF
  rw [if_pos ⟨h0, h1⟩, Int.mul_ediv_cancel _ (Int.ne_of_gt (Int.pow_pos (by omega))), res_of (ha x hx)]; rfl
theorem scaleV_zero {b : List Int} {f : Int} (hl : b.length ≤ 4096) (h0 : 0 ≤ f) (h1 : f ≤ 30) : scaleV b 0 f = (b.map (fun _ => 0), 0) := by
  unfold scaleV
  rw [if_pos (checkE_of hl), if_pos (fracE_of h0 h1), seqV_same (fun _ => 0) b]
  intro x hx
  unfold mulF
  rw [if_pos ⟨h0, h1⟩, Int.mul_zero, Int.zero_ediv, res_of i64_zero]
theorem add_zeros : ∀ a b : List Int, V64 a → a.length = b.length → seqV (List.zipWith (fun x y => res (x + y)) a (b.map (fun _ => (0 : Int)))) = (a, 0)
  | [], [], _, _ => rfl
  | [], _ :: _, _, h => by simp at h
  | _ :: _, [], _, h => by simp at h
  | x :: a, y :: b, hv, hl => by
    have ih := add_zeros a b (fun z hz => hv z (by simp [hz])) (by simpa using hl)
    rw [List.map_cons, List.zipWith_cons_cons, Int.add_zero, res_of (hv x (by simp)), seqV_cons_of rfl (by rw [ih]), ih]
theorem moreV_zero {a b : List Int} {f : Int} (ha : V64 a) (hl : a.length ≤ 4096) (he : a.length = b.length) (h0 : 0 ≤ f) (h1 : f ≤ 30) : moreV a 0 b f = (a, 0) := by
  unfold moreV
  rw [scaleV_zero (by omega) h0 h1]
  simp only [if_true]
  unfold addV
  rw [if_pos (pairE_of (by simp [he]) hl)]
  exact add_zeros a b ha he
theorem scaleV_two {b : List Int} (h : (scaleV b 2 0).2 = 0) : (scaleV b 2 0).1 = b.map (· * 2) := by
  unfold scaleV at h ⊢
  by_cases c : checkE b = 0
  · rw [if_pos c] at h ⊢
    rw [if_pos (by decide)] at h ⊢
    have : ∀ b : List Int, (seqV (b.map fun x => mulF x 2 0)).2 = 0 → (seqV (b.map fun x => mulF x 2 0)).1 = b.map (· * 2) := by
      intro b
      induction b with
      | nil => intro _; rfl
      | cons x b ih =>
        intro h
        rw [List.map_cons] at h ⊢
        obtain ⟨h1, h2, h3⟩ := seqV_cons h
        rw [h3, List.map_cons, ih h2]
        congr 1
        have e : mulF x 2 0 = res (x * 2) := by unfold mulF; rw [if_pos (by omega)]; simp
        rw [e] at h1 ⊢; exact res_fst h1
    exact this b h
  · rw [if_neg c] at h; exact absurd h c
theorem twice : ∀ a b : List Int, a.length = b.length → List.zipWith (· + ·) (List.zipWith (· + ·) a b) b = List.zipWith (· + ·) a (b.map (· * 2))
  | [], [], _ => rfl
  | [], _ :: _, h => by simp at h
  | _ :: _, [], h => by simp at h
  | x :: a, y :: b, hl => by
    simp only [List.map_cons, List.zipWith_cons_cons]
    rw [twice a b (by simpa using hl), show x + y + y = x + y * 2 by omega]
theorem addV_twice {a b : List Int} (h : (addV a b).2 = 0) (h2 : (addV (addV a b).1 b).2 = 0) (h3 : (moreV a 2 b 0).2 = 0) : (addV (addV a b).1 b).1 = (moreV a 2 b 0).1 := by
  have hl := pairE_len (addV_eq h).1
  unfold moreV at h3 ⊢
  by_cases c : (scaleV b 2 0).2 = 0
  · rw [if_pos c] at h3 ⊢
    rw [addV_fst h2, addV_fst h3, addV_fst h, scaleV_two c, twice a b hl]
  · rw [if_neg c] at h3; exact absurd h3 c

/-! ### sizes -/
theorem absF_two (x : Int) : (absF x).2 = 0 ∨ (absF x).2 = 2 := res_snd2 _
theorem absF_fst {x : Int} (h : (absF x).2 = 0) : (absF x).1 = (x.natAbs : Int) := res_fst h
theorem mostGo_ok : ∀ (l : List Int) (m : Int), (mostGo (l.map absF) m).2 = 0 → (∀ x ∈ l, (absF x).2 = 0) ∧ m ≤ (mostGo (l.map absF) m).1 ∧ (∀ x ∈ l, (x.natAbs : Int) ≤ (mostGo (l.map absF) m).1) ∧ ((mostGo (l.map absF) m).1 = m ∨ ∃ x ∈ l, (x.natAbs : Int) = (mostGo (l.map absF) m).1)
  | [], m, _ => ⟨by simp, Int.le_refl _, by simp, .inl rfl⟩
  | x :: l, m, h => by
    simp only [List.map_cons, mostGo] at h ⊢
    by_cases c : (absF x).2 = 0
    · rw [if_pos c] at h ⊢
      rw [absF_fst c] at h ⊢
      obtain ⟨h0, h1, h2, h3⟩ := mostGo_ok l _ h
      have hk : m ≤ (if m < (x.natAbs : Int) then (x.natAbs : Int) else m) ∧ (x.natAbs : Int) ≤ (if m < (x.natAbs : Int) then (x.natAbs : Int) else m) := by split <;> omega
      refine ⟨?_, ?_, ?_, ?_⟩
      · intro y hy
        rcases List.mem_cons.1 hy with e | e
        · rw [e]; exact c
        · exact h0 y e
      · exact Int.le_trans hk.1 h1
      · intro y hy
        rcases List.mem_cons.1 hy with e | e
        · rw [e]; exact Int.le_trans hk.2 h1
        · exact h2 y e
      · rcases h3 with h3 | ⟨y, hy, h3⟩
        · rw [h3]
          by_cases d : m < (x.natAbs : Int)
          · rw [if_pos d]; exact .inr ⟨x, by simp, rfl⟩
          · rw [if_neg d]; exact .inl rfl
        · exact .inr ⟨y, by simp [hy], h3⟩
    · rw [if_neg c] at h; exact absurd h c
theorem mostGo_err : ∀ (l : List Int) (m : Int), (mostGo (l.map absF) m).2 ≠ 0 → (mostGo (l.map absF) m).2 = 2 ∧ ∃ x ∈ l, (absF x).2 ≠ 0
  | [], m, h => by simp [mostGo] at h
  | x :: l, m, h => by
    simp only [List.map_cons, mostGo] at h ⊢
    by_cases c : (absF x).2 = 0
    · rw [if_pos c] at h ⊢
      obtain ⟨h1, y, hy, h2⟩ := mostGo_err l _ h
      exact ⟨h1, y, by simp [hy], h2⟩
    · rw [if_neg c] at h ⊢
      exact ⟨(absF_two x).resolve_left c, x, by simp, c⟩
theorem sumV_two : ∀ (l : List Int) (s : Int), (sumV (l.map absF) s).2 = 0 ∨ (sumV (l.map absF) s).2 = 2
  | [], s => .inl rfl
  | x :: l, s => by
    simp only [List.map_cons, sumV]
    split
    · split
      · exact sumV_two l _
      · exact res_snd2 _
    · exact absF_two x
/-- The sum of the sizes. -/
def asum : List Int → Int
  | [] => 0
  | x :: l => (x.natAbs : Int) + asum l
theorem asum_nonneg : ∀ l : List Int, 0 ≤ asum l
  | [] => Int.le_refl _
  | x :: l => by have := asum_nonneg l; rw [asum]; omega
theorem asum_mem : ∀ (l : List Int) (x : Int), x ∈ l → (x.natAbs : Int) ≤ asum l
  | y :: l, x, h => by
    have h0 := asum_nonneg l
    rw [asum]
    rcases List.mem_cons.1 h with e | e
    · rw [e]; omega
    · have := asum_mem l x e; omega
theorem asum_le : ∀ (l : List Int) (m : Int), (∀ x ∈ l, (x.natAbs : Int) ≤ m) → asum l ≤ (l.length : Int) * m
  | [], m, _ => by simp [asum]
  | x :: l, m, h => by
    have h1 := asum_le l m (fun y hy => h y (by simp [hy]))
    have h2 := h x (by simp)
    have e : ((x :: l).length : Int) * m = (l.length : Int) * m + m := by rw [List.length_cons]; push_cast; rw [Int.add_mul, Int.one_mul]
    rw [e]; rw [asum]; omega
theorem sumV_abs : ∀ (l : List Int) (s : Int), (sumV (l.map absF) s).2 = 0 → (∀ x ∈ l, (absF x).2 = 0) ∧ (sumV (l.map absF) s).1 = s + asum l
  | [], s, _ => ⟨by simp, by simp [sumV, asum]⟩
  | x :: l, s, h => by
    simp only [List.map_cons, sumV] at h ⊢
    by_cases c : (absF x).2 = 0
    · rw [if_pos c] at h ⊢
      by_cases c2 : (res (s + (absF x).1)).2 = 0
      · rw [if_pos c2] at h ⊢
        obtain ⟨h1, h2⟩ := sumV_abs l _ h
        refine ⟨?_, ?_⟩
        · intro y hy
          rcases List.mem_cons.1 hy with e | e
          · rw [e]; exact c
          · exact h1 y e
        · rw [h2, res_fst c2, absF_fst c]; rw [asum]; omega
      · rw [if_neg c2] at h; exact absurd h c2
    · rw [if_neg c] at h; exact absurd h c
theorem most_err {v : List Int} (h : (mostV v).2 ≠ 0) : (sizeV v).2 = (mostV v).2 := by
  unfold mostV sizeV at *
  by_cases c : checkE v = 0
  · rw [if_pos c] at h ⊢
    rw [if_pos c]
    obtain ⟨h1, x, hx, h2⟩ := mostGo_err v 0 h
    rw [h1]
    rcases sumV_two v 0 with e | e
    · exact absurd ((sumV_abs v 0 e).1 x hx) h2
    · exact e
  · rw [if_neg c] at h ⊢
    rw [if_neg c]
theorem clipV_self {v : List Int} {m : Int} (hl : v.length ≤ 4096) (h0 : 0 ≤ m) (h : ∀ x ∈ v, (x.natAbs : Int) ≤ m) : clipV v m = (v, 0) := by
  unfold clipV
  rw [if_pos (checkE_of hl), if_pos (show clipE m = 0 from if_neg (by omega)), seqV_same id v, List.map_id]
  intro x hx
  have := h x hx
  unfold clipF
  rw [if_neg (by omega), if_neg (by omega), if_neg (by omega)]; rfl

end Go.Proofs.Ytbnfejaeekljcaa.Sp
