/- Laws of lines, as plain lists. No program in sight. -/
import Derived.Test.YtalamamjodihaaaLinear
import Derived.Test.YtalamamjodihaaaPVec
import Derived.Test.YtalamamjodihaaaPEv
namespace Go.Proofs.Ytalamamjodihaaa.Sp
open Go.RowKit Go.Proofs.YtalamamjodihaaaW.PrintWords
set_option linter.unusedVariables false

/-- Column by column. -/
def zadd (a b : List Int) : List Int := List.zipWith (· + ·) a b
def colSum (m : Nat) : List (List Int) → List Int
  | [] => List.replicate m 0
  | v :: l => zadd v (colSum m l)
theorem zadd_assoc : ∀ a b c : List Int, zadd (zadd a b) c = zadd a (zadd b c)
  | [], b, c => by simp [zadd]
  | _ :: _, [], c => by simp [zadd]
  | _ :: _, _ :: _, [] => by simp [zadd]
  | x :: a, y :: b, z :: c => by
    have ih := zadd_assoc a b c
    simp only [zadd, List.zipWith_cons_cons] at ih ⊢
    rw [ih, Int.add_assoc]
theorem zadd_comm : ∀ a b : List Int, zadd a b = zadd b a
  | [], b => by simp [zadd]
  | _ :: _, [] => by simp [zadd]
  | x :: a, y :: b => by
    have ih := zadd_comm a b
    simp only [zadd, List.zipWith_cons_cons] at ih ⊢
    rw [ih, Int.add_comm]
theorem zadd_zero : ∀ a : List Int, zadd a (List.replicate a.length 0) = a
  | [] => rfl
  | x :: a => by
    have ih := zadd_zero a
    simp only [zadd, List.length_cons, List.replicate_succ, List.zipWith_cons_cons] at ih ⊢
    rw [ih, Int.add_zero]
theorem zadd_len {a b : List Int} {m : Nat} (ha : a.length = m) (hb : b.length = m) : (zadd a b).length = m := by simp [zadd, ha, hb]
theorem colSum_len {m : Nat} : ∀ l : List (List Int), (∀ v ∈ l, v.length = m) → (colSum m l).length = m
  | [], _ => by simp [colSum]
  | v :: l, h => zadd_len (h v (by simp)) (colSum_len l (fun u hu => h u (by simp [hu])))
/-- All numbers of a size of B at the most. -/
def Bd (B : Int) (a : List Int) : Prop := ∀ x ∈ a, -B ≤ x ∧ x ≤ B
theorem zadd_bd {A B : Int} : ∀ {a b : List Int}, Bd A a → Bd B b → Bd (A + B) (zadd a b)
  | [], b, _, _ => by intro x hx; simp [zadd] at hx
  | _ :: _, [], _, _ => by intro x hx; simp [zadd] at hx
  | x :: a, y :: b, ha, hb => by
    intro z hz
    simp only [zadd, List.zipWith_cons_cons] at hz
    have h1 := ha x (by simp)
    have h2 := hb y (by simp)
    rcases List.mem_cons.1 hz with e | e
    · omega
    · exact zadd_bd (a := a) (b := b) (fun u hu => ha u (by simp [hu])) (fun u hu => hb u (by simp [hu])) z e
theorem colSum_bd {m : Nat} {B : Int} (hB : 0 ≤ B) : ∀ l : List (List Int), (∀ v ∈ l, Bd B v) → Bd (B * l.length) (colSum m l)
  | [], _ => by intro x hx; rw [(List.mem_replicate.1 hx).2]; simp
  | v :: l, h => by
    have h1 := zadd_bd (h v (by simp)) (colSum_bd (m := m) hB l (fun u hu => h u (by simp [hu])))
    rw [show B * ((v :: l).length : Int) = B + B * (l.length : Int) by rw [List.length_cons]; push_cast; rw [Int.mul_add, Int.mul_one]; omega]
    exact h1
theorem seq_zadd {A B : Int} (hAB : A + B ≤ 9223372036854775807) : ∀ {a b : List Int}, Bd A a → Bd B b → seqV (List.zipWith (fun x y => res (x + y)) a b) = (zadd a b, 0)
  | [], b, _, _ => by simp [zadd, seqV]
  | _ :: _, [], _, _ => by simp [zadd, seqV]
  | x :: a, y :: b, ha, hb => by
    have h1 := ha x (by simp)
    have h2 := hb y (by simp)
    have ih := seq_zadd (a := a) (b := b) hAB (fun u hu => ha u (by simp [hu])) (fun u hu => hb u (by simp [hu]))
    rw [List.zipWith_cons_cons, res_of (show I64 (x + y) by unfold I64; omega), seqV_cons_of rfl (by rw [ih]), ih]
    simp [zadd]
theorem addV_zadd {A B : Int} {m : Nat} (hm : m ≤ 4096) {a b : List Int} (la : a.length = m) (lb : b.length = m) (hAB : A + B ≤ 9223372036854775807) (ha : Bd A a) (hb : Bd B b) : addV a b = (zadd a b, 0) := by
  unfold addV
  rw [if_pos (pairE_of (by omega) (by omega))]
  exact seq_zadd hAB ha hb
theorem sumFrom_col {m : Nat} (hm : m ≤ 4096) {B : Int} (hB : 0 ≤ B) : ∀ (l : List (List Int)) (acc : List Int) (A : Int), (∀ v ∈ l, v.length = m ∧ Bd B v) → acc.length = m → Bd A acc → A + B * l.length ≤ 9223372036854775807 →
    sumFrom l acc = (zadd acc (colSum m l), 0)
  | [], acc, A, _, ha, _, _ => by
    simp only [sumFrom, colSum]
    rw [← ha, zadd_zero]
  | v :: l, acc, A, h, ha, hA, hb => by
    have e : B * ((v :: l).length : Int) = B * (l.length : Int) + B := by rw [List.length_cons]; push_cast; rw [Int.mul_add, Int.mul_one]
    rw [e] at hb
    have hn : 0 ≤ B * (l.length : Int) := Int.mul_nonneg hB (by omega)
    have hv := h v (by simp)
    simp only [sumFrom]
    rw [addV_zadd hm ha hv.1 (by omega) hA hv.2, if_pos rfl, sumFrom_col hm hB l _ (A + B) (fun u hu => h u (by simp [hu])) (zadd_len ha hv.1) (zadd_bd hA hv.2) (by omega), zadd_assoc]
    rfl
theorem sumsV_col {m : Nat} (hm : m ≤ 4096) {B : Int} (hB : 0 ≤ B) (l : List (List Int)) (hl : 0 < l.length) (h : ∀ v ∈ l, v.length = m ∧ Bd B v) (hb : B * l.length ≤ 9223372036854775807) : sumsV l = (colSum m l, 0) := by
  cases l with
  | nil => simp at hl
  | cons v l =>
    have e : B * ((v :: l).length : Int) = B * (l.length : Int) + B := by rw [List.length_cons]; push_cast; rw [Int.mul_add, Int.mul_one]
    rw [e] at hb
    have hv := h v (by simp)
    show (if checkE v = 0 then sumFrom l v else ([], checkE v)) = _
    rw [if_pos (checkE_of (by omega)), sumFrom_col hm hB l v B (fun u hu => h u (by simp [hu])) hv.1 hv.2 (by omega)]
    rfl
theorem colSum_append {m : Nat} : ∀ (a b : List (List Int)), (∀ v ∈ b, v.length = m) → colSum m (a ++ b) = zadd (colSum m a) (colSum m b)
  | [], b, h => by
    have e := zadd_zero (colSum m b)
    rw [colSum_len b h] at e
    show colSum m b = zadd (List.replicate m 0) (colSum m b)
    rw [zadd_comm]; exact e.symm
  | v :: a, b, h => by simp only [List.cons_append, colSum]; rw [colSum_append a b h, zadd_assoc]
theorem colSum_reverse {m : Nat} : ∀ l : List (List Int), (∀ v ∈ l, v.length = m) → colSum m l.reverse = colSum m l
  | [], _ => rfl
  | v :: l, h => by
    have hv := h v (by simp)
    rw [List.reverse_cons, colSum_append _ _ (by intro u hu; cases List.mem_singleton.1 hu; exact hv), colSum_reverse l (fun u hu => h u (by simp [hu]))]
    show zadd (colSum m l) (zadd v (List.replicate m 0)) = zadd v (colSum m l)
    rw [← hv, zadd_zero, hv, zadd_comm]

theorem isum_app : ∀ (a b : List Int), isum (a ++ b) = isum a + isum b
  | [], b => by simp [isum]
  | x :: a, b => by rw [List.cons_append, isum, isum, isum_app a b]; omega
theorem isum_rev : ∀ (a : List Int), isum a.reverse = isum a
  | [] => rfl
  | x :: a => by rw [List.reverse_cons, isum_app, isum_rev a, isum, isum, isum]; omega
theorem isum_nn : ∀ (a : List Int), (∀ x ∈ a, 0 ≤ x) → 0 ≤ isum a
  | [], _ => Int.le_refl _
  | x :: a, h => by
    have h1 := h x (by simp)
    have h2 := isum_nn a (fun y hy => h y (by simp [hy]))
    rw [isum]; omega
/-- A sum of what is not below 0 goes over, or not, whatever the order. -/
theorem sumV_nn : ∀ (l : List Int) (s : Int), 0 ≤ s → I64 s → (∀ x ∈ l, 0 ≤ x) → sumV (l.map res) s = res (s + isum l)
  | [], s, h0, hs, _ => by simp only [List.map_nil, sumV, isum, Int.add_zero]; rw [res_of hs]
  | x :: l, s, h0, hs, hx => by
    have h1 := hx x (by simp)
    have hl : ∀ y ∈ l, 0 ≤ y := fun y hy => hx y (by simp [hy])
    have h2 := isum_nn l hl
    simp only [List.map_cons, sumV, isum]
    by_cases c : I64 x
    · rw [res_of c]
      simp only [if_true]
      by_cases c2 : I64 (s + x)
      · rw [res_of c2]
        simp only [if_true]
        rw [sumV_nn l (s + x) (by omega) c2 hl, Int.add_assoc]
      · rw [res_not c2]
        simp only []
        rw [if_neg (by decide), res_not (by unfold I64 at *; omega)]
    · rw [res_not c]
      simp only []
      rw [if_neg (by decide), res_not (by unfold I64 at *; omega)]
theorem pow30_pos (n : Nat) : (0 : Int) < 2 ^ n := Int.pow_pos (by decide)
/-- A number shifted is no greater. -/
theorem shift_bd {p M : Int} (n : Nat) (h0 : -M ≤ p) (h1 : p ≤ M) (hM : 0 ≤ M) : -M ≤ p / 2 ^ n ∧ p / 2 ^ n ≤ M := by
  have hp := pow30_pos n
  constructor
  · rw [Int.le_ediv_iff_mul_le hp]
    have : M * 1 ≤ M * 2 ^ n := Int.mul_le_mul_of_nonneg_left (by omega) hM
    have e : -M * 2 ^ n = -(M * 2 ^ n) := Int.neg_mul _ _
    rw [e]; omega
  · have : p / 2 ^ n < M + 1 := by
      rw [Int.ediv_lt_iff_lt_mul hp]
      have : (M + 1) * 1 ≤ (M + 1) * 2 ^ n := Int.mul_le_mul_of_nonneg_left (by omega) (by omega)
      omega
    omega
theorem mul_bd {a b A B : Int} (ha : -A ≤ a ∧ a ≤ A) (hb : -B ≤ b ∧ b ≤ B) : -(A * B) ≤ a * b ∧ a * b ≤ A * B := by
  have hn : a.natAbs * b.natAbs ≤ A.toNat * B.toNat := Nat.mul_le_mul (by omega) (by omega)
  rw [← Int.natAbs_mul] at hn
  have e : ((A.toNat * B.toNat : Nat) : Int) = A * B := by rw [Int.natCast_mul, Int.toNat_of_nonneg (by omega), Int.toNat_of_nonneg (by omega)]
  generalize a * b = p at *
  omega
/-- A product's parts. -/
def dots (f : Int) (a b : List Int) : List Int := List.zipWith (fun x y => x * y / 2 ^ f.toNat) a b
theorem dots_bd {f A B : Int} (hA : 0 ≤ A) (hB : 0 ≤ B) : ∀ (a b : List Int), (∀ x ∈ a, -A ≤ x ∧ x ≤ A) → (∀ x ∈ b, -B ≤ x ∧ x ≤ B) → ∀ z ∈ dots f a b, -(A * B) ≤ z ∧ z ≤ A * B
  | [], _, _, _, z, hz => by simp [dots] at hz
  | _ :: _, [], _, _, z, hz => by simp [dots] at hz
  | x :: a, y :: b, ha, hb, z, hz => by
    rw [dots, List.zipWith_cons_cons] at hz
    rcases List.mem_cons.1 hz with e | e
    · rw [e]
      have := mul_bd (ha x (by simp)) (hb y (by simp))
      exact shift_bd _ this.1 this.2 (Int.mul_nonneg hA hB)
    · exact dots_bd hA hB a b (fun z hz => ha z (by simp [hz])) (fun z hz => hb z (by simp [hz])) z e
theorem zip_mulF {f C : Int} (hf : 0 ≤ f ∧ f ≤ 30) (hC : C ≤ 9223372036854775807) : ∀ (a b : List Int), (∀ z ∈ dots f a b, -C ≤ z ∧ z ≤ C) → List.zipWith (fun x y => mulF x y f) a b = (dots f a b).map fun x => (x, 0)
  | [], _, _ => by simp [dots]
  | _ :: _, [], _ => by simp [dots]
  | x :: a, y :: b, h => by
    have h1 := h (x * y / 2 ^ f.toNat) (by simp [dots])
    have ih := zip_mulF hf hC a b (fun z hz => h z (by rw [dots, List.zipWith_cons_cons]; exact List.mem_cons.2 (.inr hz)))
    rw [dots, List.zipWith_cons_cons, List.zipWith_cons_cons, List.map_cons, ih]
    congr 1
    unfold mulF; rw [if_pos hf, res_of (by unfold I64; omega)]
/-- A product of small numbers goes nowhere over. -/
theorem dotV_small {a b : List Int} {f A B : Int} (hA : 0 ≤ A) (hB : 0 ≤ B) (hl : a.length = b.length) (hn : b.length ≤ 16) (ha : ∀ x ∈ a, -A ≤ x ∧ x ≤ A) (hb : ∀ x ∈ b, -B ≤ x ∧ x ≤ B) (hm : A * B ≤ 288230376151711744) (hf : 0 ≤ f ∧ f ≤ 30) :
    dotV a b f = (isum (dots f a b), 0) ∧ -(16 * (A * B)) ≤ isum (dots f a b) ∧ isum (dots f a b) ≤ 16 * (A * B) := by
  have hbd := dots_bd (f := f) hA hB a b ha hb
  have hAB := Int.mul_nonneg hA hB
  have hlen : (dots f a b).length = b.length := by unfold dots; rw [List.length_zipWith]; omega
  have hs : ∀ (l : List Int) (M : Int), 0 ≤ M → (∀ x ∈ l, -M ≤ x ∧ x ≤ M) → -(M * l.length) ≤ isum l ∧ isum l ≤ M * l.length := by
    intro l M hM
    induction l with
    | nil => intro _; simp [isum]
    | cons x l ih =>
      intro h
      have h1 := h x (by simp)
      have h2 := ih (fun y hy => h y (by simp [hy]))
      have e : M * ((x :: l).length : Int) = M * (l.length : Int) + M := by rw [List.length_cons]; push_cast; rw [Int.mul_add, Int.mul_one]
      rw [e, isum]; omega
  have h1 := hs _ _ hAB hbd
  have h2 : (A * B) * ((dots f a b).length : Int) ≤ (A * B) * 16 := Int.mul_le_mul_of_nonneg_left (by omega) hAB
  refine ⟨?_, by omega, by omega⟩
  unfold dotV
  rw [if_pos (pairE_of hl (by omega)), if_pos (fracE_of hf.1 hf.2), zip_mulF hf (C := A * B) (by omega) a b hbd, sumV_ok (A * B) hAB _ _ hbd (by omega), Int.zero_add]

/-! ### lines -/
theorem rd_of {l : List Int} {i : Nat} (h : i < l.length) : rd l (i : Int) = l[i] := rd_nat h
theorem rd_memL {l : List Int} {i : Nat} (h : i < l.length) : rd l (i : Int) ∈ l := by rw [rd_nat h]; exact List.getElem_mem h
theorem tellL_small {w x : List Int} {f A B : Int} (hA : 0 ≤ A) (hB : 0 ≤ B) (hc : checkL x.length w [(x, 0)] = 0) (hw : ∀ n ∈ w, -A ≤ n ∧ n ≤ A) (hx : ∀ n ∈ x, -B ≤ n ∧ n ≤ B) (hm : A * B ≤ 288230376151711744) (hA2 : A ≤ 2305843009213693952) (hf : 0 ≤ f ∧ f ≤ 30) :
    tellL w x f = (isum (dots f (w.take x.length) x) + rd w x.length, 0) ∧ -(16 * (A * B)) ≤ isum (dots f (w.take x.length) x) ∧ isum (dots f (w.take x.length) x) ≤ 16 * (A * B) ∧ -A ≤ rd w x.length ∧ rd w x.length ≤ A := by
  obtain ⟨h1, h2, h3, h4, -, -⟩ := checkL_len hc
  have hl : (w.take x.length).length = x.length := by rw [List.length_take]; omega
  obtain ⟨d1, d2, d3⟩ := dotV_small (a := w.take x.length) (b := x) (f := f) hA hB hl (by omega) (fun n hn => hw n (List.mem_of_mem_take hn)) hx hm hf
  have hr := hw _ (rd_memL (l := w) (i := x.length) (by omega))
  refine ⟨?_, d2, d3, hr.1, hr.2⟩
  unfold tellL
  rw [if_pos hc, d1]
  simp only [if_true]
  rw [res_of (by unfold I64; omega)]

/-- A small line is nowhere off too far. -/
theorem offL_small {w : List Int} {s : List Int × Int} {f A B C : Int} (hA : 0 ≤ A) (hB : 0 ≤ B) (hc : checkL s.1.length w [(s.1, 0)] = 0) (hw : ∀ n ∈ w, -A ≤ n ∧ n ≤ A) (hx : ∀ n ∈ s.1, -B ≤ n ∧ n ≤ B) (hy : -C ≤ s.2 ∧ s.2 ≤ C) (hm : A * B ≤ 17592186044416) (hA2 : A ≤ 17592186044416) (hC : C ≤ 4611686018427387904) (hf : 0 ≤ f ∧ f ≤ 30) :
    (offL w s.1 s.2 f).2 = 0 ∧ -(16 * (A * B) + A + C) ≤ (offL w s.1 s.2 f).1 ∧ (offL w s.1 s.2 f).1 ≤ 16 * (A * B) + A + C := by
  obtain ⟨h1, h2, h3, h4, h5⟩ := tellL_small (w := w) (x := s.1) (f := f) hA hB hc hw hx (by omega) (by omega) hf
  unfold offL
  rw [h1]
  simp only [if_true]
  rw [res_of (by unfold I64; omega)]
  exact ⟨rfl, by simp only []; omega, by simp only []; omega⟩
theorem scaleV_small {x : List Int} {k f B M : Int} (hB : 0 ≤ B) (hM : 0 ≤ M) (hl : x.length ≤ 4096) (hx : ∀ n ∈ x, -B ≤ n ∧ n ≤ B) (hk : -M ≤ k ∧ k ≤ M) (hm : B * M ≤ 4611686018427387904) (hf : 0 ≤ f ∧ f ≤ 30) :
    scaleV x k f = (x.map (fun n => n * k / 2 ^ f.toNat), 0) ∧ Bd (B * M) (x.map (fun n => n * k / 2 ^ f.toNat)) := by
  have hb : ∀ n ∈ x, -(B * M) ≤ n * k / 2 ^ f.toNat ∧ n * k / 2 ^ f.toNat ≤ B * M := fun n hn => by
    have := mul_bd (hx n hn) hk
    exact shift_bd _ this.1 this.2 (Int.mul_nonneg hB hM)
  refine ⟨?_, ?_⟩
  · unfold scaleV
    rw [if_pos (checkE_of hl), if_pos (fracE_of hf.1 hf.2), seqV_same (fun n => n * k / 2 ^ f.toNat) x]
    intro n hn
    have := hb n hn
    unfold mulF
    rw [if_pos hf, res_of (by unfold I64; omega)]
  · intro z hz
    obtain ⟨n, hn, rfl⟩ := List.mem_map.1 hz
    exact hb n hn
theorem checkL_rev (n : Int) (w : List Int) (l : List (List Int × Int)) : checkL n w l.reverse = checkL n w l := by
  have e : fitsL n w l.reverse ↔ fitsL n w l := by unfold fitsL; simp
  unfold checkL
  rw [List.length_reverse]
  simp only [e]
theorem rowsL_ok {α : Type} {g : α → List Int × Int} : ∀ (l : List α), (∀ s ∈ l, (g s).2 = 0) → rowsL g l = (l.map fun s => (g s).1, 0)
  | [], _ => rfl
  | s :: l, h => by
    have ih := rowsL_ok l (fun x hx => h x (by simp [hx]))
    simp only [rowsL, h s (by simp), if_true, ih, List.map_cons]
theorem checkL_one {n : Int} {w : List Int} {l : List (List Int × Int)} (h : checkL n w l = 0) {s : List Int × Int} (hs : s ∈ l) : checkL s.1.length w [(s.1, 0)] = 0 := by
  obtain ⟨h1, h2, h3, h4, h5, h6⟩ := checkL_len h
  have e := h4 s hs
  exact checkL_of (by omega) (by omega) (by omega) (by intro t ht; cases List.mem_singleton.1 ht; rfl) (by simp) (by simp)
theorem bendL_small {w : List Int} {s : List Int × Int} {f : Int} (hc : checkL s.1.length w [(s.1, 0)] = 0) (hw : ∀ n ∈ w, -1048576 ≤ n ∧ n ≤ 1048576) (hx : ∀ n ∈ s.1, -4096 ≤ n ∧ n ≤ 4096) (hy : -1048576 ≤ s.2 ∧ s.2 ≤ 1048576) (hf : 0 ≤ f ∧ f ≤ 30) :
    (bendL w f s).2 = 0 ∧ (bendL w f s).1.length = w.length ∧ Bd 1125899906842624 (bendL w f s).1 := by
  obtain ⟨h1, h2, h3, -, -, -⟩ := checkL_len hc
  obtain ⟨o1, o2, o3⟩ := offL_small (A := 1048576) (B := 4096) (C := 1048576) (f := f) (by omega) (by omega) hc hw hx hy (by omega) (by omega) (by omega) hf
  obtain ⟨c1, c2⟩ := scaleV_small (x := s.1) (k := (offL w s.1 s.2 f).1) (f := f) (B := 4096) (M := 137438953472) (by omega) (by omega) (by omega) hx (by omega) (by omega) hf
  unfold bendL
  rw [if_pos o1, c1]
  simp only [if_true]
  refine ⟨trivial, by simp; omega, ?_⟩
  intro z hz
  rcases List.mem_append.1 hz with h | h
  · have := c2 z h; omega
  · rw [List.mem_singleton.1 h]; omega
/-- Samples in another order. -/
theorem gradL_rev {w : List Int} {f : Int} {l : List (List Int × Int)} (hw : ∀ n ∈ w, -1048576 ≤ n ∧ n ≤ 1048576) (hx : ∀ s ∈ l, (-1048576 ≤ s.2 ∧ s.2 ≤ 1048576) ∧ ∀ n ∈ s.1, -4096 ≤ n ∧ n ≤ 4096) (hf : 0 ≤ f ∧ f ≤ 30) : gradL w f l.reverse = gradL w f l := by
  unfold gradL
  rw [checkL_rev]
  by_cases c : checkL (wrap64 ((w.length : Int) - 1)) w l = 0
  · rw [if_pos c, if_pos c]
    obtain ⟨-, -, -, -, h5, h6⟩ := checkL_len c
    have hb : ∀ s ∈ l, _ := fun s hs => bendL_small (f := f) (checkL_one c hs) hw (hx s hs).2 (hx s hs).1 hf
    have hb2 : ∀ s ∈ l.reverse, (bendL w f s).2 = 0 := fun s hs => (hb s (List.mem_reverse.1 hs)).1
    rw [rowsL_ok l (fun s hs => (hb s hs).1), rowsL_ok l.reverse hb2]
    simp only [if_true, List.length_reverse]
    by_cases cw : w.length ≤ 4096
    · have hv : ∀ v ∈ l.map (fun s => (bendL w f s).1), v.length = w.length ∧ Bd 1125899906842624 v := fun v hv => by
        obtain ⟨s, hs, rfl⟩ := List.mem_map.1 hv
        exact (hb s hs).2
      have e1 : sumsV (l.map fun s => (bendL w f s).1) = (colSum w.length (l.map fun s => (bendL w f s).1), 0) := sumsV_col cw (by omega) _ (by simp; omega) hv (by simp only [List.length_map]; omega)
      have e2 : sumsV (l.reverse.map fun s => (bendL w f s).1) = (colSum w.length (l.map fun s => (bendL w f s).1), 0) := by
        rw [List.map_reverse, sumsV_col cw (B := 1125899906842624) (by omega) _ (by simp; omega) (fun v h => hv v (List.mem_reverse.1 h)) (by simp only [List.length_reverse, List.length_map]; omega), colSum_reverse _ (fun v h => (hv v h).1)]
      unfold meanL
      rw [e1, e2]
    · exact absurd (checkL_len c) (by omega)
  · rw [if_neg c, if_neg c]
theorem lossL_rev {w : List Int} {f : Int} {l : List (List Int × Int)} (hw : ∀ n ∈ w, -1048576 ≤ n ∧ n ≤ 1048576) (hx : ∀ s ∈ l, (-1048576 ≤ s.2 ∧ s.2 ≤ 1048576) ∧ ∀ n ∈ s.1, -4096 ≤ n ∧ n ≤ 4096) (hf : 0 ≤ f ∧ f ≤ 30) : lossL w f l.reverse = lossL w f l ∧ 0 ≤ (lossL w f l).1 := by
  unfold lossL
  rw [checkL_rev]
  by_cases c : checkL (wrap64 ((w.length : Int) - 1)) w l = 0
  · rw [if_pos c, if_pos c]
    have hv : ∀ s ∈ l, lossS w f s = res ((offL w s.1 s.2 f).1 * (offL w s.1 s.2 f).1 / 2 ^ f.toNat) ∧ 0 ≤ (offL w s.1 s.2 f).1 * (offL w s.1 s.2 f).1 / 2 ^ f.toNat := fun s hs => by
      obtain ⟨o1, -, -⟩ := offL_small (A := 1048576) (B := 4096) (C := 1048576) (f := f) (by omega) (by omega) (checkL_one c hs) hw (hx s hs).2 (hx s hs).1 (by omega) (by omega) (by omega) hf
      refine ⟨?_, Int.ediv_nonneg ?_ (by have := pow30_pos f.toNat; omega)⟩
      · unfold lossS mulF; rw [if_pos o1, if_pos hf]
      · rcases Int.le_total 0 (offL w s.1 s.2 f).1 with h | h
        · exact Int.mul_nonneg h h
        · exact Int.mul_nonneg_of_nonpos_of_nonpos h h
    have key : ∀ k : List (List Int × Int), (∀ s ∈ k, s ∈ l) → sumV (k.map (lossS w f)) 0 = res (isum (k.map fun s => (offL w s.1 s.2 f).1 * (offL w s.1 s.2 f).1 / 2 ^ f.toNat)) ∧ 0 ≤ isum (k.map fun s => (offL w s.1 s.2 f).1 * (offL w s.1 s.2 f).1 / 2 ^ f.toNat) := fun k hk => by
      have e : k.map (lossS w f) = (k.map fun s => (offL w s.1 s.2 f).1 * (offL w s.1 s.2 f).1 / 2 ^ f.toNat).map res := by
        rw [List.map_map]; exact List.map_congr_left (fun s hs => (hv s (hk s hs)).1)
      have hnn : ∀ x ∈ k.map (fun s => (offL w s.1 s.2 f).1 * (offL w s.1 s.2 f).1 / 2 ^ f.toNat), 0 ≤ x := fun x hx => by
        obtain ⟨s, hs, rfl⟩ := List.mem_map.1 hx
        exact (hv s (hk s hs)).2
      rw [e, sumV_nn _ 0 (Int.le_refl _) i64_zero hnn, Int.zero_add]
      exact ⟨rfl, isum_nn _ hnn⟩
    obtain ⟨k1, k2⟩ := key l (fun _ h => h)
    rw [k1, (key l.reverse (fun s h => List.mem_reverse.1 h)).1, List.map_reverse, isum_rev]
    refine ⟨rfl, ?_⟩
    unfold res; split
    · exact k2
    · exact Int.le_refl _
  · rw [if_neg c, if_neg c]; exact ⟨rfl, Int.le_refl _⟩

/-! ### a line's base -/
theorem tellL_eq {w x : List Int} {f D : Int} (hc : checkL x.length w [(x, 0)] = 0) (hd : dotV (w.take x.length) x f = (D, 0)) : tellL w x f = res (D + rd w x.length) := by
  unfold tellL
  rw [if_pos hc, hd]; rfl
theorem tellL_bad {w x : List Int} {f : Int} (hc : checkL x.length w [(x, 0)] ≠ 0) : tellL w x f = (0, checkL x.length w [(x, 0)]) := if_neg hc
theorem tellL_badf {w x : List Int} {f e : Int} (hc : checkL x.length w [(x, 0)] = 0) (he : e ≠ 0) (hd : (dotV (w.take x.length) x f).2 = e) : tellL w x f = (0, e) := by
  unfold tellL
  rw [if_pos hc, if_neg (by rw [hd]; exact he), hd]
theorem checkL_same {n : Int} {w w' : List Int} {l l' : List (List Int × Int)} (hw : w'.length = w.length) (hl : l'.map (·.1.length) = l.map (·.1.length)) : checkL n w' l' = checkL n w l := by
  have h1 : l'.length = l.length := by have := congrArg List.length hl; simpa using this
  have h2 : (∀ s ∈ l', (s.1.length : Int) = n) ↔ ∀ s ∈ l, (s.1.length : Int) = n := by
    have e : ∀ k : List (List Int × Int), (∀ s ∈ k, (s.1.length : Int) = n) ↔ ∀ m : Nat, m ∈ k.map (fun s => s.1.length) → (m : Int) = n := fun k =>
      ⟨fun h m hm => by obtain ⟨s, hs, rfl⟩ := List.mem_map.1 hm; exact h s hs, fun h s hs => h _ (List.mem_map.2 ⟨s, hs, rfl⟩)⟩
    rw [e, e, hl]
  have h3 : fitsL n w' l' ↔ fitsL n w l := by unfold fitsL; rw [hw, h2]
  unfold checkL
  rw [h1]
  simp only [h3]
theorem take_set_le {w : List Int} {i : Nat} {v : Int} : (w.set i v).take i = w.take i := by
  apply List.ext_getElem?
  intro j
  by_cases h : j < i
  · rw [List.getElem?_take_of_lt h, List.getElem?_take_of_lt h, List.getElem?_set_ne (by omega)]
  · rw [List.getElem?_eq_none (by rw [List.length_take]; omega), List.getElem?_eq_none (by rw [List.length_take]; omega)]
theorem rd_set {w : List Int} {i : Nat} {v : Int} (h : i < w.length) : rd (w.set i v) (i : Int) = v := by
  rw [rd_nat (by rw [List.length_set]; exact h)]; simp
/-- A greater base, and what is to be told greater by the same: it is off as it was. -/
theorem offL_base {w x : List Int} {y f b : Int} (hw : ∀ n ∈ w, -1099511627776 ≤ n ∧ n ≤ 1099511627776) (hx : ∀ n ∈ x, -32768 ≤ n ∧ n ≤ 32768) (hy : -1152921504606846976 ≤ y ∧ y ≤ 1152921504606846976) (hb : -1099511627776 ≤ b ∧ b ≤ 1099511627776) (hl : x.length + 1 = w.length) :
    offL (w.set x.length (rd w x.length + b)) x (y + b) f = offL w x y f := by
  have hlen : (w.set x.length (rd w x.length + b)).length = w.length := List.length_set
  have hck : checkL x.length (w.set x.length (rd w x.length + b)) [(x, 0)] = checkL x.length w [(x, 0)] := checkL_same hlen rfl
  unfold offL
  by_cases hc : checkL x.length w [(x, 0)] = 0
  · have hr := hw _ (rd_memL (l := w) (i := x.length) (by omega))
    by_cases hf : 0 ≤ f ∧ f ≤ 30
    · obtain ⟨c1, c2, c3, -, -, -⟩ := checkL_len hc
      obtain ⟨d1, d2, d3⟩ := dotV_small (a := w.take x.length) (b := x) (f := f) (A := 1099511627776) (B := 32768) (by omega) (by omega) (by rw [List.length_take]; omega) (by omega) (fun n hn => hw n (List.mem_of_mem_take hn)) hx (by omega) hf
      rw [tellL_eq hc d1, tellL_eq (hck.trans hc) (by rw [take_set_le]; exact d1), rd_set (by omega)]
      have e1 : res (isum (dots f (w.take x.length) x) + (rd w x.length + b)) = (isum (dots f (w.take x.length) x) + (rd w x.length + b), 0) := res_of (by unfold I64; omega)
      have e2 : res (isum (dots f (w.take x.length) x) + rd w x.length) = (isum (dots f (w.take x.length) x) + rd w x.length, 0) := res_of (by unfold I64; omega)
      rw [e1, e2]
      simp only [if_true]
      congr 1; omega
    · have hd : ∀ a : List Int, a.length = x.length → (dotV a x f).2 = 1 := fun a ha => by
        obtain ⟨c1, c2, c3, -, -, -⟩ := checkL_len hc
        unfold dotV
        rw [if_pos (pairE_of ha (by omega)), if_neg (show fracE f ≠ 0 by unfold fracE; rw [if_neg hf]; decide)]
        unfold fracE; rw [if_neg hf]
      rw [tellL_badf hc (by decide) (hd _ (by rw [List.length_take]; omega)), tellL_badf (hck.trans hc) (by decide) (hd _ (by rw [List.length_take, hlen]; omega))]
      rfl
  · rw [tellL_bad hc, tellL_bad (by rw [hck]; exact hc), hck]
    rw [if_neg hc, if_neg hc]
theorem rowsL_congr {α β : Type} {g : α → List Int × Int} {g' : β → List Int × Int} : ∀ {l : List α} {l' : List β}, l.map g = l'.map g' → rowsL g l = rowsL g' l'
  | [], [], _ => rfl
  | [], _ :: _, h => by simp at h
  | _ :: _, [], h => by simp at h
  | x :: l, y :: l', h => by
    simp only [List.map_cons, List.cons.injEq] at h
    simp only [rowsL, h.1, rowsL_congr h.2]

theorem bendL_congr {w w' x : List Int} {y y' f : Int} (h : offL w' x y' f = offL w x y f) : bendL w' f (x, y') = bendL w f (x, y) := by
  unfold bendL; simp only [h]
theorem lossS_congr {w w' x : List Int} {y y' f : Int} (h : offL w' x y' f = offL w x y f) : lossS w' f (x, y') = lossS w f (x, y) := by
  unfold lossS; simp only [h]

/-! ### a line that tells right -/
theorem tellL_ok {w x : List Int} {f : Int} (h : (tellL w x f).2 = 0) : checkL x.length w [(x, 0)] = 0 ∧ 0 ≤ f ∧ f ≤ 30 := by
  by_cases c : checkL x.length w [(x, 0)] = 0
  · refine ⟨c, ?_⟩
    obtain ⟨c1, c2, c3, -, -, -⟩ := checkL_len c
    by_cases hf : 0 ≤ f ∧ f ≤ 30
    · exact hf
    · have hd : (dotV (w.take x.length) x f).2 = 1 := by
        unfold dotV
        have ht : (w.take x.length).length = x.length := by rw [List.length_take]; omega
        rw [if_pos (pairE_of ht (by omega)), if_neg (show fracE f ≠ 0 by unfold fracE; rw [if_neg hf]; decide)]
        unfold fracE; rw [if_neg hf]
      rw [tellL_badf c (by decide) hd] at h
      exact absurd h (show (1 : Int) ≠ 0 by decide)
  · rw [tellL_bad c] at h; exact absurd h c
theorem offL_right {w x : List Int} {f : Int} (h : (tellL w x f).2 = 0) : offL w x (tellL w x f).1 f = (0, 0) := by
  unfold offL
  rw [if_pos h, Int.sub_self, res_of i64_zero]
theorem bendL_right {w x : List Int} {f : Int} (h : (tellL w x f).2 = 0) : bendL w f (x, (tellL w x f).1) = (List.replicate (x.length + 1) 0, 0) := by
  obtain ⟨c, hf⟩ := tellL_ok h
  obtain ⟨c1, c2, c3, -, -, -⟩ := checkL_len c
  have hs : scaleV x 0 f = (x.map (fun _ => 0), 0) := scaleV_zero (by omega) hf.1 hf.2
  unfold bendL
  simp only [offL_right h, hs, if_true]
  congr 1
  rw [List.map_const', List.replicate_succ']
theorem lossS_right {w x : List Int} {f : Int} (h : (tellL w x f).2 = 0) : lossS w f (x, (tellL w x f).1) = (0, 0) := by
  obtain ⟨c, hf⟩ := tellL_ok h
  unfold lossS
  simp only [offL_right h, if_true]
  unfold mulF
  rw [if_pos hf, Int.zero_mul, Int.zero_ediv, res_of i64_zero]
theorem sumV_zeros : ∀ n : Nat, sumV (List.replicate n ((0 : Int), (0 : Int))) 0 = (0, 0)
  | 0 => rfl
  | n + 1 => by
    rw [List.replicate_succ]
    simp only [sumV, if_true, Int.add_zero, res_of i64_zero]
    exact sumV_zeros n
theorem meanL_zeros {m k : Nat} (hm : m ≤ 4096) (hk : 0 < k) (n : Int) (hn : 1 ≤ n) : meanL n (List.replicate k (List.replicate m 0)) = (List.replicate m 0, 0) := by
  have hb : ∀ v ∈ List.replicate k (List.replicate m (0 : Int)), v.length = m ∧ Bd 0 v := fun v hv => by
    rw [(List.mem_replicate.1 hv).2]
    exact ⟨by simp, fun x hx => by rw [(List.mem_replicate.1 hx).2]; omega⟩
  have hs : sumsV (List.replicate k (List.replicate m (0 : Int))) = (List.replicate m 0, 0) := by
    rw [sumsV_col hm (B := 0) (by omega) _ (by simp; omega) hb (by omega)]
    congr 1
    have hl := colSum_len _ (fun v hv => (hb v hv).1)
    have hz := colSum_bd (m := m) (B := 0) (by omega) _ (fun v hv => (hb v hv).2)
    refine List.eq_replicate_iff.2 ⟨hl, fun x hx => ?_⟩
    have := hz x hx
    omega
  unfold meanL
  rw [if_neg (by omega), hs]
  simp only [if_true]
  have hq : seqV ((List.replicate m (0 : Int)).map fun x => divF x n 0) = ((List.replicate m (0 : Int)).map (fun _ => (0 : Int)), 0) := seqV_same (g := fun x => divF x n 0) (fun _ => 0) (List.replicate m 0) (fun x hx => by
    rw [(List.mem_replicate.1 hx).2]
    show divF 0 n 0 = (0, 0)
    unfold divF
    rw [if_neg (by omega)]
    simp only [Int.zero_mul, divQ]
    rw [if_pos (by omega), Int.zero_ediv, res_of i64_zero])
  rw [hq, List.map_replicate]
theorem meanL_one {row : List Int} (hv : V64 row) (hl : row.length ≤ 4096) : meanL 1 [row] = (row, 0) := by
  have hs : sumsV [row] = (row, 0) := by
    show (if checkE row = 0 then sumFrom [] row else ([], checkE row)) = _
    rw [if_pos (checkE_of hl)]; rfl
  unfold meanL
  rw [if_neg (by omega), hs]
  simp only [if_true]
  rw [seqV_same (g := fun x => divF x 1 0) id row (fun x hx => by
    show divF x 1 0 = (x, 0)
    unfold divF
    rw [if_neg (by omega)]
    simp only [Int.toNat_zero, Int.pow_zero, Int.mul_one, divQ]
    rw [if_pos (by omega), Int.ediv_one, res_of (hv x hx)]), List.map_id]
/-- Of one sample the gradient is X so many times as it is off, and that behind. -/
theorem gradL_one {w x : List Int} {y f : Int} (hc : checkL x.length w [(x, 0)] = 0) (ho : (offL w x y f).2 = 0) : (gradL w f [(x, y)]).2 = (scaleV x (offL w x y f).1 f).2 ∧ ((scaleV x (offL w x y f).1 f).2 = 0 → (gradL w f [(x, y)]).1 = (scaleV x (offL w x y f).1 f).1 ++ [(offL w x y f).1]) := by
  obtain ⟨c1, c2, c3, -, -, -⟩ := checkL_len hc
  have e : wrap64 ((w.length : Int) - 1) = x.length := by rw [wrap64_of (by unfold I64; omega)]; omega
  have hck : checkL (wrap64 ((w.length : Int) - 1)) w [(x, y)] = 0 := by rw [e]; exact checkL_of c1 c2 c3 (by intro s hs; cases List.mem_singleton.1 hs; rfl) (by simp) (by simp)
  unfold gradL
  rw [if_pos hck]
  simp only [rowsL, bendL]
  rw [if_pos ho]
  by_cases hs : (scaleV x (offL w x y f).1 f).2 = 0
  · rw [if_pos hs]
    simp only [if_true]
    have hlen : (scaleV x (offL w x y f).1 f).1.length ≤ x.length := by
      unfold scaleV
      split
      · split
        · have := seqV_lle (x.map fun n => mulF n (offL w x y f).1 f); rw [List.length_map] at this; exact this
        · simp
      · simp
    have hm := meanL_one (row := (scaleV x (offL w x y f).1 f).1 ++ [(offL w x y f).1]) ((scaleV_v64 _ _ _).snoc (offL_i64 _ _ _ _)) (by simp; omega)
    rw [show (([(x, y)] : List (List Int × Int)).length : Int) = 1 from rfl, hm]
    exact ⟨hs.symm, fun _ => rfl⟩
  · rw [if_neg hs]
    simp only [if_neg hs]
    exact ⟨trivial, fun h => absurd h hs⟩

end Go.Proofs.Ytalamamjodihaaa.Sp
