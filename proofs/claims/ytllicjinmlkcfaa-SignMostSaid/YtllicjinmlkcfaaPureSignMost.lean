/- SignMost: of two equal lists and a third the first has the most; turns are a distance. -/
import Derived.Test.YtllicjinmlkcfaaHCx32
import Derived.Test.YtllicjinmlkcfaaPVec
namespace Go.Proofs.Ytllicjinmlkcfaa.Pure
open Go.RowKit Go.Proofs.Ytllicjinmlkcfaa.HC Go.Proofs.YtllicjinmlkcfaaW.PrintWords Go.Proofs.YtllicjinmlkcfaaW.PrintLast Go.Proofs.YtllicjinmlkcfaaW.PrintMore Go.Proofs.Ytllicjinmlkcfaa.Sp
set_option linter.unusedVariables false
set_option linter.unusedSimpArgs false
theorem live11 : thrumlaw11_live.f = some true := by decide +kernel
theorem le_up {α : Type} {f : Nat → Option α} (h : ∀ k, LeO (f k) (f (k + 1))) {r : α} {n : Nat} (e : f n = some r) : ∀ d, f (n + d) = some r
  | 0 => e
  | d + 1 => h (n + d) _ (le_up h e d)
theorem le_at {α : Type} {f : Nat → Option α} (h : ∀ k, LeO (f k) (f (k + 1))) {r : α} {n m : Nat} (e : f n = some r) (hm : n ≤ m) : f m = some r := by
  have := le_up h e (m - n)
  rwa [show n + (m - n) = m by omega] at this
theorem rd3 {X : List (List Bool)} {i : Nat} (h : i < X.length) : rd_L3 X (i : Int) = X[i] := by
  simp [rd_L3, List.getD_eq_getElem?_getD, List.getElem?_eq_getElem h]
theorem rd3_at (Z : List (List Bool)) (v : List Bool) (Y : List (List Bool)) : rd_L3 (Z ++ v :: Y) (Z.length : Int) = v := by
  rw [rd3 (by simp)]; simp
theorem rdb_at (C : List Bool) (b : Bool) (D : List Bool) : rdOf false (C ++ b :: D) (C.length : Int) = b := by
  rw [rdb_nat (by simp)]; simp
theorem rdi_at (A : List Int) (a : Int) (B : List Int) : rd (A ++ a :: B) (A.length : Int) = a := by
  rw [rd_nat (by simp)]; simp
/-- What few says of a list of lists. -/
theorem few_l0 : ∀ (Y Z : List (List Bool)) (m : Int), (Z ++ Y).length ≤ 9223372036854775807 → ∃ b, thrumlaw11_few.l0 (Y.length + 1) (Z ++ Y) m (Z ++ Y) ((Z ++ Y).length : Int) (Z.length : Int) = some b ∧ (b = true → (Z ++ Y).length ≤ 30 ∧ m ≤ 5000 ∧ ∀ v ∈ Y, v.length ≤ 5000)
  | [], Z, m, h => by
    rw [thrumlaw11_few.l0, if_neg (by simp)]
    split
    · rename_i c
      refine ⟨_, rfl, fun e => ?_⟩
      have := of_decide_eq_true e
      exact ⟨by omega, c, by simp⟩
    · exact ⟨false, rfl, fun e => by cases e⟩
  | v :: Y, Z, m, h => by
    have hl : (Z ++ v :: Y).length = Z.length + Y.length + 1 := by simp; omega
    rw [List.length_cons, thrumlaw11_few.l0, if_pos (by omega), if_pos (by omega), if_pos (by omega), rd3_at, wrap64_of (x := (Z.length : Int) + 1) (by unfold I64; omega)]
    obtain ⟨b, hb, hh⟩ := few_l0 Y (Z ++ [v]) (mx m (v.length : Int)) (by simpa [List.append_assoc] using h)
    rw [show (Z ++ [v]) ++ Y = Z ++ v :: Y by simp] at hb hh
    refine ⟨b, ?_, fun e => ?_⟩
    · rw [← hb]; congr 1; simp
    · obtain ⟨h1, h2, h3⟩ := hh e
      unfold mx at h2
      split at h2
      · exact ⟨h1, by omega, fun u hu => by
          rcases List.mem_cons.1 hu with e | e
          · rw [e]; omega
          · exact h3 u e⟩
      · exact ⟨h1, by omega, fun u hu => by
          rcases List.mem_cons.1 hu with e | e
          · rw [e]; omega
          · exact h3 u e⟩
theorem few_is (X : List (List Bool)) (h : X.length ≤ 9223372036854775807) : ∃ b, thrumlaw11_few.f (X.length + 1) ([] : List Int) X = some b ∧ (b = true → X.length ≤ 30 ∧ ∀ v ∈ X, v.length ≤ 5000) := by
  obtain ⟨b, hb, hh⟩ := few_l0 X [] 0 (by simpa using h)
  refine ⟨b, hb, fun e => ?_⟩
  obtain ⟨h1, _, h3⟩ := hh e
  exact ⟨by simpa using h1, h3⟩
/-- Whether the lists fit each other. -/
def fitR (m : Nat) : Int → List (List Bool) → Int
  | e, [] => e
  | e, v :: Y => if v.length > 4096 then 3 else if v.length = m then fitR m e Y else fitR m 4 Y
theorem fit_l0 (m : Nat) : ∀ (Y Z : List (List Bool)) (e : Int), (Z ++ Y).length ≤ 30 → (Z ++ Y ≠ [] → (rd_L3 (Z ++ Y) 0).length = m) → sign_fit.l0 (Y.length + 1) (Z ++ Y) e (Z ++ Y) ((Z ++ Y).length : Int) (Z.length : Int) = some (fitR m e Y)
  | [], Z, e, h, hm => by
    rw [sign_fit.l0, if_neg (by simp)]; rfl
  | v :: Y, Z, e, h, hm => by
    have hl : (Z ++ v :: Y).length = Z.length + Y.length + 1 := by simp; omega
    have hm' := hm (by simp)
    rw [List.length_cons, sign_fit.l0, if_pos (by omega), if_pos (by omega), if_pos (by omega), rd3_at, fitR]
    by_cases c : v.length > 4096
    · rw [if_pos (by omega), if_pos c]
    · rw [if_neg (by omega), if_neg c, if_pos (by omega), hm', wrap64_of (x := (Z.length : Int) + 1) (by unfold I64; omega)]
      have ih := fun e => fit_l0 m Y (Z ++ [v]) e (by simpa [List.append_assoc] using h) (by intro _; rw [List.append_assoc]; exact hm')
      rw [show (Z ++ [v]) ++ Y = Z ++ v :: Y by simp, show ((Z ++ [v]).length : Int) = (Z.length : Int) + 1 by simp] at ih
      by_cases c2 : v.length = m
      · rw [if_pos (by omega), if_pos c2, ih]
      · rw [if_neg (by omega), if_neg c2, ih]
def longB (Y : List (List Bool)) : Bool := Y.any fun v => decide (v.length > 4096)
def sameB (m : Nat) (Y : List (List Bool)) : Bool := Y.all fun v => decide (v.length = m)
theorem fitR_is (m : Nat) : ∀ (Y : List (List Bool)) (e : Int), fitR m e Y = if longB Y = true then 3 else if sameB m Y = true then e else 4
  | [], e => by simp [fitR, longB, sameB]
  | v :: Y, e => by
    have hL : longB (v :: Y) = (decide (v.length > 4096) || longB Y) := rfl
    have hS : sameB m (v :: Y) = (decide (v.length = m) && sameB m Y) := rfl
    rw [fitR, hL, hS]
    by_cases c : v.length > 4096
    · rw [if_pos c, decide_eq_true c]; simp
    · rw [if_neg c, decide_eq_false c]
      by_cases c2 : v.length = m
      · rw [if_pos c2, fitR_is m Y e, decide_eq_true c2]; simp
      · rw [if_neg c2, fitR_is m Y 4, decide_eq_false c2]; simp
def fitV (X : List (List Bool)) : Int := if longB X = true then 3 else if sameB (rd_L3 X 0).length X = true then 0 else 4
theorem fit_is (X : List (List Bool)) (h : X.length ≤ 30) (k : Nat) (hk : X.length + 1 ≤ k) : sign_fit.f k X = some (fitV X) := by
  refine le_at (fun k => sign_fit.mono X k) (n := X.length + 1) ?_ hk
  have := fit_l0 (rd_L3 X 0).length X [] 0 (by simpa using h) (fun _ => rfl)
  rw [fitR_is] at this
  exact this
theorem fitV_ok {X : List (List Bool)} (h : fitV X = 0) : ∀ v ∈ X, v.length ≤ 4096 ∧ v.length = (rd_L3 X 0).length := by
  unfold fitV at h
  by_cases c : longB X = true
  · rw [if_pos c] at h; cases h
  · rw [if_neg c] at h
    by_cases c2 : sameB (rd_L3 X 0).length X = true
    · intro v hv
      refine ⟨?_, of_decide_eq_true (List.all_eq_true.1 c2 v hv)⟩
      apply Classical.byContradiction
      intro hn
      exact c (List.any_eq_true.2 ⟨v, hv, decide_eq_true (by omega)⟩)
    · rw [if_neg c2] at h; cases h
/-! Votes. -/
def stepV (t : Int) (b : Bool) : Int := if b = true then t + 1 else t - 1
def addV (t : List Int) (v : List Bool) : List Int := List.zipWith stepV t v
def cnt (p : Nat) : List (List Bool) → Int
  | [] => 0
  | v :: Y => (if v.getD p false = true then 1 else 0) + cnt p Y
theorem cnt_le (p : Nat) : ∀ Y : List (List Bool), 0 ≤ cnt p Y ∧ cnt p Y ≤ Y.length
  | [] => by simp [cnt]
  | v :: Y => by
    have := cnt_le p Y
    rw [cnt, List.length_cons]
    split <;> omega
theorem votes_l1 (X : List (List Bool)) (n i : Int) (K : Nat) : ∀ (D : List Bool) (B : List Int) (C : List Bool) (A : List Int), B.length = D.length → A.length = C.length → (C ++ D).length ≤ 4096 → (∀ x ∈ B, -100 ≤ x ∧ x ≤ 100) →
    sign_Votes.l1 (D.length + 1 + K) (A ++ B) X n i (C ++ D) ((C ++ D).length : Int) (C.length : Int) = sign_Votes.l0 (K + 0) (A ++ addV B D) X n (wrap64 (i + 1))
  | [], B, C, A, hB, hA, hl, hb => by
    cases B with
    | cons x B => simp at hB
    | nil =>
      rw [show ([] : List Bool).length + 1 + K = K + 1 by simp; omega, sign_Votes.l1, if_neg (by simp)]
      simp [addV]
  | b :: D, B, C, A, hB, hA, hl, hb => by
    cases B with
    | nil => simp at hB
    | cons x B =>
      have hx := hb x (by simp)
      have hl2 : (C ++ b :: D).length = C.length + D.length + 1 := by simp; omega
      have hl3 : (A ++ x :: B).length = A.length + B.length + 1 := by simp; omega
      have hB2 : B.length = D.length := by simpa using hB
      rw [show (b :: D).length + 1 + K = (D.length + 1 + K) + 1 by simp; omega, sign_Votes.l1, if_pos (by omega), if_pos (by omega), if_pos (by omega), rdb_at, wrap64_of (x := (C.length : Int) + 1) (by unfold I64; omega), ← hA, rdi_at, show ((A.length : Nat) : Int).toNat = A.length by omega, wrap64_of (x := x + 1) (by unfold I64; omega), wrap64_of (x := x - 1) (by unfold I64; omega)]
      have hs : ∀ y : Int, (A ++ x :: B).set A.length y = (A ++ [y]) ++ B := by intro y; rw [List.set_append_right _ _ (Nat.le_refl _)]; simp
      rw [hs, hs]
      have ih := fun y => votes_l1 X n i K D B (C ++ [b]) (A ++ [y]) (by simpa using hB) (by simpa using hA) (by simpa [List.append_assoc] using hl) (fun z hz => hb z (by simp [hz]))
      rw [show (C ++ [b]) ++ D = C ++ b :: D by simp, show ((C ++ [b]).length : Int) = (A.length : Int) + 1 by simp [hA]] at ih
      have e : addV (x :: B) (b :: D) = stepV x b :: addV B D := rfl
      rw [e]
      cases b
      · rw [if_neg (by decide), if_pos (by omega), ih]; simp [stepV]
      · rw [if_pos rfl, if_pos (by omega), ih]; simp [stepV]
def addAll (t : List Int) (Y : List (List Bool)) : List Int := Y.foldl addV t
theorem addV_len {t : List Int} {v : List Bool} (h : v.length = t.length) : (addV t v).length = t.length := by simp [addV, h]
theorem votes_l0 (m : Nat) (hm : m ≤ 4096) (X : List (List Bool)) (hX : X.length ≤ 30) : ∀ (Y Z : List (List Bool)) (t : List Int), X = Z ++ Y → (∀ v ∈ Y, v.length = m) → t.length = m → (∀ x ∈ t, -(Z.length : Int) ≤ x ∧ x ≤ Z.length) →
    sign_Votes.l0 (Y.length * (m + 2) + 1) t X (X.length : Int) (Z.length : Int) = some ((addAll t Y).map (fun x => decide (0 < x)), 0)
  | [], Z, t, hXe, hv, ht, hb => by
    rw [show ([] : List (List Bool)).length * (m + 2) + 1 = 0 + 1 by simp, sign_Votes.l0, if_neg (by rw [hXe]; simp)]
    unfold sign_each_int_bool.f
    rw [if_pos ⟨rfl, by omega⟩]
    rfl
  | v :: Y, Z, t, hXe, hv, ht, hb => by
    have hl : X.length = Z.length + Y.length + 1 := by rw [hXe]; simp; omega
    have hvl := hv v (by simp)
    have e : (v :: Y).length * (m + 2) + 1 = (v.length + 1 + (Y.length * (m + 2) + 1)) + 1 := by rw [List.length_cons, Nat.add_mul, hvl]; omega
    rw [e, sign_Votes.l0, if_pos (by omega), if_pos (by omega), if_pos (by omega), show rd_L3 X (Z.length : Int) = v by rw [hXe]; exact rd3_at Z v Y]
    have := votes_l1 X (X.length : Int) (Z.length : Int) (Y.length * (m + 2) + 1) v t [] [] (by omega) rfl (by simp; omega) (fun x hx => by have := hb x hx; omega)
    simp only [List.nil_append, List.length_nil, Nat.add_zero] at this
    rw [show ((0 : Nat) : Int) = 0 from rfl] at this
    rw [this, wrap64_of (by unfold I64; omega)]
    have ih := votes_l0 m hm X hX Y (Z ++ [v]) (addV t v) (by rw [hXe]; simp) (fun u hu => hv u (by simp [hu])) (by rw [addV_len (by omega)]; exact ht) (by
      intro x hx
      obtain ⟨i, hi, rfl⟩ := List.mem_iff_getElem.1 hx
      have hi2 : i < t.length ∧ i < v.length := by have h3 := hi; rw [addV, List.length_zipWith] at h3; omega
      have hq : (addV t v)[i] = stepV (t[i]'hi2.1) (v[i]'hi2.2) := by simp [addV]
      have h1 := hb _ (List.getElem_mem hi2.1)
      rw [hq, stepV, List.length_append, List.length_singleton]
      split <;> omega)
    rw [show ((Z ++ [v]).length : Int) = (Z.length : Int) + 1 by simp] at ih
    exact ih
theorem addAll_len : ∀ (Y : List (List Bool)) (t : List Int), (∀ v ∈ Y, v.length = t.length) → (addAll t Y).length = t.length
  | [], t, _ => rfl
  | v :: Y, t, h => by
    have h1 := h v (by simp)
    show (addAll (addV t v) Y).length = _
    rw [addAll_len Y _ (fun u hu => by rw [addV_len h1]; exact h u (by simp [hu])), addV_len h1]
theorem addAll_at (p : Nat) : ∀ (Y : List (List Bool)) (t : List Int) (hp : p < t.length) (h : ∀ v ∈ Y, v.length = t.length) (hq : p < (addAll t Y).length), (addAll t Y)[p] = t[p] + 2 * cnt p Y - Y.length
  | [], t, hp, h, hq => by simp [addAll, cnt]
  | v :: Y, t, hp, h, hq => by
    have h1 := h v (by simp)
    have ih := addAll_at p Y (addV t v) (by rw [addV_len h1]; exact hp) (fun u hu => by rw [addV_len h1]; exact h u (by simp [hu])) hq
    refine Eq.trans ih ?_
    have hq2 : (addV t v)[p]'(by rw [addV_len h1]; exact hp) = stepV t[p] (v[p]'(by omega)) := by simp [addV]
    have hg : v.getD p false = v[p]'(by omega) := by rw [List.getD_eq_getElem?_getD, List.getElem?_eq_getElem (by omega)]; rfl
    rw [hq2, stepV, cnt, hg, List.length_cons]
    split <;> (push_cast; omega)
def votesV (X : List (List Bool)) : List Bool × Int := if fitV X = 0 ∧ X.length ≠ 0 then ((List.range' 0 (rd_L3 X 0).length).map (fun q => decide (2 * cnt q X > X.length)), 0) else ([], fitV X)
theorem rd3_mem {X : List (List Bool)} (h : X.length ≠ 0) : rd_L3 X 0 ∈ X := by
  rw [show (0 : Int) = ((0 : Nat) : Int) from rfl, rd3 (by omega)]
  exact List.getElem_mem _
theorem votes_is (X : List (List Bool)) (h : X.length ≤ 30) (k : Nat) (hk : 200000 ≤ k) : sign_Votes.f k X = some (votesV X) := by
  unfold sign_Votes.f votesV
  rw [fit_is X h k (by omega)]
  simp only [Option.bind_some]
  obtain ⟨j, rfl⟩ : ∃ j, k = j + 1 := ⟨k - 1, by omega⟩
  by_cases c : fitV X = 0
  · rw [if_pos c, c]
    by_cases c2 : X.length = 0
    · rw [if_neg (by simp [c2]), sign_Votes.j0, if_pos (by simp [c2])]
    · have hf := fitV_ok c
      have h0 := hf _ (rd3_mem c2)
      rw [if_pos ⟨rfl, c2⟩, sign_Votes.j0, if_neg (by simp; intro e; exact c2 (by simp [e])), if_pos (by omega), if_pos (by omega), if_pos (by omega), show (((rd_L3 X 0).length : Nat) : Int).toNat = (rd_L3 X 0).length by omega]
      have hm : X.length * ((rd_L3 X 0).length + 2) + 1 ≤ j := by
        have := Nat.mul_le_mul h (show (rd_L3 X 0).length + 2 ≤ 4098 by omega)
        omega
      have hml := (sign_Votes.mono_l)
      have hr := votes_l0 (rd_L3 X 0).length h0.1 X h X [] (List.replicate (rd_L3 X 0).length 0) rfl (fun v hv => (hf v hv).2) (by simp) (fun x hx => by rw [List.eq_of_mem_replicate hx]; simp)
      have hr2 := le_at (f := fun k => sign_Votes.l0 k (List.replicate (rd_L3 X 0).length 0) X (X.length : Int) 0) (fun k => (hml k).2.1 _ _ _ _) hr hm
      refine Eq.trans hr2 ?_
      congr 2
      have hal := addAll_len X (List.replicate (rd_L3 X 0).length 0) (fun v hv => by rw [(hf v hv).2]; simp)
      apply List.ext_getElem
      · simp only [List.length_map, List.length_range', hal, List.length_replicate]
      · intro p h1 h2
        have hp : p < (rd_L3 X 0).length := by simpa using h2
        have := addAll_at p X (List.replicate (rd_L3 X 0).length 0) (by simpa using hp) (fun v hv => by rw [(hf v hv).2]; simp) (by simpa using h1)
        simp only [List.getElem_map, this, List.getElem_replicate, List.getElem_range']
        rw [show 0 + 1 * p = p by omega]
        exact decide_eq_decide.2 (by omega)
  · rw [if_neg c, if_neg (by simp [c]), sign_Votes.j0, if_pos rfl]
/-! Turns. -/
def ham : List Bool → List Bool → Int
  | a :: A, b :: B => (if a = b then 0 else 1) + ham A B
  | _, _ => 0
theorem ham_le : ∀ a b : List Bool, 0 ≤ ham a b ∧ ham a b ≤ a.length
  | [], b => by simp [ham]
  | a :: A, [] => by simp [ham]; omega
  | a :: A, b :: B => by
    have := ham_le A B
    rw [ham, List.length_cons]
    split <;> omega
theorem turns_l0 : ∀ (D D' C C' : List Bool) (c : Int), D.length = D'.length → C.length = C'.length → (C ++ D).length ≤ 4096 → 0 ≤ c → c ≤ C.length →
    sign_Turns.l0 (D.length + 1) (C' ++ D') c (C ++ D) ((C ++ D).length : Int) (C.length : Int) = some (c + ham D D', 0)
  | [], D', C, C', c, hD, hC, hl, h0, h1 => by
    cases D' with
    | cons x D' => simp at hD
    | nil => rw [sign_Turns.l0, if_neg (by simp)]; simp [ham]
  | x :: D, D', C, C', c, hD, hC, hl, h0, h1 => by
    cases D' with
    | nil => simp at hD
    | cons y D' =>
      have hl1 : (C ++ x :: D).length = C.length + D.length + 1 := by simp; omega
      have hl2 : (C' ++ y :: D').length = C'.length + D'.length + 1 := by simp; omega
      rw [List.length_cons, sign_Turns.l0, if_pos (by omega), if_pos (by omega), if_pos (by omega), if_pos (by omega), rdb_at]
      rw [show rdOf false (C' ++ y :: D') (C.length : Int) = y by rw [hC]; exact rdb_at C' y D', wrap64_of (x := c + 1) (by unfold I64; omega), wrap64_of (x := (C.length : Int) + 1) (by unfold I64; omega)]
      have ih := fun c h0 h1 => turns_l0 D D' (C ++ [x]) (C' ++ [y]) c (by simpa using hD) (by simpa using hC) (by simpa [List.append_assoc] using hl) h0 h1
      rw [show (C ++ [x]) ++ D = C ++ x :: D by simp, show (C' ++ [y]) ++ D' = C' ++ y :: D' by simp, show ((C ++ [x]).length : Int) = (C.length : Int) + 1 by simp] at ih
      rw [ham]
      by_cases c2 : x = y
      · rw [if_neg (by simp [c2]), if_pos c2, ih c h0 (by omega), Int.zero_add]
      · rw [if_pos (by simpa using c2), if_neg c2, ih (c + 1) (by omega) (by omega), show c + 1 + ham D D' = c + (1 + ham D D') by omega]
def turnsV (a b : List Bool) : Int × Int := if fitV [a, b] = 0 then (ham a b, 0) else (0, fitV [a, b])
theorem turns_is (a b : List Bool) (k : Nat) (hk : 200000 ≤ k) : sign_Turns.f k a b = some (turnsV a b) := by
  unfold sign_Turns.f turnsV
  rw [fit_is [a, b] (by simp) k (by simp; omega)]
  simp only [Option.bind_some]
  by_cases c : fitV [a, b] = 0
  · have hf := fitV_ok c
    have ha := hf a (by simp)
    have hb := hf b (by simp)
    rw [if_pos c, if_pos c]
    have := turns_l0 a b [] [] 0 (by omega) rfl (by simpa using ha.1) (by omega) (by simp)
    rw [Int.zero_add] at this
    exact le_at (f := fun k => sign_Turns.l0 k b 0 a (a.length : Int) 0) (fun k => sign_Turns.mono_l k _ _ _ _ _) this (by omega)
  · rw [if_neg c, if_neg c]
theorem fitV_of {X : List (List Bool)} (m : Nat) (hm : m ≤ 4096) (h : ∀ v ∈ X, v.length = m) (h0 : X.length ≠ 0) : fitV X = 0 := by
  unfold fitV
  have e0 := h _ (rd3_mem h0)
  rw [if_neg, if_pos]
  · exact List.all_eq_true.2 fun v hv => decide_eq_true (by rw [h v hv, e0])
  · intro c
    obtain ⟨v, hv, hc⟩ := List.any_eq_true.1 c
    have := of_decide_eq_true hc
    have := h v hv
    omega
theorem fit_three (a b : List Bool) : fitV [a, a, b] = fitV [a, b] := by
  have e1 : rd_L3 [a, a, b] 0 = a := rfl
  have e2 : rd_L3 [a, b] 0 = a := rfl
  unfold fitV
  rw [e1, e2]
  simp [longB, sameB]
theorem fit_turn (a b : List Bool) : fitV [a, b] = fitV [b, a] := by
  have e1 : rd_L3 [b, a] 0 = b := rfl
  have e2 : rd_L3 [a, b] 0 = a := rfl
  unfold fitV
  rw [e1, e2]
  have hL : longB [a, b] = longB [b, a] := by simp [longB, Bool.or_comm]
  have hS : sameB a.length [a, b] = sameB b.length [b, a] := by
    simp only [sameB, List.all_cons, List.all_nil, decide_true, Bool.true_and, Bool.and_true]
    exact decide_eq_decide.2 ⟨fun h => h.symm, fun h => h.symm⟩
  rw [hL, hS]
theorem ham_comm : ∀ a b : List Bool, ham a b = ham b a
  | [], [] => rfl
  | [], b :: B => rfl
  | a :: A, [] => rfl
  | a :: A, b :: B => by
    rw [ham, ham, ham_comm A B]
    by_cases c : a = b
    · rw [if_pos c, if_pos c.symm]
    · rw [if_neg c, if_neg (fun e => c e.symm)]
theorem ham_zero : ∀ a b : List Bool, a.length = b.length → (ham a b = 0 ↔ a = b)
  | [], [], _ => by simp [ham]
  | [], b :: B, h => by simp at h
  | a :: A, [], h => by simp at h
  | a :: A, b :: B, h => by
    have ih := ham_zero A B (by simpa using h)
    have h0 := (ham_le A B).1
    rw [ham]
    by_cases c : a = b
    · rw [if_pos c, Int.zero_add, ih, c]; simp
    · rw [if_neg c]
      refine ⟨fun e => by omega, fun e => absurd (List.cons.inj e).1 c⟩
theorem ham_tri : ∀ a b c : List Bool, a.length = b.length → b.length = c.length → ham a c ≤ ham a b + ham b c
  | [], [], [], _, _ => by simp [ham]
  | a :: A, b :: B, c :: C, h1, h2 => by
    have ih := ham_tri A B C (by simpa using h1) (by simpa using h2)
    rw [ham, ham, ham]
    cases a <;> cases b <;> cases c <;> simp <;> omega
  | [], b :: B, _, h1, _ => by simp at h1
  | a :: A, [], _, h1, _ => by simp at h1
  | [], [], c :: C, _, h2 => by simp at h2
  | a :: A, b :: B, [], _, h2 => by simp at h2
theorem votes_self (X : List (List Bool)) (a : List Bool) (hf : fitV X = 0) (h0 : X.length ≠ 0) (hl : (rd_L3 X 0).length = a.length) (hc : ∀ (p : Nat) (hp : p < a.length), decide (2 * cnt p X > X.length) = a[p]) : votesV X = (a, 0) := by
  unfold votesV
  rw [if_pos ⟨hf, h0⟩, hl]
  congr 1
  apply List.ext_getElem
  · simp
  · intro p h1 h2
    simp only [List.getElem_map, List.getElem_range']
    rw [show 0 + 1 * p = p by omega]
    exact hc p h2
theorem getD_at {a : List Bool} {p : Nat} (h : p < a.length) : a.getD p false = a[p] := by
  rw [List.getD_eq_getElem?_getD, List.getElem?_eq_getElem h]; rfl
theorem SignMost : thrumlaw11_SignMost.Pure := by
  intro a b c h0 h1 h2
  refine ⟨200001, ?_⟩
  obtain ⟨b0, e0, i0⟩ := few_is [a, b, c] (by simp)
  have f0 := le_at (f := fun k => thrumlaw11_few.f k ([] : List Int) [a, b, c]) (fun k => thrumlaw11_few.mono _ _ k) e0 (m := 200001) (by simp)
  unfold thrumlaw11_SignMost.f
  rw [live11]
  simp only [Option.bind_some, if_true]
  rw [show thrumlaw11_few.f 200001 ([] : List Int) [a, b, c] = some b0 from f0]
  simp only [Option.bind_some]
  cases b0 with
  | false => rw [if_neg (by decide)]
  | true =>
    rw [if_pos rfl, votes_is [a, a, b] (by simp) _ (by omega), turns_is _ _ _ (by omega), turns_is _ _ _ (by omega)]
    simp only [Option.bind_some]
    have hv2 : (votesV [a, a, b]).2 = fitV [a, b] := by
      unfold votesV
      by_cases q : fitV [a, a, b] = 0
      · rw [if_pos ⟨q, by simp⟩, ← fit_three, q]
      · rw [if_neg (by simp [q]), fit_three]
    have ht2 : ∀ x y : List Bool, (turnsV x y).2 = fitV [x, y] := by
      intro x y
      unfold turnsV
      by_cases q : fitV [x, y] = 0
      · rw [if_pos q, q]
      · rw [if_neg q]
    have ht1 : (turnsV a b).1 = (turnsV b a).1 := by
      unfold turnsV
      rw [fit_turn b a, ham_comm b a]
    rw [hv2, ht2, ht2, if_pos rfl, if_pos (fit_turn a b), ht1, show ((turnsV b a).1 != (turnsV b a).1) = false by simp, thrumlaw11_SignMost.j0, if_neg (by decide)]
    by_cases q : fitV [a, b] = 0
    · have hf := fitV_ok q
      have ha := hf a (by simp)
      have hb := hf b (by simp)
      have hab : b.length = a.length := by omega
      rw [if_pos q, turns_is _ _ _ (by omega), turns_is _ _ _ (by omega), votes_is [a] (by simp) _ (by omega)]
      simp only [Option.bind_some]
      have g1 : votesV [a, a, b] = (a, 0) := by
        refine votes_self _ _ (by rw [fit_three]; exact q) (by simp) rfl ?_
        intro p hp
        rw [show ([a, a, b] : List (List Bool)).length = 3 from rfl]
        simp only [cnt, getD_at hp, getD_at (show p < b.length by omega)]
        cases a[p] <;> cases b[p]'(by omega) <;> decide
      have g2 : votesV [a] = (a, 0) := by
        refine votes_self _ _ (fitV_of a.length ha.1 (by simp) (by simp)) (by simp) rfl ?_
        intro p hp
        rw [show ([a] : List (List Bool)).length = 1 from rfl]
        simp only [cnt, getD_at hp]
        cases a[p] <;> decide
      rw [g1, g2]
      unfold thrumref05_SameSigns.f
      have t1 : (turnsV b a).1 = ham a b := by rw [← ht1]; unfold turnsV; rw [if_pos q]
      have z := ham_zero a b (by omega)
      rw [t1]
      have e3 : ((ham a b == 0) != decide (a = b)) = false := by
        by_cases w : a = b
        · rw [decide_eq_true w, z.2 w]; rfl
        · rw [decide_eq_false w]
          have : (ham a b == 0) = false := beq_false_of_ne fun e => w (z.1 e)
          rw [this]; rfl
      simp only [decide_true, if_true, Option.bind_some, e3]
      rw [if_neg (by decide)]
      by_cases q2 : fitV [a, c] = 0
      · have hc := (fitV_ok q2) c (by simp)
        have hac : c.length = a.length := hc.2
        have q3 : fitV [b, c] = 0 := fitV_of a.length ha.1 (by
          intro v hv
          rcases List.mem_cons.1 hv with e | hv
          · rw [e]; exact hab
          · rw [List.mem_singleton.1 hv]; exact hac) (by simp)
        have u1 : turnsV a c = (ham a c, 0) := by unfold turnsV; rw [if_pos q2]
        have u2 : turnsV b c = (ham b c, 0) := by unfold turnsV; rw [if_pos q3]
        rw [u1, u2, if_pos rfl, if_pos rfl]
        have l1 := ham_le a b
        have l2 := ham_le b c
        rw [wrap64_of (by unfold I64; omega), decide_eq_true (ham_tri a b c (by omega) (by omega))]
      · rw [if_neg (by rw [ht2]; exact q2)]
    · have g1 : (votesV [a, a, b]).1 = [] := by
        unfold votesV
        rw [if_neg (by rw [fit_three]; simp [q])]
      rw [if_neg q, g1]
      simp
end Go.Proofs.Ytllicjinmlkcfaa.Pure
