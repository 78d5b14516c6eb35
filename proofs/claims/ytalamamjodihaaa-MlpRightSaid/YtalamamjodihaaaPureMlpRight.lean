/- MlpRight: samples that are told right bend nothing; with a last line of zeros but its base the lines are not to be bent. -/
import Derived.Test.YtalamamjodihaaaHRx9
import Derived.Test.YtalamamjodihaaaPLinear
namespace Go.Proofs.Ytalamamjodihaaa.Pure
open Go.RowKit Go.Proofs.Ytalamamjodihaaa.HR Go.Proofs.YtalamamjodihaaaW.PrintWords Go.Proofs.YtalamamjodihaaaW.PrintLast Go.Proofs.YtalamamjodihaaaW.PrintMore Go.Proofs.Ytalamamjodihaaa.Sp
set_option linter.unusedVariables false
set_option linter.unusedSimpArgs false
theorem i64_wf {x : Int} (h : (Lit.int .i64 x).wf = true) : I64 x := by
  have hmin : IntKind.i64.min = -9223372036854775808 := rfl
  have hmax : IntKind.i64.max = 9223372036854775807 := rfl
  simp only [Lit.wf, Bool.and_eq_true, decide_eq_true_eq] at h
  unfold I64; omega
theorem v64_wf {l : List Int} (h : ∀ x ∈ l, (Lit.int .i64 x).wf = true) : V64 l := fun x hx => i64_wf (h x hx)
theorem seqV_okmap {α : Type} (g : α → Int × Int) : ∀ l : List α, (seqV (l.map g)).2 = 0 → (seqV (l.map g)).1 = l.map (fun a => (g a).1) ∧ ∀ a ∈ l, (g a).2 = 0
  | [], _ => ⟨rfl, fun a ha => by cases ha⟩
  | a :: l, h => by
    rw [List.map_cons] at h ⊢
    unfold seqV at h ⊢
    by_cases c : (g a).2 = 0
    · rw [if_pos c] at h ⊢
      by_cases d : (seqV (l.map g)).2 = 0
      · rw [if_pos d]
        obtain ⟨h1, h2⟩ := seqV_okmap g l d
        refine ⟨by rw [List.map_cons, ← h1], fun b hb => ?_⟩
        rcases List.mem_cons.1 hb with rfl | hb
        · exact c
        · exact h2 b hb
      · rw [if_neg d] at h; exact absurd h d
    · rw [if_neg c] at h; exact absurd h c
theorem hiddenM_ok {rows : List (List Int)} {inn : Int} {v : List Int} {f : Int} (h : (hiddenM rows inn v f).2 = 0) :
    (hiddenM rows inn v f).1.length = rows.length ∧ (v.length : Int) = inn ∧ 0 ≤ f ∧ f ≤ 30 := by
  unfold hiddenM at h ⊢
  split
  · rename_i c; rw [if_pos c] at h; cases h
  · rename_i c0; rw [if_neg c0] at h
    split
    · rename_i c; rw [if_pos c] at h; cases h
    · rename_i c1; rw [if_neg c1] at h
      split
      · rename_i c; rw [if_pos c] at h
        have h1 := seqV_mlen _ c
        rw [List.length_map] at h1
        unfold bendM at h ⊢
        split
        · rw [List.length_map, h1]; exact ⟨rfl, by omega, by omega, by omega⟩
        · rename_i c; rw [if_neg c] at h; cases h
      · rename_i c; rw [if_neg c] at h; exact absurd h c
theorem mulF_z {f : Int} (h0 : 0 ≤ f) (h1 : f ≤ 30) (v : Int) : mulF 0 v f = (0, 0) := by
  unfold mulF; rw [if_pos ⟨h0, h1⟩, Int.zero_mul, Int.zero_ediv, res_of i64_zero]
theorem mulF_z2 {f : Int} (h0 : 0 ≤ f) (h1 : f ≤ 30) (v : Int) : mulF v 0 f = (0, 0) := by
  unfold mulF; rw [if_pos ⟨h0, h1⟩, Int.mul_zero, Int.zero_ediv, res_of i64_zero]
theorem rep_add (a b : Nat) : List.replicate a (0 : Int) ++ List.replicate b 0 = List.replicate (a + b) 0 := by rw [List.replicate_append_replicate]
/-- Where the last line's numbers bend nothing. -/
theorem stepsM_zero (last x : List Int) (off f : Int) (h0 : 0 ≤ f) (h1 : f ≤ 30) (hx : x.length ≤ 4096) : ∀ (h : List Int) (i n : Nat), (∀ j, i ≤ j → j < i + h.length → mulF off (rd last (j : Nat)) f = (0, 0)) →
    stepsM last x off f h i 0 (List.replicate n 0) = (0, List.replicate (n + h.length * (x.length + 1)) 0)
  | [], i, n, _ => by simp [stepsM]
  | a :: l, i, n, hz => by
    have hs : scaleV x 0 f = (x.map (fun _ => 0), 0) := scaleV_zero hx h0 h1
    have hb : byM last off f a i 0 = (0, 0) := by
      unfold byM
      split
      · exact hz i (Nat.le_refl _) (by simp)
      · rfl
    have he : addE 0 x 0 f = 0 := by unfold addE; rw [if_pos rfl, hs]
    have hg : addG 0 (List.replicate n 0) x 0 f = List.replicate (n + (x.length + 1)) 0 := by
      unfold addG
      rw [if_pos rfl, hs]
      dsimp only
      rw [List.map_const', show ([0] : List Int) = List.replicate 1 0 from rfl, rep_add, rep_add, Nat.add_assoc]
    rw [stepsM, hb]
    dsimp only
    rw [he, hg, stepsM_zero last x off f h0 h1 hx l (i + 1) (n + (x.length + 1)) (fun j h2 h3 => hz j (by omega) (by rw [List.length_cons]; omega))]
    congr 2
    rw [List.length_cons, Nat.add_mul, Nat.one_mul]
    omega
theorem endM_zero (last x : List Int) (off f : Int) (h0 : 0 ≤ f) (h1 : f ≤ 30) (hx : x.length ≤ 4096) (h : List Int) (hz : ∀ j, j < h.length → mulF off (rd last (j : Nat)) f = (0, 0)) :
    endM last x off f h = if (scaleV h off f).2 ≠ 0 then ([], (scaleV h off f).2) else (List.replicate (h.length * (x.length + 1)) 0 ++ (scaleV h off f).1 ++ [off], 0) := by
  unfold endM
  have hs := stepsM_zero last x off f h0 h1 hx h 0 0 (fun j _ h3 => hz j (by omega))
  rw [List.replicate_zero, Nat.zero_add] at hs
  rw [hs]
  dsimp only
  unfold addE addG
  rw [if_pos rfl, if_pos rfl]
/-- A sample that is told right bends nothing. -/
theorem bendN_right {rows : List (List Int)} {last x : List Int} {inn f : Int} (hi : inn ≤ 16) (hr : rows.length ≤ 8) (h : (ptellM rows last inn x f).2.2 = 0) :
    bendN rows last inn x (ptellM rows last inn x f).2.1 f = (List.replicate (rows.length * (x.length + 1) + rows.length + 1) 0, 0) := by
  have hc : (hiddenM rows inn x f).2 = 0 := by
    apply Classical.byContradiction
    intro hn
    unfold ptellM at h
    rw [if_neg hn] at h
    exact hn h
  obtain ⟨g1, g2, g3, g4⟩ := hiddenM_ok hc
  have hh : (ptellM rows last inn x f).1 = (hiddenM rows inn x f).1 := by unfold ptellM; rw [if_pos hc]
  unfold bendN
  rw [if_neg (not_not_intro h), Int.sub_self, res_of i64_zero, if_neg (not_not_intro rfl), hh, endM_zero last x 0 f g3 g4 (by omega) _ (fun j _ => mulF_z g3 g4 _)]
  have hs : scaleV (hiddenM rows inn x f).1 0 f = ((hiddenM rows inn x f).1.map (fun _ => 0), 0) := scaleV_zero (by omega) g3 g4
  rw [hs]
  dsimp only
  rw [if_neg (not_not_intro rfl), List.map_const', g1, show ([0] : List Int) = List.replicate 1 0 from rfl, rep_add, rep_add]
/-- A row of N numbers that begins with p zeros. -/
def Zp (N p : Nat) (v : List Int) : Prop := v.length = N ∧ v.take p = List.replicate p 0
theorem zp_add {N p : Nat} {a b : List Int} (ha : Zp N p a) (hb : Zp N p b) (h : (addV a b).2 = 0) : Zp N p (addV a b).1 := by
  have e : (addV a b).1 = List.zipWith (fun x y => x + y) a b := by
    unfold addV at h ⊢
    split
    · rename_i c; rw [if_pos c] at h; exact seqV_zip (f := fun x y => x + y) a b h
    · rename_i c; rw [if_neg c] at h; exact absurd h c
  rw [e]
  refine ⟨by rw [List.length_zipWith, ha.1, hb.1, Nat.min_self], ?_⟩
  rw [List.take_zipWith, ha.2, hb.2, List.zipWith_replicate, Nat.min_self]
  rfl
theorem zp_from {N p : Nat} : ∀ (l : List (List Int)) (out : List Int), Zp N p out → (∀ v ∈ l, Zp N p v) → (sumFrom l out).2 = 0 → Zp N p (sumFrom l out).1
  | [], out, h, _, _ => h
  | v :: l, out, h, hl, hs => by
    unfold sumFrom at hs ⊢
    by_cases c : (addV out v).2 = 0
    · rw [if_pos c] at hs ⊢
      exact zp_from l _ (zp_add h (hl v (by simp)) c) (fun u hu => hl u (by simp [hu])) hs
    · rw [if_neg c] at hs; exact absurd hs c
theorem zp_mean {N p : Nat} {n : Int} {l : List (List Int)} (hn : 1 ≤ n) (hl : 0 < l.length) (h : ∀ v ∈ l, Zp N p v) (hm : (meanL n l).2 = 0) : Zp N p (meanL n l).1 := by
  unfold meanL at hm ⊢
  rw [if_neg (by omega)] at hm ⊢
  by_cases c : (sumsV l).2 = 0
  · rw [if_pos c] at hm ⊢
    have hs : Zp N p (sumsV l).1 := by
      cases l with
      | nil => simp at hl
      | cons v l =>
        simp only [sumsV] at c ⊢
        by_cases d : checkE v = 0
        · rw [if_pos d] at c ⊢
          exact zp_from l v (h v (by simp)) (fun u hu => h u (by simp [hu])) c
        · rw [if_neg d] at c; exact absurd c d
    obtain ⟨h1, -⟩ := seqV_okmap (fun x => divF x n 0) _ hm
    rw [h1]
    refine ⟨by rw [List.length_map]; exact hs.1, ?_⟩
    have hd : (divF 0 n 0).1 = 0 := by
      unfold divF
      rw [if_neg (by omega)]
      simp only [Int.zero_mul, divQ]
      rw [if_pos (by omega), Int.zero_ediv, res_of i64_zero]
    rw [← List.map_take, hs.2, List.map_replicate, hd]
  · rw [if_neg c] at hm; exact absurd hm c
theorem rowsL_all {α : Type} {g : α → List Int × Int} : ∀ l : List α, (rowsL g l).2 = 0 → (rowsL g l).1 = l.map (fun s => (g s).1) ∧ ∀ s ∈ l, (g s).2 = 0
  | [], _ => ⟨rfl, fun s hs => by cases hs⟩
  | x :: l, h => by
    simp only [rowsL] at h ⊢
    by_cases c : (g x).2 = 0
    · rw [if_pos c] at h ⊢
      by_cases d : (rowsL g l).2 = 0
      · rw [if_pos d]
        obtain ⟨h1, h2⟩ := rowsL_all l d
        refine ⟨by rw [List.map_cons, ← h1], fun s hs => ?_⟩
        rcases List.mem_cons.1 hs with rfl | hs
        · exact c
        · exact h2 s hs
      · rw [if_neg d] at h; exact absurd h d
    · rw [if_neg c] at h; exact absurd h c
theorem scaleV_ok {a : List Int} {b f : Int} (h : (scaleV a b f).2 = 0) : (scaleV a b f).1.length = a.length := by
  unfold scaleV at h ⊢
  split
  · rename_i c; rw [if_pos c] at h
    split
    · rename_i c; rw [if_pos c] at h
      rw [seqV_mlen _ h, List.length_map]
    · rename_i c; rw [if_neg c] at h; exact absurd h c
  · rename_i c; rw [if_neg c] at h; exact absurd h c
/-- With a last line of zeros but its base the lines are not to be bent. -/
theorem bendN_flat {rows : List (List Int)} {last x : List Int} {inn y f : Int} (hi : inn ≤ 16) (hr : rows.length ≤ 8) (hz : ∀ j : Nat, j < rows.length → rd last (j : Nat) = 0) (h : (bendN rows last inn x y f).2 = 0) :
    (x.length : Int) = inn ∧ Zp (rows.length * (x.length + 1) + rows.length + 1) (rows.length * (x.length + 1)) (bendN rows last inn x y f).1 := by
  unfold bendN at h ⊢
  by_cases c : (ptellM rows last inn x f).2.2 = 0
  · rw [if_neg (not_not_intro c)] at h ⊢
    have hc : (hiddenM rows inn x f).2 = 0 := by
      apply Classical.byContradiction
      intro hn
      unfold ptellM at c
      rw [if_neg hn] at c
      exact hn c
    obtain ⟨g1, g2, g3, g4⟩ := hiddenM_ok hc
    have hh : (ptellM rows last inn x f).1 = (hiddenM rows inn x f).1 := by unfold ptellM; rw [if_pos hc]
    by_cases d : (res ((ptellM rows last inn x f).2.1 - y)).2 = 0
    · rw [if_neg (not_not_intro d), hh, endM_zero _ _ _ _ g3 g4 (by omega) _ (fun j hj => by rw [hz j (by omega)]; exact mulF_z2 g3 g4 _)] at h ⊢
      by_cases e : (scaleV (hiddenM rows inn x f).1 (res ((ptellM rows last inn x f).2.1 - y)).1 f).2 = 0
      · rw [if_neg (not_not_intro e)]
        have hl := scaleV_ok e
        refine ⟨g2, ?_, ?_⟩
        · rw [List.length_append, List.length_append, List.length_replicate, List.length_singleton, hl, g1]
        · rw [g1, List.append_assoc, List.take_append_of_le_length (by rw [List.length_replicate]; exact Nat.le_refl _), List.take_of_length_le (by rw [List.length_replicate]; exact Nat.le_refl _)]
      · rw [if_pos e] at h; exact absurd h e
    · rw [if_pos d] at h; exact absurd h d
  · rw [if_pos c] at h; exact absurd h c
theorem dimM_good {k m : Nat} (hk1 : 1 ≤ k) (hk8 : k ≤ 8) (hm2 : 2 ≤ m) (hm17 : m ≤ 17) : dimM ((m : Int) - 1) k = (((k * m + k + 1 : Nat) : Int), 0) := by
  unfold dimM
  rw [if_neg (fun h => h.elim (fun h => by omega) (fun h => h.elim (fun h => by omega) (fun h => by unfold badHid at h; omega)))]
  have h3 : ((k * m : Nat) : Int) = (k : Int) * m := by push_cast; rfl
  rw [show (m : Int) - 1 + 1 = m by omega, ← h3]
  push_cast
  rfl
/-- Samples that are told right bend nothing. -/
theorem gradM_right {k m : Nat} {w : List Int} {f : Int} {l : List (List Int × Int)} (hk1 : 1 ≤ k) (hk8 : k ≤ 8) (hm2 : 2 ≤ m) (hm17 : m ≤ 17) (hkm : k * m + k + 1 = w.length) (hlm : lenM (k : Int).toNat w = m) (hsp : splitM k w = (rowsM k m w, w.drop (k * m), 0))
    (hl : 1 ≤ l.length) (hl2 : l.length ≤ 64) (ht : ∀ s ∈ l, (ptellM (rowsM k m w) (w.drop (k * m)) ((m : Int) - 1) s.1 f).2 = (s.2, 0)) : gradM k w f l = (List.replicate w.length 0, 0) := by
  have hrl := rowsM_len k m w
  have hx : ∀ s ∈ l, (s.1.length : Int) = (m : Int) - 1 := fun s hs => by
    have h := ht s hs
    have hc : (hiddenM (rowsM k m w) ((m : Int) - 1) s.1 f).2 = 0 := by
      apply Classical.byContradiction
      intro hn
      have h2 := congrArg Prod.snd h
      unfold ptellM at h2
      rw [if_neg hn] at h2
      exact hn h2
    exact (hiddenM_ok hc).2.1
  have hck : checkM ((m : Int) - 1) k w l = 0 := by
    unfold checkM
    rw [dimM_good hk1 hk8 hm2 hm17, if_neg (not_not_intro rfl), if_neg (fun h => h.elim (fun h => h (by rw [hkm])) (fun h => h hx)), if_neg (by omega)]
  have hr : ∀ s ∈ l, bendN (rowsM k m w) (w.drop (k * m)) ((m : Int) - 1) s.1 s.2 f = (List.replicate w.length 0, 0) := fun s hs => by
    have h := ht s hs
    have hb := bendN_right (rows := rowsM k m w) (last := w.drop (k * m)) (x := s.1) (inn := (m : Int) - 1) (f := f) (by omega) (by rw [hrl]; exact hk8) (by rw [h])
    rw [h] at hb
    dsimp only at hb
    rw [hb, hrl, show s.1.length + 1 = m by have := hx s hs; omega, hkm]
  unfold gradM
  rw [hsp, hlm]
  dsimp only
  rw [if_neg (not_not_intro rfl), hck, if_neg (not_not_intro rfl), rowsL_ok l (fun s hs => by rw [hr s hs])]
  dsimp only
  rw [if_pos rfl]
  have hmap : (l.map fun s => (bendN (rowsM k m w) (w.drop (k * m)) ((m : Int) - 1) s.1 s.2 f).1) = List.replicate l.length (List.replicate w.length 0) := by
    refine List.eq_replicate_iff.2 ⟨by rw [List.length_map], fun v hv => ?_⟩
    obtain ⟨s, hs, rfl⟩ := List.mem_map.1 hv
    rw [hr s hs]
  have hb : k * m ≤ 8 * 17 := Nat.mul_le_mul hk8 hm17
  rw [hmap, meanL_zeros (by omega) (by omega) _ (by omega)]
theorem gradM_flat {k m : Nat} {w : List Int} {f : Int} {l : List (List Int × Int)} (hk1 : 1 ≤ k) (hk8 : k ≤ 8) (hm2 : 2 ≤ m) (hm17 : m ≤ 17) (hkm : k * m + k + 1 = w.length) (hz : ∀ j : Nat, j < k → rd (w.drop (k * m)) (j : Nat) = 0) (hl : 1 ≤ l.length) (h : (gradM k w f l).2 = 0) : Zp w.length (k * m) (gradM k w f l).1 := by
  have hlm : lenM (k : Int).toNat w = m := by rw [Int.toNat_natCast]; exact lenM_of hk1 hkm
  have hg : goodNet k w := ⟨by rw [Int.toNat_natCast] at hlm; omega, by rw [Int.toNat_natCast] at hlm; omega, by rw [Int.toNat_natCast] at hlm; rw [hlm]; exact hkm⟩
  have hsp : splitM k w = (rowsM k m w, w.drop (k * m), 0) := by
    unfold splitM
    rw [if_neg (by unfold badHid; omega), Int.toNat_natCast, if_pos hg]
    rw [Int.toNat_natCast] at hlm
    rw [hlm]
  have hrl := rowsM_len k m w
  unfold gradM at h ⊢
  rw [hsp, hlm] at h ⊢
  dsimp only at h ⊢
  rw [if_neg (not_not_intro rfl)] at h ⊢
  by_cases c : checkM ((m : Int) - 1) k w l = 0
  · rw [if_neg (not_not_intro c)] at h ⊢
    by_cases d : (rowsL (fun s : List Int × Int => bendN (rowsM k m w) (w.drop (k * m)) ((m : Int) - 1) s.1 s.2 f) l).2 = 0
    · rw [if_pos d] at h ⊢
      obtain ⟨h1, h2⟩ := rowsL_all l d
      rw [h1] at h ⊢
      refine zp_mean (by omega) (by rw [List.length_map]; omega) (fun v hv => ?_) h
      obtain ⟨s, hs, rfl⟩ := List.mem_map.1 hv
      obtain ⟨g1, g2⟩ := bendN_flat (rows := rowsM k m w) (last := w.drop (k * m)) (x := s.1) (inn := (m : Int) - 1) (y := s.2) (f := f) (by omega) (by rw [hrl]; exact hk8) (fun j hj => hz j (by omega)) (h2 s hs)
      rw [hrl, show s.1.length + 1 = m by omega, hkm] at g2
      exact g2
    · rw [if_neg d] at h; exact absurd h d
  · rw [if_pos c] at h; exact absurd h c
theorem right_l3 (n : Nat) (hn : n ≤ 4096) : ∀ d i : Nat, d + i = n → Evt (fun K => thrumlaw16_MlpRight.l3 K true (List.replicate n 0) ((List.replicate n (0 : Int)).length : Int) (i : Int)) := by
  intro d
  have hlen : (List.replicate n (0 : Int)).length = n := by simp
  induction d with
  | zero =>
    intro i hd
    refine Evt.done (fun K => ?_)
    rw [thrumlaw16_MlpRight.l3.eq_2, if_neg (by omega)]
  | succ d ih =>
    intro i hd
    have e : rd (List.replicate n (0 : Int)) (i : Int) = 0 := by rw [rd_nat (by omega)]; simp
    refine Evt.step (ih (i + 1) (by omega)) (fun K => ?_)
    rw [thrumlaw16_MlpRight.l3.eq_2, if_pos (by omega), if_pos (by omega), if_pos (by omega), e, if_pos rfl, wrap64_of (x := (i : Int) + 1) (by unfold I64; omega)]
    rfl
def fl (w : List Int) (p i : Nat) : List Int := w.take p ++ List.replicate (i - p) 0 ++ w.drop i
theorem fl_len {w : List Int} {p i : Nat} (h1 : p ≤ i) (h2 : i ≤ w.length) : (fl w p i).length = w.length := by
  unfold fl
  rw [List.length_append, List.length_append, List.length_replicate, List.length_take, List.length_drop]
  omega
theorem fl_set {w : List Int} {p i : Nat} (h1 : p ≤ i) (h2 : i < w.length) : (fl w p i).set i 0 = fl w p (i + 1) := by
  unfold fl
  have hl : (w.take p ++ List.replicate (i - p) (0 : Int)).length = i := by rw [List.length_append, List.length_replicate, List.length_take]; omega
  rw [List.set_append_right _ _ (by omega), hl, Nat.sub_self, List.drop_eq_getElem_cons h2, List.set_cons_zero, show i + 1 - p = (i - p) + 1 by omega, List.replicate_succ']
  simp
theorem fl_v64 {w : List Int} {p i : Nat} (h : V64 w) : V64 (fl w p i) := by
  intro y hy
  unfold fl at hy
  rcases List.mem_append.1 hy with hy | hy
  · rcases List.mem_append.1 hy with hy | hy
    · exact h y (List.mem_of_mem_take hy)
    · rw [(List.mem_replicate.1 hy).2]; exact i64_zero
  · exact h y (List.mem_of_mem_drop hy)
theorem right_l2 {k m : Nat} (w : List Int) (f : Int) (l : List S26) (hw : V64 w) (hlv : ∀ s ∈ l, V64 s.f0 ∧ I64 s.f1) (hk1 : 1 ≤ k) (hk8 : k ≤ 8) (hm2 : 2 ≤ m) (hm17 : m ≤ 17) (hkm : k * m + k + 1 = w.length) (hl : 1 ≤ l.length) : ∀ d i : Nat, d + i = w.length - 1 → k * m ≤ i →
    Evt (fun K => thrumlaw16_MlpRight.l2 K (k : Int) w f l true (fl w (k * m) i) ((k * m : Nat) : Int) (i : Int)) := by
  have hb : k * m ≤ 8 * 17 := Nat.mul_le_mul hk8 hm17
  have ew : wrap64 ((w.length : Int) - 1) = (w.length : Int) - 1 := wrap64_of (by unfold I64; omega)
  intro d
  induction d with
  | zero =>
    intro i hd hi
    have hlen := fl_len (w := w) (p := k * m) (i := i) hi (by omega)
    have hgr : mlp_Grad.f (k : Int) (fl w (k * m) i) f l = some (gradM k (fl w (k * m) i) f (l.map sm)) := if_pos ⟨fl_v64 hw, hlv⟩
    by_cases c : (gradM k (fl w (k * m) i) f (l.map sm)).2 = 0
    · have hz : ∀ j : Nat, j < k → rd ((fl w (k * m) i).drop (k * m)) (j : Nat) = 0 := by
        intro j hj
        have hd2 : (fl w (k * m) i).drop (k * m) = List.replicate (i - k * m) 0 ++ w.drop i := by
          unfold fl
          rw [List.append_assoc, List.drop_append_of_le_length (by rw [List.length_take]; omega), List.drop_of_length_le (by rw [List.length_take]; omega), List.nil_append]
        rw [hd2, rd_nat (by rw [List.length_append, List.length_replicate, List.length_drop]; omega), List.getElem_append_left (by rw [List.length_replicate]; omega)]
        simp
      have hp := gradM_flat hk1 hk8 hm2 hm17 (by rw [hlen]; exact hkm) hz (by rw [List.length_map]; exact hl) c
      rw [hlen] at hp
      refine Evt.step (right_l3 (k * m) (by omega) (k * m) 0 (by omega)) (fun K => ?_)
      rw [thrumlaw16_MlpRight.l2.eq_2, ew, if_neg (by omega), hgr, Option.bind_some, if_pos c, if_pos (by rw [hp.1]), if_pos (by omega), if_pos (by rw [hp.1]; omega), Int.toNat_natCast, hp.2, Option.bind_some]
      rfl
    · refine Evt.done (fun K => ?_)
      rw [thrumlaw16_MlpRight.l2.eq_2, ew, if_neg (by omega), hgr, Option.bind_some, if_neg c]
  | succ d ih =>
    intro i hd hi
    have hlen := fl_len (w := w) (p := k * m) (i := i) hi (by omega)
    refine Evt.step (ih (i + 1) (by omega) (by omega)) (fun K => ?_)
    rw [thrumlaw16_MlpRight.l2.eq_2, ew, if_pos (by omega), if_pos (by omega), if_pos (by rw [hlen]; omega), Int.toNat_natCast, fl_set hi (by omega), wrap64_of (x := (i : Int) + 1) (by unfold I64; omega)]
    rfl
theorem right_l1 {k m : Nat} (w : List Int) (f : Int) (l : List S26) (hw : V64 w) (hlv : ∀ s ∈ l, V64 s.f0 ∧ I64 s.f1) (hk1 : 1 ≤ k) (hk8 : k ≤ 8) (hm2 : 2 ≤ m) (hm17 : m ≤ 17) (hkm : k * m + k + 1 = w.length) (hl : 1 ≤ l.length) : ∀ d i : Nat, d + i = w.length →
    Evt (fun K => thrumlaw16_MlpRight.l1 K (k : Int) w f l true (List.replicate w.length 0) ((List.replicate w.length (0 : Int)).length : Int) (i : Int)) := by
  have hb : k * m ≤ 8 * 17 := Nat.mul_le_mul hk8 hm17
  have hlen : (List.replicate w.length (0 : Int)).length = w.length := by simp
  have ew : wrap64 ((w.length : Int) - 1) = (w.length : Int) - 1 := wrap64_of (by unfold I64; omega)
  have ew2 : wrap64 ((w.length : Int) - 1 - k) = ((k * m : Nat) : Int) := by rw [wrap64_of (by unfold I64; omega)]; omega
  intro d
  induction d with
  | zero =>
    intro i hd
    have h2 := right_l2 w f l hw hlv hk1 hk8 hm2 hm17 hkm hl (w.length - 1 - k * m) (k * m) (by omega) (Nat.le_refl _)
    have hf : fl w (k * m) (k * m) = w := by unfold fl; rw [Nat.sub_self, List.replicate_zero, List.append_nil, List.take_append_drop]
    rw [hf] at h2
    refine Evt.step (Evt.step h2 (F := fun K => thrumlaw16_MlpRight.j4 K (k : Int) w f l true w ((k * m : Nat) : Int) false) (fun K => ?_)) (fun K => ?_)
    · rw [thrumlaw16_MlpRight.j4.eq_2, if_neg (by decide)]
    · rw [thrumlaw16_MlpRight.l1.eq_2, if_neg (by omega), if_pos (by rw [List.length_nil]; omega), List.nil_append, Option.bind_some, if_neg (by omega), ew, ew2, decide_eq_false (show ¬ (((k * m : Nat) : Int) < 0) by omega)]
  | succ d ih =>
    intro i hd
    have e : rd (List.replicate w.length (0 : Int)) (i : Int) = 0 := by rw [rd_nat (by omega)]; simp
    refine Evt.step (ih (i + 1) (by omega)) (fun K => ?_)
    rw [thrumlaw16_MlpRight.l1.eq_2, if_pos (by omega), if_pos (by omega), if_pos (by omega), e, if_pos rfl, wrap64_of (x := (i : Int) + 1) (by unfold I64; omega)]
    rfl
/-- A sample that is told right. -/
def rightM (h : Int) (w : List Int) (f : Int) (s : S26) : S26 := ⟨s.f0, (tellM h w s.f0 f).1⟩
theorem tellM_i64 (o : Int) (w x : List Int) (f : Int) : I64 (tellM o w x f).1 := by
  unfold tellM
  split
  · unfold ptellM
    split
    · exact tellL_i64 _ _ _
    · exact i64_zero
  · exact i64_zero
theorem right_end (h : Int) (w : List Int) (f : Int) (l : List S26) (hw : V64 w) (hlv : ∀ s ∈ l, V64 s.f0 ∧ I64 s.f1) (hl : 1 ≤ l.length) (hl2 : l.length ≤ 64) (ht : ∀ s ∈ l, (tellM h w s.f0 f).2 = 0) :
    Evt (fun K => (mlp_Grad.f h w f (l.map (rightM h w f))).bind fun bt186 => (if bt186.2 = 0 then (thrumlaw16_MlpRight.j2 K h w f l true bt186.1 ((bt186.1.length : Int) != (w.length : Int))) else (thrumlaw16_MlpRight.j2 K h w f l true bt186.1 true))) := by
  have hs0 := ht _ (List.getElem_mem (show 0 < l.length by omega))
  by_cases s : (splitM h w).2.2 = 0
  · obtain ⟨k, m, rfl, hk1, hk8, hm2, hm17, hkm, hlm, hsp⟩ := splitM_good s
    have htl : ∀ x : List Int, tellM k w x f = (ptellM (rowsM k m w) (w.drop (k * m)) ((m : Int) - 1) x f).2 := fun x => by unfold tellM; rw [if_pos s, hlm, hsp]
    have hg := gradM_right (f := f) (l := (l.map (rightM k w f)).map sm) hk1 hk8 hm2 hm17 hkm hlm hsp (by rw [List.length_map, List.length_map]; exact hl) (by rw [List.length_map, List.length_map]; exact hl2) (fun s hs => by
      obtain ⟨y, hy, rfl⟩ := List.mem_map.1 hs
      obtain ⟨z, hz, rfl⟩ := List.mem_map.1 hy
      show (ptellM _ _ _ z.f0 f).2 = ((tellM k w z.f0 f).1, 0)
      rw [← htl]
      exact Prod.ext rfl (ht z hz))
    have hgr : mlp_Grad.f (k : Int) w f (l.map (rightM k w f)) = some (List.replicate w.length 0, 0) := (if_pos ⟨hw, fun s hs => by
      obtain ⟨z, hz, rfl⟩ := List.mem_map.1 hs
      exact ⟨(hlv z hz).1, tellM_i64 _ _ _ _⟩⟩ : mlp_Grad.f (k : Int) w f (l.map (rightM k w f)) = some (gradM k w f ((l.map (rightM k w f)).map sm))).trans (congrArg some hg)
    refine Evt.same (Evt.step (right_l1 w f l hw hlv hk1 hk8 hm2 hm17 hkm hl w.length 0 (by omega)) (F := fun K => thrumlaw16_MlpRight.j2 K (k : Int) w f l true (List.replicate w.length 0) false) (fun K => ?_)) (fun K => ?_)
    · rw [thrumlaw16_MlpRight.j2.eq_2, if_neg (by decide)]
      rfl
    · rw [hgr, Option.bind_some, if_pos rfl, List.length_replicate, show ((w.length : Int) != (w.length : Int)) = false from bne_eq_false_iff_eq.2 rfl]
  · exfalso
    unfold tellM at hs0
    rw [if_neg s] at hs0
    exact s hs0
theorem right_l0 (h : Int) (w : List Int) (f : Int) (l : List S26) (hw : V64 w) (hlv : ∀ s ∈ l, V64 s.f0 ∧ I64 s.f1) (hl : 1 ≤ l.length) (hl2 : l.length ≤ 64) : ∀ d i : Nat, d + i = l.length → (∀ s ∈ l.take i, (tellM h w s.f0 f).2 = 0) →
    Evt (fun K => thrumlaw16_MlpRight.l0 K h w f l true ((l.take i).map (rightM h w f)) l (l.length : Int) (i : Int)) := by
  intro d
  induction d with
  | zero =>
    intro i hd ht
    rw [List.take_of_length_le (by omega)] at ht
    refine Evt.step (right_end h w f l hw hlv hl hl2 ht) (fun K => ?_)
    rw [thrumlaw16_MlpRight.l0.eq_2, if_neg (by omega), List.take_of_length_le (by omega)]
  | succ d ih =>
    intro i hd ht
    have hi : i < l.length := by omega
    have hm := List.getElem_mem hi
    have hte : mlp_Tell.f h w l[i].f0 f = some (tellM h w l[i].f0 f) := mlp_Tell.of _ _ _ _ ⟨hw, (hlv _ hm).1⟩
    by_cases c : (tellM h w l[i].f0 f).2 = 0
    · refine Evt.step (ih (i + 1) (by omega) (fun s hs => ?_)) (fun K => ?_)
      · rw [List.take_add_one, List.getElem?_eq_getElem hi] at hs
        rcases List.mem_append.1 hs with hs | hs
        · exact ht s hs
        · rw [Option.toList_some, List.mem_singleton] at hs; rw [hs]; exact c
      · rw [thrumlaw16_MlpRight.l0.eq_2, if_pos (by omega), if_pos (by omega), if_pos (by omega), rd_sm hi, hte, Option.bind_some, if_pos c, if_pos (by rw [List.length_map, List.length_take]; omega), wrap64_of (x := (i : Int) + 1) (by unfold I64; omega), List.take_add_one, List.getElem?_eq_getElem hi, List.map_append]
        rfl
    · refine Evt.done (fun K => ?_)
      rw [thrumlaw16_MlpRight.l0.eq_2, if_pos (by omega), if_pos (by omega), if_pos (by omega), rd_sm hi, hte, Option.bind_some, if_neg c]
theorem MlpRight : thrumlaw16_MlpRight.Pure := by
  intro h w f l wh hm hs wl wf wx
  have hw := v64_wf wl
  have hlv : ∀ s ∈ l, V64 s.f0 ∧ I64 s.f1 := fun s hs => ⟨v64_wf (wx.2 s hs).1.2, i64_wf (wx.2 s hs).2.1⟩
  refine Evt.get ?_
  obtain ⟨b, hF⟩ : ∃ b, thrumref14_Few.f w l = some b := ⟨_, rfl⟩
  have hjt : Evt (fun K => thrumlaw16_MlpRight.j0 K h w f l true true) := Evt.done (fun K => by rw [thrumlaw16_MlpRight.j0.eq_2, if_pos rfl])
  refine Evt.same (G := fun K => if b = true then (if (l.length : Int) = 0 then (thrumlaw16_MlpRight.j0 K h w f l true true) else (thrumlaw16_MlpRight.j0 K h w f l true (decide ((l.length : Int) > 64)))) else (thrumlaw16_MlpRight.j0 K h w f l true true)) ?_ (fun K => ?_)
  · cases b with
    | false => exact Evt.same hjt (fun K => by rw [if_neg (by decide)])
    | true =>
      by_cases c : (l.length : Int) = 0
      · exact Evt.same hjt (fun K => by rw [if_pos rfl, if_pos c])
      · by_cases c2 : (l.length : Int) > 64
        · exact Evt.same hjt (fun K => by rw [if_pos rfl, if_neg c, decide_eq_true c2])
        · refine Evt.same (Evt.step (right_l0 h w f l hw hlv (by omega) (by omega) l.length 0 (by omega) (fun s hs => by simp at hs)) (F := fun K => thrumlaw16_MlpRight.j0 K h w f l true false) (fun K => ?_)) (fun K => ?_)
          · rw [thrumlaw16_MlpRight.j0.eq_2, if_neg (by decide)]
            rfl
          · rw [if_pos rfl, if_neg c, decide_eq_false c2]
  · unfold thrumlaw16_MlpRight.f
    rw [show thrumlaw16_live.f = some true from rfl, Option.bind_some, if_pos rfl, hF, Option.bind_some]
end Go.Proofs.Ytalamamjodihaaa.Pure
