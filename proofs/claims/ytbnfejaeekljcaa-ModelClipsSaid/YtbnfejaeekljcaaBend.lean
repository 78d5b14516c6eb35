/- Layer 16 (mlp): how all is to be bent, plainly. -/
import Derived.Test.YtbnfejaeekljcaaMlp
import Derived.Test.YtbnfejaeekljcaaLinear
namespace Go.Proofs.Ytbnfejaeekljcaa.Sp
open Go.RowKit Go.Shelf Go.Proofs.YtbnfejaeekljcaaW.PrintWords
set_option linter.unusedVariables false
/-- One step of bend's closure: the error, and what is to be bent. -/
def addE (e : Int) (x : List Int) (b f : Int) : Int := if e = 0 then (scaleV x b f).2 else e
def addG (e : Int) (gs x : List Int) (b f : Int) : List Int := if e = 0 then gs ++ (scaleV x b f).1 ++ [b] else gs
def byM (last : List Int) (off f n : Int) (i : Nat) (e : Int) : Int × Int := if n > 0 ∧ e = 0 then mulF off (rd last i) f else (0, e)
def stepsM (last x : List Int) (off f : Int) : List Int → Nat → Int → List Int → Int × List Int
  | [], _, e, gs => (e, gs)
  | n :: l, i, e, gs => stepsM last x off f l (i + 1) (addE (byM last off f n i e).2 x (byM last off f n i e).1 f) (addG (byM last off f n i e).2 gs x (byM last off f n i e).1 f)
def endM (last x : List Int) (off f : Int) (h : List Int) : List Int × Int :=
  if addE (stepsM last x off f h 0 0 []).1 h off f ≠ 0 then ([], addE (stepsM last x off f h 0 0 []).1 h off f) else (addG (stepsM last x off f h 0 0 []).1 (stepsM last x off f h 0 0 []).2 h off f, 0)
/-- How all is to be bent for one sample. -/
def bendN (rows : List (List Int)) (last : List Int) (inn : Int) (x : List Int) (y f : Int) : List Int × Int :=
  if (ptellM rows last inn x f).2.2 ≠ 0 then ([], (ptellM rows last inn x f).2.2) else if (res ((ptellM rows last inn x f).2.1 - y)).2 ≠ 0 then ([], (res ((ptellM rows last inn x f).2.1 - y)).2) else
    endM last x (res ((ptellM rows last inn x f).2.1 - y)).1 f (ptellM rows last inn x f).1
theorem hiddenM_lle (rows : List (List Int)) (inn : Int) (v : List Int) (f : Int) : (hiddenM rows inn v f).1.length ≤ rows.length := by
  unfold hiddenM
  split
  · exact Nat.zero_le _
  · split
    · exact Nat.zero_le _
    · split
      · rename_i c
        unfold bendM
        split
        · rw [List.length_map, seqV_mlen _ c, List.length_map]; exact Nat.le_refl _
        · exact Nat.zero_le _
      · exact Nat.zero_le _
theorem scaleV_len (a : List Int) (k f : Int) : (scaleV a k f).1.length ≤ a.length := by
  unfold scaleV
  split
  · split
    · exact Nat.le_trans (seqV_lle _) (by rw [List.length_map]; exact Nat.le_refl _)
    · exact Nat.zero_le _
  · exact Nat.zero_le _
theorem addG_len (e : Int) (gs x : List Int) (b f : Int) : (addG e gs x b f).length ≤ gs.length + x.length + 1 := by
  unfold addG
  have h := scaleV_len x b f
  split
  · rw [List.length_append, List.length_append, List.length_singleton]; omega
  · omega
theorem addG_v64 {e : Int} {gs x : List Int} {b f : Int} (h : V64 gs) (hb : I64 b) : V64 (addG e gs x b f) := by
  unfold addG
  split
  · intro y hy
    rcases List.mem_append.1 hy with hy | hy
    · rcases List.mem_append.1 hy with hy | hy
      · exact h y hy
      · refine (show V64 (scaleV x b f).1 from ?_) y hy
        unfold scaleV
        split
        · split
          · exact seqV_v64 _ (by intro p hp; obtain ⟨z, _, rfl⟩ := List.mem_map.1 hp; exact mulF_i64 _ _ _)
          · intro y hy; cases hy
        · intro y hy; cases hy
    · rw [List.mem_singleton.1 hy]; exact hb
  · exact h
theorem byM_i64 (last : List Int) (off f n : Int) (i : Nat) (e : Int) : I64 (byM last off f n i e).1 := by
  unfold byM
  split
  · exact mulF_i64 _ _ _
  · exact i64_zero
theorem stepsM_few (last x : List Int) (off f : Int) : ∀ (h : List Int) (i : Nat) (e : Int) (gs : List Int), V64 gs → V64 (stepsM last x off f h i e gs).2 ∧ (stepsM last x off f h i e gs).2.length ≤ gs.length + h.length * (x.length + 1)
  | [], _, _, gs, hg => ⟨hg, by simp [stepsM]⟩
  | n :: l, i, e, gs, hg => by
    rw [stepsM]
    obtain ⟨h1, h2⟩ := stepsM_few last x off f l (i + 1) (addE (byM last off f n i e).2 x (byM last off f n i e).1 f) (addG (byM last off f n i e).2 gs x (byM last off f n i e).1 f) (addG_v64 hg (byM_i64 _ _ _ _ _ _))
    refine ⟨h1, Nat.le_trans h2 ?_⟩
    have h3 := addG_len (byM last off f n i e).2 gs x (byM last off f n i e).1 f
    have h4 : (n :: l).length * (x.length + 1) = l.length * (x.length + 1) + (x.length + 1) := by rw [List.length_cons, Nat.add_mul, Nat.one_mul]
    omega
theorem bendN_few (rows : List (List Int)) (last : List Int) (inn : Int) (x : List Int) (y f : Int) (hr : rows.length ≤ 8) (hi : inn ≤ 16) : V64 (bendN rows last inn x y f).1 ∧ (bendN rows last inn x y f).1.length ≤ 5000 := by
  have h0 : V64 ([] : List Int) ∧ ([] : List Int).length ≤ 5000 := ⟨fun y hy => (by cases hy), Nat.zero_le _⟩
  unfold bendN
  split
  · exact h0
  · rename_i c
    split
    · exact h0
    · unfold endM
      split
      · exact h0
      · have hc : (hiddenM rows inn x f).2 = 0 := by
          apply Classical.byContradiction
          intro hn
          apply c
          unfold ptellM
          rw [if_neg hn]
          exact hn
        have hx : (x.length : Int) = inn := by
          apply Classical.byContradiction
          intro hn
          unfold hiddenM at hc
          rw [if_pos hn] at hc
          cases hc
        have hh : (ptellM rows last inn x f).1 = (hiddenM rows inn x f).1 := by unfold ptellM; rw [if_pos hc]
        rw [hh]
        have hl := hiddenM_lle rows inn x f
        obtain ⟨h1, h2⟩ := stepsM_few last x (res ((ptellM rows last inn x f).2.1 - y)).1 f (hiddenM rows inn x f).1 0 0 [] h0.1
        refine ⟨addG_v64 h1 (res_i64 _), Nat.le_trans (addG_len _ _ _ _ _) ?_⟩
        have h3 : (hiddenM rows inn x f).1.length * (x.length + 1) ≤ 8 * 17 := Nat.mul_le_mul (by omega) (by omega)
        rw [List.length_nil] at h2
        omega
theorem rowsM_few {α : Type} {g : α → List Int × Int} (hg : ∀ x, V64 (g x).1 ∧ (g x).1.length ≤ 5000) : ∀ l : List α, (∀ v ∈ (rowsL g l).1, V64 v) ∧ fewV (rowsL g l).1 = true
  | [] => ⟨fun v hv => by simp [rowsL] at hv, rfl⟩
  | x :: l => by
    obtain ⟨h1, h2⟩ := rowsM_few hg l
    simp only [rowsL]
    split
    · split
      · refine ⟨fun v hv => ?_, ?_⟩
        · rcases List.mem_cons.1 hv with e | e
          · rw [e]; exact (hg x).1
          · exact h1 v e
        · simp only [fewV, List.all_cons, Bool.and_eq_true, decide_eq_true_eq] at h2 ⊢; exact ⟨(hg x).2, h2⟩
      · exact ⟨fun v hv => (by cases hv), rfl⟩
    · exact ⟨fun v hv => (by cases hv), rfl⟩
/-- How all is to be bent. -/
def gradM (hid : Int) (w : List Int) (f : Int) (l : List (List Int × Int)) : List Int × Int :=
  if (splitM hid w).2.2 ≠ 0 then ([], (splitM hid w).2.2) else
  if checkM ((lenM hid.toNat w : Nat) - 1) hid w l ≠ 0 then ([], checkM ((lenM hid.toNat w : Nat) - 1) hid w l) else
  if (rowsL (fun s => bendN (splitM hid w).1 (splitM hid w).2.1 ((lenM hid.toNat w : Nat) - 1) s.1 s.2 f) l).2 = 0 then meanL l.length (rowsL (fun s => bendN (splitM hid w).1 (splitM hid w).2.1 ((lenM hid.toNat w : Nat) - 1) s.1 s.2 f) l).1
  else ([], (rowsL (fun s => bendN (splitM hid w).1 (splitM hid w).2.1 ((lenM hid.toNat w : Nat) - 1) s.1 s.2 f) l).2)
theorem checkM_few {inn hid : Int} {w : List Int} {l : List (List Int × Int)} (h : checkM inn hid w l = 0) : l.length ≤ 64 := by
  unfold checkM at h
  split at h
  · cases h
  · split at h
    · cases h
    · split at h
      · cases h
      · omega
theorem stepsM_err (last x : List Int) (off f : Int) : ∀ (h : List Int) (i : Nat) (e : Int) (gs : List Int), e ≠ 0 → stepsM last x off f h i e gs = (e, gs)
  | [], _, _, _, _ => rfl
  | n :: l, i, e, gs, he => by
    have hb : byM last off f n i e = (0, e) := if_neg (fun c => he c.2)
    rw [stepsM, hb, show addE (0, e).2 x (0, e).1 f = e from if_neg he, show addG (0, e).2 gs x (0, e).1 f = gs from if_neg he, stepsM_err last x off f l (i + 1) e gs he]
/-- What comes of the steps, with the last line. -/
def finM (x : List Int) (off f : Int) (h : List Int) (s : Int × List Int) : List Int × Int := if addE s.1 h off f ≠ 0 then ([], addE s.1 h off f) else (addG s.1 s.2 h off f, 0)
theorem endM_fin (last x : List Int) (off f : Int) (h : List Int) : endM last x off f h = finM x off f h (stepsM last x off f h 0 0 []) := rfl
theorem finM_err (x : List Int) (off f : Int) (h : List Int) {e : Int} (gs : List Int) (he : e ≠ 0) : finM x off f h (e, gs) = ([], e) := by
  unfold finM
  rw [show addE (e, gs).1 h off f = e from if_neg he, if_pos he]
/-- How all is to be bent for one sample, of the numbers. -/
def oneM (hid : Int) (w x : List Int) (y f : Int) : List Int × Int :=
  if (splitM hid w).2.2 = 0 then bendN (splitM hid w).1 (splitM hid w).2.1 ((lenM hid.toNat w : Nat) - 1) x y f else ([], (splitM hid w).2.2)
end Go.Proofs.Ytbnfejaeekljcaa.Sp
