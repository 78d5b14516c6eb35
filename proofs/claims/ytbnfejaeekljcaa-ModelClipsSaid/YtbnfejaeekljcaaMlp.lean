/- Layer 16 (mlp): what its functions tell, plainly. -/
import Derived.Test.YtbnfejaeekljcaaSplit
import Derived.Test.YtbnfejaeekljcaaLinear
namespace Go.Proofs.Ytbnfejaeekljcaa.Sp
open Go.RowKit Go.Shelf Go.Proofs.YtbnfejaeekljcaaW.PrintWords
/-- What is below 0 is 0. -/
def bendM (z : List Int) : List Int × Int := if z.length ≤ 4096 then (z.map fun n => max n 0, 0) else ([], 3)
/-- What is hidden: all that the lines tell, bent, or the first error. -/
def hiddenM (rows : List (List Int)) (inn : Int) (v : List Int) (f : Int) : List Int × Int :=
  if (v.length : Int) ≠ inn then ([], 4) else if f < 0 ∨ f > 30 then ([], 1) else
    if (seqV (rows.map fun r => tellL r v f)).2 = 0 then bendM (seqV (rows.map fun r => tellL r v f)).1 else ([], (seqV (rows.map fun r => tellL r v f)).2)
/-- So many may not be hidden. -/
def badHid (h : Int) : Prop := h < 1 ∨ h > 8
instance (h : Int) : Decidable (badHid h) := by unfold badHid; infer_instance
def dimM (inn hid : Int) : Int × Int := if inn < 1 ∨ inn > 16 ∨ badHid hid then (0, 1) else (hid * (inn + 1) + hid + 1, 0)
theorem dimM_bad {n out : Int} (h : (dimM n out).2 ≠ 0) : (dimM n out).2 = 1 := by
  unfold dimM at h ⊢
  split
  · rfl
  · rename_i c; rw [if_neg c] at h; exact absurd rfl h
/-- Whether they go with samples. -/
def checkM (inn hid : Int) (w : List Int) (l : List (List Int × Int)) : Int :=
  if (dimM inn hid).2 ≠ 0 then 1 else if (w.length : Int) ≠ (dimM inn hid).1 ∨ ¬ ∀ s ∈ l, (s.1.length : Int) = inn then 4 else if l.length = 0 ∨ l.length > 64 then 1 else 0
/-- How many numbers a line has, with its base. -/
def lenM (k : Nat) (w : List Int) : Nat := (w.length - 1) / k - 1
/-- The numbers are two layers of so many hidden. -/
def goodNet (k : Nat) (w : List Int) : Prop := 2 ≤ lenM k w ∧ lenM k w ≤ 17 ∧ k * lenM k w + k + 1 = w.length
instance (k : Nat) (w : List Int) : Decidable (goodNet k w) := by unfold goodNet; infer_instance
/-- The lines, and the last one. -/
def rowsM (k m : Nat) (w : List Int) : List (List Int) := (List.range k).map (rowAt m w)
def splitM (hid : Int) (w : List Int) : List (List Int) × List Int × Int :=
  if badHid hid then ([], [], 1) else if goodNet hid.toNat w then (rowsM hid.toNat (lenM hid.toNat w) w, w.drop (hid.toNat * lenM hid.toNat w), 0) else ([], [], 4)
/-- What is hidden, of the numbers. -/
def hidM (hid : Int) (w x : List Int) (f : Int) : List Int × Int :=
  if (splitM hid w).2.2 = 0 then hiddenM (splitM hid w).1 ((lenM hid.toNat w : Nat) - 1) x f else ([], (splitM hid w).2.2)
/-- What is told, of the lines and the last one. -/
def ptellM (rows : List (List Int)) (last : List Int) (inn : Int) (v : List Int) (f : Int) : List Int × Int × Int :=
  if (hiddenM rows inn v f).2 = 0 then ((hiddenM rows inn v f).1, (tellL last (hiddenM rows inn v f).1 f).1, (tellL last (hiddenM rows inn v f).1 f).2) else ([], 0, (hiddenM rows inn v f).2)
/-- What is told, of the numbers. -/
def tellM (hid : Int) (w x : List Int) (f : Int) : Int × Int :=
  if (splitM hid w).2.2 = 0 then (ptellM (splitM hid w).1 (splitM hid w).2.1 ((lenM hid.toNat w : Nat) - 1) x f).2 else (0, (splitM hid w).2.2)
set_option linter.unusedVariables false
theorem badHid_not {h : Int} (c : ¬ badHid h) : ∃ k : Nat, h = k ∧ 1 ≤ k ∧ k ≤ 8 := by unfold badHid at c; exact ⟨h.toNat, by omega, by omega, by omega⟩
theorem splitM_good {hid : Int} {w : List Int} (h : (splitM hid w).2.2 = 0) :
    ∃ k m : Nat, hid = k ∧ 1 ≤ k ∧ k ≤ 8 ∧ 2 ≤ m ∧ m ≤ 17 ∧ k * m + k + 1 = w.length ∧ lenM hid.toNat w = m ∧ splitM hid w = (rowsM k m w, w.drop (k * m), 0) := by
  by_cases c : badHid hid
  · unfold splitM at h; rw [if_pos c] at h; cases h
  · obtain ⟨k, rfl, h1, h8⟩ := badHid_not c
    by_cases g : goodNet k w
    · have hs : splitM k w = (rowsM k (lenM k w) w, w.drop (k * lenM k w), 0) := by unfold splitM; rw [if_neg c, Int.toNat_natCast, if_pos g]
      exact ⟨k, lenM k w, rfl, h1, h8, g.1, g.2.1, g.2.2, by rw [Int.toNat_natCast], hs⟩
    · unfold splitM at h; rw [if_neg c, Int.toNat_natCast, if_neg g] at h; cases h
theorem splitM_bad {hid : Int} {w : List Int} (h : (splitM hid w).2.2 ≠ 0) : splitM hid w = ([], [], (splitM hid w).2.2) := by
  unfold splitM at h ⊢
  split
  · rfl
  · rename_i c
    rw [if_neg c] at h
    split
    · rename_i c2; rw [if_pos c2] at h; exact absurd rfl h
    · rfl
theorem seqV_mnil : ∀ ps : List (Int × Int), (seqV ps).2 ≠ 0 → (seqV ps).1 = []
  | [], h => absurd rfl h
  | p :: ps, h => by
    unfold seqV at h ⊢
    split
    · rename_i c
      rw [if_pos c] at h
      split
      · rename_i c2; rw [if_pos c2] at h; exact absurd rfl h
      · rfl
    · rfl
theorem seqV_mlen : ∀ ps : List (Int × Int), (seqV ps).2 = 0 → (seqV ps).1.length = ps.length
  | [], _ => rfl
  | p :: ps, h => by
    unfold seqV at h ⊢
    split at h
    · rename_i c
      split at h
      · rename_i c2; rw [if_pos c, if_pos c2]; simp only [List.length_cons]; rw [seqV_mlen ps c2]
      · rename_i c2; exact absurd h c2
    · rename_i c; exact absurd h c
theorem bendM_v64 {z : List Int} (h : V64 z) : V64 (bendM z).1 := by
  unfold bendM
  split
  · intro x hx
    obtain ⟨y, hy, rfl⟩ := List.mem_map.1 hx
    have := h y hy
    unfold I64 at *
    omega
  · intro x hx; cases hx
theorem hiddenM_v64 (rows : List (List Int)) (inn : Int) (v : List Int) (f : Int) : V64 (hiddenM rows inn v f).1 := by
  unfold hiddenM
  split
  · intro x hx; cases hx
  · split
    · intro x hx; cases hx
    · split
      · refine bendM_v64 (seqV_v64 _ (fun p hp => ?_))
        obtain ⟨r, _, rfl⟩ := List.mem_map.1 hp
        exact tellL_i64 _ _ _
      · intro x hx; cases hx
theorem v64_drop {l : List Int} (h : V64 l) (n : Nat) : V64 (l.drop n) := fun x hx => h x (List.mem_of_mem_drop hx)
theorem rowsM_v64 {k m : Nat} {w : List Int} (h : V64 w) : ∀ r ∈ rowsM k m w, V64 r := by
  intro r hr
  obtain ⟨i, _, rfl⟩ := List.mem_map.1 hr
  exact fun x hx => h x (List.mem_of_mem_drop (List.mem_of_mem_take hx))
theorem rowsM_len (k m : Nat) (w : List Int) : (rowsM k m w).length = k := by simp [rowsM]
end Go.Proofs.Ytbnfejaeekljcaa.Sp
