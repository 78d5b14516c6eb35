/- Laws of the plain vectors: no program in sight. -/
import Derived.Test.YtkfhdpnfcaghbaaVec
namespace Go.Proofs.Ytkfhdpnfcaghbaa.Sp
open Go.RowKit Go.Proofs.YtkfhdpnfcaghbaaW.PrintWords

theorem res_snd {x : Int} : (res x).2 = 0 ↔ I64 x := by
  unfold res; split
  · rename_i h; simp [h]
  · rename_i h; simp [h]
theorem res_fst {x : Int} (h : (res x).2 = 0) : (res x).1 = x := by rw [res_of (res_snd.1 h)]
theorem absF_fst {x : Int} (h : (absF x).2 = 0) : (absF x).1 = (x.natAbs : Int) := res_fst h
theorem mostGo_ok : ∀ (l : List Int) (m : Int), (mostGo (l.map absF) m).2 = 0 → (∀ x ∈ l, (absF x).2 = 0) ∧ m ≤ (mostGo (l.map absF) m).1 ∧ (∀ x ∈ l, (x.natAbs : Int) ≤ (mostGo (l.map absF) m).1) ∧ ((mostGo (l.map absF) m).1 = m ∨ ∃ x ∈ l, (x.natAbs : Int) = (mostGo (l.map absF) m).1)
  | [], m, _ => ⟨by simp, Int.le_refl _, by simp, .inl rfl⟩
  | x :: l, m, h => by
    simp only [List.map_cons, mostGo] at h ⊢
    by_cases c : (absF x).2 = 0
    · rw [if_pos c] at h ⊢
      rw [absF_fst c] at h ⊢
      obtain ⟨h0, h1, h2, h3⟩ := mostGo_ok l _ h
      have hk : m ≤ (if m < (x.natAbs : Int) then (x.natAbs : Int) else m) ∧ (x.natAbs : Int) ≤ (if m < (x.natAbs : Int) then (x.natAbs : Int) else m) := by split <;> omega
      refine ⟨?_, ?_, ?_, ?_⟩
      · intro y hy
        rcases List.mem_cons.1 hy with e | e
        · rw [e]; exact c
        · exact h0 y e
      · exact Int.le_trans hk.1 h1
      · intro y hy
        rcases List.mem_cons.1 hy with e | e
        · rw [e]; exact Int.le_trans hk.2 h1
        · exact h2 y e
      · rcases h3 with h3 | ⟨y, hy, h3⟩
        · rw [h3]
          by_cases d : m < (x.natAbs : Int)
          · rw [if_pos d]; exact .inr ⟨x, by simp, rfl⟩
          · rw [if_neg d]; exact .inl rfl
        · exact .inr ⟨y, by simp [hy], h3⟩
    · rw [if_neg c] at h; exact absurd h c
end Go.Proofs.Ytkfhdpnfcaghbaa.Sp
