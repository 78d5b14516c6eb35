/- VecTells: products, sizes, the greatest, and sums are those of the document. -/
import Derived.Test.YtllicjinmlkcfaaHBx18
import Derived.Test.YtllicjinmlkcfaaPVec
namespace Go.Proofs.Ytllicjinmlkcfaa.Pure
open Go.RowKit Go.Proofs.Ytllicjinmlkcfaa.HB Go.Proofs.YtllicjinmlkcfaaW.PrintWords Go.Proofs.YtllicjinmlkcfaaW.PrintLast Go.Proofs.YtllicjinmlkcfaaW.PrintMore Go.Proofs.Ytllicjinmlkcfaa.Sp
set_option linter.unusedVariables false
set_option linter.unusedSimpArgs false
theorem tells_l0 (l3 : List (List Int)) (hv : ∀ v ∈ l3, V64 v) (a b c d e f : Int) : ∀ (n i : Nat) (x : List Int), n + i = x.length → x.length ≤ 9223372036854775807 →
    thrumlaw02_VecTells.l0 (n + 1) l3 true a b a b c d c d e f e f x (sumsV l3).1 (sumsV l3).2 (x.length : Int) (i : Int) = some true := by
  intro n
  induction n with
  | zero =>
    intro i x hd hb
    rw [thrumlaw02_VecTells.l0, if_neg (by omega), show thrumref02_Sum.f l3 = some (sumsV l3) from if_pos hv]
    simp [thrumref02_Same.f]
  | succ n ih =>
    intro i x hd hb
    rw [thrumlaw02_VecTells.l0, if_pos (by omega), if_pos (by omega), if_pos (by omega), wrap64_of (show I64 ((i : Int) + 1) by unfold I64; omega), show (i : Int) + 1 = ((i + 1 : Nat) : Int) by omega]
    have h := ih (i + 1) (x.set (i : Int).toNat (wrap64 (rd x (i : Int) + 1))) (by simp; omega) (by simp; omega)
    simpa using h
theorem sumFrom_le : ∀ (l : List (List Int)) (acc : List Int), acc.length ≤ 5000 → (sumFrom l acc).1.length ≤ 5000
  | [], acc, h => h
  | v :: l, acc, h => by
    simp only [sumFrom]; split
    · rename_i c; exact sumFrom_le l _ (by rw [addV_len c]; exact h)
    · simp
theorem VecTells : thrumlaw02_VecTells.Pure := by
  intro l0 l1 a2 l3 _ _ w0 _ _ w1 w2 w3
  have h0 := v64_of_wf w0
  have h1 := v64_of_wf w1
  have h3 : ∀ v ∈ l3, V64 v := fun v hv => v64_of_wf (w3.2 v hv).2
  refine ⟨(sumsV l3).1.length + 1 + 2, ?_⟩
  unfold thrumlaw02_VecTells.f thrumlaw02_live.f
  simp only [Option.bind_some, if_true, thrumlaw02_few.f]
  have up : thrumlaw02_VecTells.j0 ((sumsV l3).1.length + 1 + 2) l0 l1 a2 l3 true true = some true := by rw [thrumlaw02_VecTells.j0, if_pos rfl]
  by_cases c : (fewV [l0, l1] && decide ([l0, l1].length ≤ 100)) = true
  · rw [if_pos c]
    by_cases c3 : (fewV l3 && decide (l3.length ≤ 100)) = true
    · rw [c3]
      have hf : fewV l3 = true := by rw [Bool.and_eq_true] at c3; exact c3.1
      have hS : ∀ x : List Int, thrumref02_Same.f x x = some true := by intro x; simp [thrumref02_Same.f]
      rw [thrumlaw02_VecTells.j0, if_neg (by decide), vec_Dot.of _ _ _ ⟨h0, h1⟩, thrumref02_Dot.of _ _ _ ⟨h0, h1⟩, vec_Size.of _ h0, thrumref02_Size.of _ h0, vec_Most.of _ h0, thrumref02_Most.of _ h0, show vec_Sum.f l3 = some (sumsV l3) from if_pos ⟨h3, hf⟩, show thrumref02_Sum.f l3 = some (sumsV l3) from if_pos h3]
      simp only [Option.bind_some, hS, if_true, bne_self_eq_false]
      rw [thrumlaw02_VecTells.j1, if_neg (by decide)]
      have hle : (sumsV l3).1.length ≤ 5000 := by
        cases l3 with
        | nil => simp [sumsV]
        | cons v l =>
          have hv0 : v.length ≤ 5000 := by simp only [fewV, List.all_cons, Bool.and_eq_true, decide_eq_true_eq] at hf; exact hf.1
          show (if checkE v = 0 then sumFrom l v else ([], checkE v)).1.length ≤ 5000
          split
          · exact sumFrom_le l v hv0
          · simp
      exact tells_l0 l3 h3 _ _ _ _ _ _ (sumsV l3).1.length 0 (sumsV l3).1 (by omega) (by omega)
    · rw [Bool.not_eq_true] at c3
      rw [c3]; exact up
  · rw [if_neg c]; exact up
end Go.Proofs.Ytllicjinmlkcfaa.Pure
