/- VecBounds: no number is greater than the greatest, nor that than all together. -/
import Derived.Test.YtllicjinmlkcfaaHBx17
import Derived.Test.YtllicjinmlkcfaaPVec
namespace Go.Proofs.Ytllicjinmlkcfaa.Pure
open Go.RowKit Go.Proofs.Ytllicjinmlkcfaa.HB Go.Proofs.YtllicjinmlkcfaaW.PrintWords Go.Proofs.YtllicjinmlkcfaaW.PrintLast Go.Proofs.YtllicjinmlkcfaaW.PrintMore Go.Proofs.Ytllicjinmlkcfaa.Sp
set_option linter.unusedVariables false
set_option linter.unusedSimpArgs false
theorem bounds_l0 (v : List Int) (m s : Int) (hv : V64 v) (hl : v.length ≤ 4096) (hm0 : 0 ≤ m) (hm : I64 m) (hx : ∀ x ∈ v, (x.natAbs : Int) ≤ m) (hms : m ≤ s) (hsl : s ≤ (v.length : Int) * m) :
    ∀ (d i : Nat) (b : Bool) (e : Int), d + i = v.length → (b = true ∨ ∃ x ∈ v.drop i, (x.natAbs : Int) = m) →
    thrumlaw02_VecBounds.l0 (d + 1) v true m s b v (v.length : Int) (i : Int) = some true := by
  intro d
  unfold I64 at hm
  induction d with
  | zero =>
    intro i b e hd hb
    rw [thrumlaw02_VecBounds.l0, if_neg (by omega)]
    have hb : b = true := by
      rcases hb with h | ⟨x, h, _⟩
      · exact h
      · rw [List.drop_eq_nil_of_le (by omega)] at h; cases h
    subst hb
    rw [vec_Clip.of _ _ ⟨hv, by unfold I64; omega⟩, clipV_self hl hm0 hx]
    simp only [Option.bind_some, if_true]
    rw [if_pos hms]
    have hS : vec_Same.f v v = some true := by simp [vec_Same.f, slices_Equal_int64_int64.f]
    by_cases c : m = 0
    · rw [if_pos c, hS]; rfl
    · have hmp : 0 < m := by omega
      have hq : Int.tdiv s m = s / m := Int.tdiv_eq_ediv_of_nonneg (by omega)
      have hq0 : 0 ≤ s / m := Int.ediv_nonneg (by omega) hm0
      have hq1 : s / m ≤ (v.length : Int) := Int.ediv_le_of_le_mul hmp hsl
      rw [if_neg c, hq, wrap64_of (by unfold I64; omega), if_pos hq1, hS]; rfl
  | succ d ih =>
    intro i b e hd hb
    have hi : i < v.length := by omega
    have hxi := hx v[i] (List.getElem_mem hi)
    rw [thrumlaw02_VecBounds.l0, if_pos (by omega), if_pos (by omega), if_pos (by omega), show rd v (i : Int) = v[i] from rd_nat hi, if_neg (by omega), wrap64_of (show I64 (-m) by unfold I64; omega), if_neg (by omega), wrap64_of (show I64 ((i : Int) + 1) by unfold I64; omega), show (i : Int) + 1 = ((i + 1 : Nat) : Int) by omega]
    by_cases c : b = true
    · rw [if_pos c]; exact ih (i + 1) true e (by omega) (.inl rfl)
    · rw [if_neg c]
      by_cases c2 : v[i] = m
      · rw [if_pos c2]; exact ih (i + 1) true e (by omega) (.inl rfl)
      · rw [if_neg c2]
        refine ih (i + 1) _ e (by omega) ?_
        rcases hb with h | ⟨x, h, hxm⟩
        · exact absurd h c
        · rw [List.drop_eq_getElem_cons hi] at h
          rcases List.mem_cons.1 h with e | e
          · left; rw [beq_iff_eq]; rw [e] at hxm; omega
          · exact .inr ⟨x, e, hxm⟩
theorem VecBounds : thrumlaw02_VecBounds.Pure := by
  intro l0 _ _ w0
  have h0 := v64_of_wf w0
  refine ⟨l0.length + 2, ?_⟩
  unfold thrumlaw02_VecBounds.f thrumlaw02_live.f thrumlaw02_few.f
  simp only [Option.bind_some, if_true]
  by_cases c : (fewV [l0] && decide ([l0].length ≤ 100)) = true
  · rw [if_pos c, vec_Most.of _ h0, vec_Size.of _ h0]
    simp only [Option.bind_some]
    by_cases c2 : (mostV l0).2 = 0
    · rw [if_pos c2]
      by_cases c3 : (sizeV l0).2 = 0
      · rw [c3, c2, show ((0 : Int) != 0) = false from rfl, thrumlaw02_VecBounds.j0, if_neg (by decide)]
        have hE : checkE l0 = 0 := by unfold mostV at c2; by_cases c4 : checkE l0 = 0; exact c4; rw [if_neg c4] at c2; exact absurd c2 c4
        have e1 : mostV l0 = mostGo (l0.map absF) 0 := if_pos hE
        have e2 : sizeV l0 = sumV (l0.map absF) 0 := if_pos hE
        rw [e1] at c2 ⊢
        rw [e2] at c3 ⊢
        obtain ⟨g0, g1, g2, g3⟩ := mostGo_ok l0 0 c2
        obtain ⟨_, q⟩ := sumV_abs l0 0 c3
        obtain ⟨m, hm⟩ : ∃ m, (mostGo (l0.map absF) 0).1 = m := ⟨_, rfl⟩
        rw [hm] at g1 g2 g3 ⊢
        rw [q, Int.zero_add]
        have hI : I64 m := by
          rcases g3 with g3 | ⟨x, hx, g3⟩
          · rw [g3]; exact i64_zero
          · rw [← g3]; exact res_snd.1 (g0 x hx)
        refine bounds_l0 l0 m (asum l0) h0 (checkE_le hE) g1 hI g2 ?_ (asum_le l0 m g2) l0.length 0 _ 0 (by omega) ?_
        · rcases g3 with g3 | ⟨x, hx, g3⟩
          · rw [g3]; exact asum_nonneg l0
          · rw [← g3]; exact asum_mem l0 x hx
        · rcases g3 with g3 | ⟨x, hx, g3⟩
          · left; rw [g3]; rfl
          · right; exact ⟨x, by simpa using hx, g3⟩
      · rw [show ((sizeV l0).2 != 0) = true from bne_iff_ne.2 c3, thrumlaw02_VecBounds.j0, if_pos rfl, if_pos rfl, if_pos c2]
    · rw [if_neg c2, thrumlaw02_VecBounds.j0, if_pos rfl, if_pos rfl, if_neg c2, most_err c2]; simp
  · rw [if_neg c]
end Go.Proofs.Ytllicjinmlkcfaa.Pure
