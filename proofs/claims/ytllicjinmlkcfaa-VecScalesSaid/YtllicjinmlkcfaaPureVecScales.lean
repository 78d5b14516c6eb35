/- VecScales: scaled by one, nothing more, two times more. -/
import Derived.Test.YtllicjinmlkcfaaHBx8
import Derived.Test.YtllicjinmlkcfaaPVec
namespace Go.Proofs.Ytllicjinmlkcfaa.Pure
open Go.RowKit Go.Proofs.Ytllicjinmlkcfaa.HB Go.Proofs.YtllicjinmlkcfaaW.PrintWords Go.Proofs.YtllicjinmlkcfaaW.PrintLast Go.Proofs.YtllicjinmlkcfaaW.PrintMore Go.Proofs.Ytllicjinmlkcfaa.Sp
set_option linter.unusedVariables false
set_option linter.unusedSimpArgs false
theorem scales_j1 (k : Nat) (l0 l1 : List Int) (h0 : V64 l0) (h1 : V64 l1) : thrumlaw02_VecScales.j1 (k + 1) l0 l1 true false = some true := by
  rw [thrumlaw02_VecScales.j1, if_neg (by decide), vec_Add.of _ _ ⟨h0, h1⟩]
  simp only [Option.bind_some]
  rw [vec_Add.of _ _ ⟨addV_v64 _ _, h1⟩, show vec_More.f l0 2 l1 0 = some (moreV l0 2 l1 0) by
    unfold vec_More.f moreV
    rw [vec_Scale.of _ _ _ ⟨h1, by decide⟩]
    simp only [Option.bind_some]
    by_cases c : (scaleV l1 2 0).2 = 0
    · rw [if_pos c, if_pos c, vec_Add.of _ _ ⟨h0, scaleV_v64 _ _ _⟩]; rfl
    · rw [if_neg c, if_neg c]]
  simp only [Option.bind_some]
  by_cases c : (addV l0 l1).2 = 0
  · rw [if_pos c]
    by_cases c2 : (addV (addV l0 l1).1 l1).2 = 0
    · rw [if_pos c2]
      by_cases c3 : (moreV l0 2 l1 0).2 = 0
      · rw [if_pos c3, if_pos trivial, addV_twice c c2 c3]
        simp [vec_Same.f, slices_Equal_int64_int64.f]
      · rw [if_neg c3]
    · rw [if_neg c2]
  · rw [if_neg c]
theorem scales_j0 (k : Nat) (l0 l1 : List Int) (a2 : Int) (h0 : V64 l0) (h1 : V64 l1) (hl : l0.length ≤ 4096) (he : l0.length = l1.length) : thrumlaw02_VecScales.j0 (k + 2) l0 l1 a2 true false = some true := by
  have ht := turn_bd a2 31 (by omega) (by omega)
  obtain ⟨f, hf⟩ : ∃ f : Int, Int.tmod (wrap64 ((Int.tmod a2 31) + 31)) 31 = f := ⟨_, rfl⟩
  rw [hf] at ht
  rw [thrumlaw02_VecScales.j0, if_neg (by decide), hf, if_pos ht.1, vec_Scale.of _ _ _ ⟨h0, by rw [shl_i64 f (by omega)]; have := pow_bd f 30 (by omega); simp only [Int.reducePow] at this; unfold I64; omega⟩, shl_i64 f (by omega), scaleV_pow h0 hl ht.1 (by omega), show vec_More.f l0 0 l1 f = some (l0, 0) by
    unfold vec_More.f
    rw [vec_Scale.of _ _ _ ⟨h1, i64_zero⟩]
    simp only [Option.bind_some]
    have hm := moreV_zero h0 hl he ht.1 (by omega : f ≤ 30)
    unfold moreV at hm
    rw [scaleV_zero (by omega) ht.1 (by omega)] at hm ⊢
    rw [if_pos rfl] at hm ⊢
    rw [vec_Add.of _ _ ⟨h0, by intro x hx; obtain ⟨_, _, rfl⟩ := List.mem_map.1 hx; exact i64_zero⟩, hm]; rfl]
  simp only [vec_Same.f, slices_Equal_int64_int64.f, Option.bind_some, decide_true, if_true, Bool.not_true]
  exact scales_j1 k l0 l1 h0 h1
theorem VecScales : thrumlaw02_VecScales.Pure := by
  intro l0 l1 a2 _ _ w0 _ _ w1 w2
  have h0 := v64_of_wf w0
  have h1 := v64_of_wf w1
  refine ⟨2, ?_⟩
  unfold thrumlaw02_VecScales.f thrumlaw02_live.f thrumlaw02_few.f
  simp only [Option.bind_some, if_true]
  have up : thrumlaw02_VecScales.j0 2 l0 l1 a2 true true = some true := by rw [thrumlaw02_VecScales.j0, if_pos rfl]
  by_cases c : (fewV [l0, l1] && decide ([l0, l1].length ≤ 100)) = true
  · rw [if_pos c]
    by_cases c2 : l0.length > 4096
    · rw [if_pos (by omega)]; exact up
    · rw [if_neg (by omega)]
      by_cases c3 : l0.length = l1.length
      · rw [show ((l0.length : Int) != (l1.length : Int)) = false from bne_eq_false_iff_eq.2 (by omega)]
        exact scales_j0 0 l0 l1 a2 h0 h1 (by omega) c3
      · rw [show ((l0.length : Int) != (l1.length : Int)) = true from bne_iff_ne.2 (by omega)]; exact up
  · rw [if_neg c]; exact up
end Go.Proofs.Ytllicjinmlkcfaa.Pure
