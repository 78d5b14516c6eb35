/- VecBack: what was added is taken away again, and the other way round. -/
import Derived.Test.YtllicjinmlkcfaaHBx6
import Derived.Test.YtllicjinmlkcfaaPVec
namespace Go.Proofs.Ytllicjinmlkcfaa.Pure
open Go.RowKit Go.Proofs.Ytllicjinmlkcfaa.HB Go.Proofs.YtllicjinmlkcfaaW.PrintWords Go.Proofs.YtllicjinmlkcfaaW.PrintLast Go.Proofs.YtllicjinmlkcfaaW.PrintMore Go.Proofs.Ytllicjinmlkcfaa.Sp
set_option linter.unusedVariables false
set_option linter.unusedSimpArgs false
theorem back_j0 (k : Nat) (l0 l1 : List Int) (h0 : V64 l0) (h1 : V64 l1) : thrumlaw02_VecBack.j0 (k + 1) l0 l1 true = some true := by
  rw [thrumlaw02_VecBack.j0, vec_Sub.of _ _ ⟨h0, h1⟩]
  simp only [Option.bind_some]
  by_cases c : (subV l0 l1).2 = 0
  · rw [if_pos c, vec_Add.of _ _ ⟨subV_v64 _ _, h1⟩]
    simp only [Option.bind_some]
    rw [sub_add h0 c, if_pos trivial, if_pos rfl]
    simp [vec_Same.f, slices_Equal_int64_int64.f]
  · rw [if_neg c, if_pos trivial, subV_err c]; rfl
theorem VecBack : thrumlaw02_VecBack.Pure := by
  intro l0 l1 _ _ w0 _ _ w1
  have h0 := v64_of_wf w0
  have h1 := v64_of_wf w1
  refine ⟨1, ?_⟩
  unfold thrumlaw02_VecBack.f thrumlaw02_live.f thrumlaw02_few.f
  simp only [Option.bind_some, if_true]
  by_cases c : (fewV [l0, l1] && decide ([l0, l1].length ≤ 100)) = true
  · rw [if_pos c, vec_Add.of _ _ ⟨h0, h1⟩]
    simp only [Option.bind_some]
    by_cases c2 : (addV l0 l1).2 = 0
    · rw [if_pos c2, vec_Sub.of _ _ ⟨addV_v64 _ _, h1⟩, vec_Add.of _ _ ⟨h1, h0⟩]
      simp only [Option.bind_some]
      rw [add_sub h0 c2, if_pos rfl, if_pos (by rw [addV_comm]; exact c2), addV_comm l1 l0]
      simp only [vec_Same.f, slices_Equal_int64_int64.f, Option.bind_some, decide_true, if_true]
      exact back_j0 0 l0 l1 h0 h1
    · rw [if_neg c2]
      exact back_j0 0 l0 l1 h0 h1
  · rw [if_neg c]
end Go.Proofs.Ytllicjinmlkcfaa.Pure
