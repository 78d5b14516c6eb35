/- SoftBends: how any lines are to be bent, and how many are right, by any samples, are the document's; they stay as they were. -/
import Derived.Test.YtgilbdpbfmpcpaaHSx19
namespace Go.Proofs.Ytgilbdpbfmpcpaa.Pure
open Go.RowKit Go.Proofs.Ytgilbdpbfmpcpaa.HS Go.Proofs.YtgilbdpbfmpcpaaW.PrintWords Go.Proofs.YtgilbdpbfmpcpaaW.PrintLast Go.Proofs.YtgilbdpbfmpcpaaW.PrintMore Go.Proofs.Ytgilbdpbfmpcpaa.Sp
set_option linter.unusedVariables false
set_option linter.unusedSimpArgs false
theorem SoftBends : thrumlaw15_SoftBends.Pure := by
  intro n o w f l b0 b1 hm hs wl bf wf
  have h1 := v64_of_wf wl
  have h3 : ∀ s ∈ l, Sm64 s := fun s hs => ⟨v64_of_wf (wf.2 s hs).1.2, i64_of_wf (wf.2 s hs).2.1⟩
  unfold thrumlaw15_SoftBends.f
  rw [show thrumlaw15_live.f = some true from rfl]
  simp only [Option.bind_some, if_true, thrumref14_Few.f]
  split
  · rename_i hc
    have hc := of_decide_eq_true hc
    rw [if_pos (by simp only [List.length_nil]; omega), soft_Grad.of _ _ _ _ ⟨h1, h3, by omega⟩, thrumref15_Grad.of _ _ _ _ ⟨h1, h3⟩, soft_Right.of _ _ _ _ ⟨h1, h3, by omega⟩, thrumref15_Right.of _ _ _ _ ⟨h1, h3, by omega⟩]
    simp only [Option.bind_some, thrumref02_Same.f, decide_true, if_true, soft_Check.f, thrumref15_Check.f, List.nil_append]
  · rfl
end Go.Proofs.Ytgilbdpbfmpcpaa.Pure
