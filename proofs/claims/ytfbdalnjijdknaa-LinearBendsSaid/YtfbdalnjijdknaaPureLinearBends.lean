/- LinearBends: how any line is to be bent, and how bad it is, by any samples, are the document's; the line stays as it was. -/
import Derived.Test.YtfbdalnjijdknaaHLx23
import Derived.Test.YtfbdalnjijdknaaPEv
namespace Go.Proofs.Ytfbdalnjijdknaa.Pure
open Go.RowKit Go.Proofs.Ytfbdalnjijdknaa.HL Go.Proofs.YtfbdalnjijdknaaW.PrintWords Go.Proofs.YtfbdalnjijdknaaW.PrintLast Go.Proofs.YtfbdalnjijdknaaW.PrintMore Go.Proofs.Ytfbdalnjijdknaa.Sp
set_option linter.unusedVariables false
set_option linter.unusedSimpArgs false
theorem bends_l0 (w : List Int) : ∀ (d i : Nat) (x : List Int), d + i = x.length → x.length ≤ 4096 →
    Evt (fun k => thrumlaw14_LinearBends.l0 k w true w x true (x.length : Int) (i : Int)) := by
  intro d
  induction d with
  | zero =>
    intro i x hd hb
    refine Evt.done (fun k => ?_)
    rw [thrumlaw14_LinearBends.l0.eq_2, if_neg (by omega)]
    simp [thrumref02_Same.f]
  | succ d ih =>
    intro i x hd hb
    have h := ih (i + 1) (x.set (i : Int).toNat (wrap64 ((rd x i) + 1))) (by simp; omega) (by simp; omega)
    refine Evt.step h (fun k => ?_)
    rw [thrumlaw14_LinearBends.l0.eq_2, if_pos (by omega), if_pos (by omega), if_pos (by omega), wrap64_of (show I64 ((i : Int) + 1) by unfold I64; omega), List.length_set]
    rfl
theorem gradL_lle (w : List Int) (f : Int) (l : List (List Int × Int)) : (gradL w f l).1.length ≤ 4096 := by
  unfold gradL
  split
  · split
    · unfold meanL
      split
      · simp
      · split
        · have := seqV_lle ((sumsV (rowsL (bendL w f) l).1).1.map fun x => divF x l.length 0)
          rw [List.length_map] at this
          have := sumsV_lle (rowsL (bendL w f) l).1
          omega
        · simp
    · simp
  · simp
theorem LinearBends : thrumlaw14_LinearBends.Pure := by
  intro w f l n b1 b2 w1 w2 w3 w4
  have h1 := v64_of_wf w1
  have h3 : ∀ s ∈ l, Sm64 s := fun s hs => ⟨v64_of_wf (w3.2 s hs).1.2, i64_of_wf (w3.2 s hs).2.1⟩
  refine Evt.get (F := fun k => thrumlaw14_LinearBends.f k w f l n) ?_
  unfold thrumlaw14_LinearBends.f
  rw [show thrumlaw14_live.f = some true from rfl]
  simp only [Option.bind_some, if_true, thrumref14_Few.f]
  split
  · rename_i hc
    have hc := (of_decide_eq_true hc).2.1
    refine Evt.step (bends_l0 w (gradL w f (l.map sm)).1.length 0 (gradL w f (l.map sm)).1 (by omega) (gradL_lle _ _ _)) (fun k => ?_)
    rw [if_pos (by simp; omega), List.nil_append, linear_Grad.of _ _ _ ⟨h1, h3⟩, thrumref14_Grad.of _ _ _ ⟨h1, h3⟩, linear_Loss.of _ _ _ ⟨h1, h3⟩, thrumref14_Loss.of _ _ _ ⟨h1, h3⟩]
    simp only [Option.bind_some, thrumref02_Same.f, decide_true, if_true, linear_Check.f, thrumref14_Check.f, beq_self_eq_true]
    rw [thrumlaw14_LinearBends.j0.eq_2]
    rfl
  · exact Evt.true
end Go.Proofs.Ytfbdalnjijdknaa.Pure
