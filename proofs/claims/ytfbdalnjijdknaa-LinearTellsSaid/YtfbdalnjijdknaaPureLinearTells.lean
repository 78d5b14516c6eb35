/- LinearTells: what any line tells, how far it is off, whether it goes with any samples, and any vectors' mean, are the document's. -/
import Derived.Test.YtfbdalnjijdknaaHLx18
import Derived.Test.YtfbdalnjijdknaaPEv
namespace Go.Proofs.Ytfbdalnjijdknaa.Pure
open Go.RowKit Go.Proofs.Ytfbdalnjijdknaa.HL Go.Proofs.YtfbdalnjijdknaaW.PrintWords Go.Proofs.YtfbdalnjijdknaaW.PrintLast Go.Proofs.YtfbdalnjijdknaaW.PrintMore Go.Proofs.Ytfbdalnjijdknaa.Sp
set_option linter.unusedVariables false
set_option linter.unusedSimpArgs false
theorem tells_l0 (a0 : Int) (l1 : List Int) (f n : Int) (l5 : List (List Int)) (x : List Int) (y : Int) (h1 : V64 l1) (h2 : V64 x) (hy : I64 y) (hn : I64 n) (h5 : ∀ v ∈ l5, V64 v) (hb : l5.length ≤ 100) : ∀ (d i : Nat), d + i = l5.length → (∀ v ∈ l5.take i, v.length ≤ 500) →
    Evt (fun k => thrumlaw14_LinearTells.l0 k a0 l1 f n l5 true l5 (l5.length : Int) (i : Int) x y) := by
  intro d
  induction d with
  | zero =>
    intro i hd hi
    refine Evt.done (fun k => ?_)
    rw [List.take_of_length_le (by omega)] at hi
    have hf : fewV l5 = true := by unfold fewV; rw [List.all_eq_true]; intro v hv; exact decide_eq_true (by have := hi v hv; omega)
    rw [thrumlaw14_LinearTells.l0.eq_2, if_neg (by omega), linear_Tell.of _ _ _ ⟨h1, h2⟩, thrumref14_Tell.of _ _ _ ⟨h1, h2⟩, linear_Off.of _ _ _ _ ⟨h1, h2, hy⟩, thrumref14_Off.of _ _ _ _ ⟨h1, h2, hy⟩, linear_Mean.of _ _ ⟨hn, h5, hf⟩, thrumref14_Mean.of _ _ ⟨hn, h5⟩, linear_Dim.of, thrumref14_Dim.of]
    simp [thrumref02_Same.f, linear_Check.f, thrumref14_Check.f]
  | succ d ih =>
    intro i hd hi
    have hlt : i < l5.length := by omega
    have e : rd_L1 l5 (i : Int) = l5[i] := by simp [rd_L1, List.getD_eq_getElem?_getD, List.getElem?_eq_getElem hlt]
    by_cases c : l5[i].length > 500
    · refine Evt.done (fun k => ?_)
      rw [thrumlaw14_LinearTells.l0.eq_2, if_pos (by omega), if_pos (by omega), if_pos (by omega), e, if_pos (by omega)]
    · refine Evt.step (ih (i + 1) (by omega) ?_) (fun k => ?_)
      · intro v hv
        rw [List.take_add_one, List.getElem?_eq_getElem hlt] at hv
        rcases List.mem_append.1 hv with h | h
        · exact hi v h
        · rw [List.mem_singleton.1 h]; omega
      · skip
        rw [thrumlaw14_LinearTells.l0.eq_2, if_pos (by omega), if_pos (by omega), if_pos (by omega), e, if_neg (by omega), wrap64_of (by unfold I64; omega)]
        rfl
theorem LinearTells : thrumlaw14_LinearTells.Pure := by
  intro a0 l1 x y f n l5 w0 b1 b2 w1 w2 w3 w4 w5 w6
  have h1 := v64_of_wf w1
  have h2 := v64_of_wf w2.2
  have hy := i64_of_wf w3
  have hn := i64_of_wf w5
  have h5 : ∀ v ∈ l5, V64 v := fun v hv => v64_of_wf (w6.2 v hv).2
  refine Evt.get (F := fun k => thrumlaw14_LinearTells.f k a0 l1 x y f n l5) ?_
  unfold thrumlaw14_LinearTells.f
  rw [show thrumlaw14_live.f = some true from rfl]
  simp only [Option.bind_some, if_true, thrumref14_Few.f]
  have hj : Evt (fun k => thrumlaw14_LinearTells.j0 k a0 l1 f n l5 true true x y) := Evt.done (fun k => by rw [thrumlaw14_LinearTells.j0.eq_2, if_pos rfl])
  split
  · by_cases c : l5.length > 100
    · rw [decide_eq_true (show (l5.length : Int) > 100 by omega)]; exact hj
    · rw [decide_eq_false (show ¬ (l5.length : Int) > 100 by omega)]
      refine Evt.step (tells_l0 a0 l1 f n l5 x y h1 h2 hy hn h5 (by omega) l5.length 0 (by omega) (by simp)) (fun k => ?_)
      rw [thrumlaw14_LinearTells.j0.eq_2, if_neg (by decide)]
      rfl
  · exact hj
end Go.Proofs.Ytfbdalnjijdknaa.Pure
