/- LinearTurns: samples in another order bend the line the same, and have the same loss; a loss is never below 0. -/
import Derived.Test.YtfbdalnjijdknaaHLx35
import Derived.Test.YtfbdalnjijdknaaPLinear
namespace Go.Proofs.Ytfbdalnjijdknaa.Pure
open Go.RowKit Go.Proofs.Ytfbdalnjijdknaa.HL Go.Proofs.YtfbdalnjijdknaaW.PrintWords Go.Proofs.YtfbdalnjijdknaaW.PrintLast Go.Proofs.YtfbdalnjijdknaaW.PrintMore Go.Proofs.Ytfbdalnjijdknaa.Sp
set_option linter.unusedVariables false
set_option linter.unusedSimpArgs false
theorem turns_frac (f : Int) : 0 ≤ Int.tmod (wrap64 (Int.tmod f 17 + 17)) 17 ∧ Int.tmod (wrap64 (Int.tmod f 17 + 17)) 17 ≤ 30 := by
  have := turn_bd f 17 (by omega) (by omega)
  omega
/-- What is small enough. -/
def Fine (s : S26) : Prop := (-1048576 ≤ s.f1 ∧ s.f1 ≤ 1048576) ∧ ∀ n ∈ s.f0, -4096 ≤ n ∧ n ≤ 4096
theorem turns_end (w : List Int) (f : Int) (l : List S26) (h0 : V64 w) (h2 : ∀ s ∈ l, Sm64 s) (hw : ∀ n ∈ w, -1048576 ≤ n ∧ n ≤ 1048576) (hl : ∀ s ∈ l, Fine s) (hf : 0 ≤ f ∧ f ≤ 30) :
    ((linear_Grad.f w f l).bind fun bt400 => ((linear_Grad.f w f l.reverse).bind fun bt404 => ((linear_Loss.f w f l).bind fun bt408 => ((linear_Loss.f w f l.reverse).bind fun bt410 => (if true = true then ((thrumref02_Same.f bt400.1 bt404.1).bind fun t412 => (if t412 = true then (if bt400.2 = bt404.2 then (if bt408.1 = bt410.1 then (if bt408.2 = bt410.2 then (some (decide (bt408.1 ≥ 0))) else (some false)) else (some false)) else (some false)) else (some false))) else (some false)))))) = some true := by
  have hr : ∀ s ∈ l.reverse, Sm64 s := fun s hs => h2 s (List.mem_reverse.1 hs)
  have hx : ∀ s ∈ l.map sm, (-1048576 ≤ s.2 ∧ s.2 ≤ 1048576) ∧ ∀ n ∈ s.1, -4096 ≤ n ∧ n ≤ 4096 := fun s hs => by
    obtain ⟨x, hx, rfl⟩ := List.mem_map.1 hs
    exact hl x hx
  rw [linear_Grad.of _ _ _ ⟨h0, h2⟩, linear_Grad.of _ _ _ ⟨h0, hr⟩, linear_Loss.of _ _ _ ⟨h0, h2⟩, linear_Loss.of _ _ _ ⟨h0, hr⟩, List.map_reverse, gradL_rev hw hx hf, (lossL_rev hw hx hf).1, Option.bind_some, Option.bind_some, Option.bind_some, Option.bind_some, if_pos rfl]
  unfold thrumref02_Same.f
  rw [Option.bind_some, if_pos (decide_eq_true rfl), if_pos rfl, if_pos rfl, if_pos rfl, decide_eq_true (lossL_rev hw hx hf).2]
theorem turns_l2 (w : List Int) (f : Int) (l y : List S26) (i : Int) (row : List Int) (hb : row.length ≤ 100) (next : (∀ n ∈ row, -4096 ≤ n ∧ n ≤ 4096) → Evt (fun k => thrumlaw14_LinearTurns.l1 k w f l true y l (l.length : Int) (wrap64 (i + 1)))) : ∀ (d j : Nat), d + j = row.length → (∀ n ∈ row.take j, -4096 ≤ n ∧ n ≤ 4096) →
    Evt (fun k => thrumlaw14_LinearTurns.l2 k w f l true y l (l.length : Int) i row (row.length : Int) (j : Int)) := by
  intro d
  induction d with
  | zero =>
    intro j hd hj
    rw [List.take_of_length_le (by omega)] at hj
    exact Evt.step (next hj) (fun k => by rw [thrumlaw14_LinearTurns.l2.eq_2, if_neg (by omega)])
  | succ d ih =>
    intro j hd hj
    have hlt : j < row.length := by omega
    have e : rd row (j : Int) = row[j] := rd_nat hlt
    by_cases c : row[j] > 4096
    · exact Evt.done (fun k => by rw [thrumlaw14_LinearTurns.l2.eq_2, if_pos (by omega), if_pos (by omega), if_pos (by omega), e, if_pos c])
    · by_cases c2 : row[j] < -4096
      · exact Evt.done (fun k => by rw [thrumlaw14_LinearTurns.l2.eq_2, if_pos (by omega), if_pos (by omega), if_pos (by omega), e, if_neg c, if_pos c2])
      · refine Evt.step (ih (j + 1) (by omega) ?_) (fun k => ?_)
        · intro v hv
          rw [List.take_add_one, List.getElem?_eq_getElem hlt] at hv
          rcases List.mem_append.1 hv with h | h
          · exact hj v h
          · rw [List.mem_singleton.1 h]; omega
        · rw [thrumlaw14_LinearTurns.l2.eq_2, if_pos (by omega), if_pos (by omega), if_pos (by omega), e, if_neg c, if_neg c2, wrap64_of (x := (j : Int) + 1) (by unfold I64; omega)]
          rfl
theorem turns_l1 (w : List Int) (f : Int) (l : List S26) (h0 : V64 w) (h2 : ∀ s ∈ l, Sm64 s) (hw : ∀ n ∈ w, -1048576 ≤ n ∧ n ≤ 1048576) (hb : ∀ s ∈ l, s.f0.length ≤ 100) (hl : l.length ≤ 100) : ∀ (d i : Nat), d + i = l.length → (∀ s ∈ l.take i, Fine s) →
    Evt (fun k => thrumlaw14_LinearTurns.l1 k w f l true (l.reverse.take i) l (l.length : Int) (i : Int)) := by
  intro d
  induction d with
  | zero =>
    intro i hd hi
    rw [List.take_of_length_le (by omega)] at hi
    refine Evt.done (fun k => ?_)
    rw [thrumlaw14_LinearTurns.l1.eq_2, if_neg (by omega), List.take_of_length_le (by simp; omega)]
    exact turns_end w _ l h0 h2 hw hi (turns_frac f)
  | succ d ih =>
    intro i hd hi
    have hlt : i < l.length := by omega
    have e1 : wrap64 ((l.length : Int) - 1) = (l.length : Int) - 1 := wrap64_of (by unfold I64; omega)
    have e2 : wrap64 ((l.length : Int) - 1 - i) = ((l.length - 1 - i : Nat) : Int) := by rw [wrap64_of (by unfold I64; omega)]; omega
    have e3 : rd_T26 l ((l.length - 1 - i : Nat) : Int) = l[l.length - 1 - i] := rd_sm (by omega)
    have hst : ∀ k, thrumlaw14_LinearTurns.l1 (k + 1) w f l true (l.reverse.take i) l (l.length : Int) (i : Int) = if l[i].f1 > 1048576 then some true else if l[i].f1 < -1048576 then some true else thrumlaw14_LinearTurns.l2 k w f l true (l.reverse.take (i + 1)) l (l.length : Int) (i : Int) l[i].f0 (l[i].f0.length : Int) ((0 : Nat) : Int) := fun k => by
      rw [thrumlaw14_LinearTurns.l1.eq_2, if_pos (by omega), if_pos (by omega), if_pos (by omega), e1, e2, if_pos (by omega), if_pos (by omega), if_pos (by simp; omega), e3, rd_sm hlt, List.take_add_one, List.getElem?_eq_getElem (by simp; omega), List.getElem_reverse]
      rfl
    by_cases c : l[i].f1 > 1048576
    · exact Evt.done (fun k => by rw [hst, if_pos c])
    · by_cases c2 : l[i].f1 < -1048576
      · exact Evt.done (fun k => by rw [hst, if_neg c, if_pos c2])
      · refine Evt.step (turns_l2 w f l (l.reverse.take (i + 1)) i l[i].f0 (hb _ (List.getElem_mem hlt)) (fun hn => ?_) l[i].f0.length 0 (by omega) (by simp)) (fun k => ?_)
        · rw [wrap64_of (x := (i : Int) + 1) (by unfold I64; omega)]
          refine ih (i + 1) (by omega) (fun s hs => ?_)
          rw [List.take_add_one, List.getElem?_eq_getElem hlt] at hs
          rcases List.mem_append.1 hs with h | h
          · exact hi s h
          · rw [List.mem_singleton.1 h]; exact ⟨by omega, hn⟩
        · rw [hst, if_neg c, if_neg c2]
theorem turns_l0 (w : List Int) (f : Int) (l : List S26) (h0 : V64 w) (h2 : ∀ s ∈ l, Sm64 s) (hb : ∀ s ∈ l, s.f0.length ≤ 100) (hl : l.length ≤ 100) (hwl : w.length ≤ 500) : ∀ (d i : Nat), d + i = w.length → (∀ n ∈ w.take i, -1048576 ≤ n ∧ n ≤ 1048576) →
    Evt (fun k => thrumlaw14_LinearTurns.l0 k w f l true w (w.length : Int) (i : Int)) := by
  intro d
  induction d with
  | zero =>
    intro i hd hi
    rw [List.take_of_length_le (by omega)] at hi
    exact Evt.step (turns_l1 w f l h0 h2 hi hb hl l.length 0 (by omega) (by simp)) (fun k => by rw [thrumlaw14_LinearTurns.l0.eq_2, if_neg (by omega)]; rfl)
  | succ d ih =>
    intro i hd hi
    have hlt : i < w.length := by omega
    have e : rd w (i : Int) = w[i] := rd_nat hlt
    by_cases c : w[i] > 1048576
    · exact Evt.done (fun k => by rw [thrumlaw14_LinearTurns.l0.eq_2, if_pos (by omega), if_pos (by omega), if_pos (by omega), e, if_pos c])
    · by_cases c2 : w[i] < -1048576
      · exact Evt.done (fun k => by rw [thrumlaw14_LinearTurns.l0.eq_2, if_pos (by omega), if_pos (by omega), if_pos (by omega), e, if_neg c, if_pos c2])
      · refine Evt.step (ih (i + 1) (by omega) ?_) (fun k => ?_)
        · intro v hv
          rw [List.take_add_one, List.getElem?_eq_getElem hlt] at hv
          rcases List.mem_append.1 hv with h | h
          · exact hi v h
          · rw [List.mem_singleton.1 h]; omega
        · rw [thrumlaw14_LinearTurns.l0.eq_2, if_pos (by omega), if_pos (by omega), if_pos (by omega), e, if_neg c, if_neg c2, wrap64_of (x := (i : Int) + 1) (by unfold I64; omega)]
          rfl
theorem LinearTurns : thrumlaw14_LinearTurns.Pure := by
  intro w f l b1 b2 w1 w2 w3
  have h1 := v64_of_wf w1
  have h3 : ∀ s ∈ l, Sm64 s := fun s hs => ⟨v64_of_wf (w3.2 s hs).1.2, i64_of_wf (w3.2 s hs).2.1⟩
  refine Evt.get (F := fun k => thrumlaw14_LinearTurns.f k w f l) ?_
  unfold thrumlaw14_LinearTurns.f
  rw [show thrumlaw14_live.f = some true from rfl]
  simp only [Option.bind_some, if_true, thrumref14_Few.f]
  split
  · rename_i hc
    have hc := of_decide_eq_true hc
    exact turns_l0 w f l h1 h3 hc.1 hc.2.2 hc.2.1 w.length 0 (by omega) (by simp)
  · exact Evt.true
end Go.Proofs.Ytfbdalnjijdknaa.Pure
