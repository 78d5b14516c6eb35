/- LinearRight: a line that tells just what it is to has nothing to be bent, and no loss; of one sample it is X so many times as it is off, and that behind. -/
import Derived.Test.YtfbdalnjijdknaaHLx34
import Derived.Test.YtfbdalnjijdknaaPLinear
namespace Go.Proofs.Ytfbdalnjijdknaa.Pure
open Go.RowKit Go.Proofs.Ytfbdalnjijdknaa.HL Go.Proofs.YtfbdalnjijdknaaW.PrintWords Go.Proofs.YtfbdalnjijdknaaW.PrintLast Go.Proofs.YtfbdalnjijdknaaW.PrintMore Go.Proofs.Ytfbdalnjijdknaa.Sp
set_option linter.unusedVariables false
set_option linter.unusedSimpArgs false
/-- A sample that is told right. -/
def rightS (w : List Int) (f : Int) (s : S26) : S26 := ⟨s.f0, (tellL w s.f0 f).1⟩
theorem right_l1 (w : List Int) (f : Int) (l : List S26) (h0 : V64 w) (h2 : ∀ s ∈ l, Sm64 s) (ht : ∀ s ∈ l, (tellL w s.f0 f).2 = 0) (hl : 0 < l.length) (m : Nat) (hm : m ≤ 500) : ∀ (d i : Nat), d + i = m →
    Evt (fun k => thrumlaw14_LinearRight.l1 k w f l true (List.replicate m 0) ((List.replicate m (0 : Int)).length : Int) (i : Int)) := by
  intro d
  induction d with
  | zero =>
    intro i hd
    have hlen : (List.replicate m (0 : Int)).length = m := by simp
    have hs := h2 _ (List.getElem_mem hl)
    have htk := ht _ (List.getElem_mem hl)
    obtain ⟨hc, hf⟩ := tellL_ok htk
    have e : rd_T26 l 0 = l[0] := rd_sm (i := 0) hl
    refine Evt.done (fun k => ?_)
    rw [thrumlaw14_LinearRight.l1.eq_2, if_neg (by omega), if_pos (by omega), e, linear_Off.of _ _ _ _ ⟨h0, hs.1, hs.2⟩, linear_Grad.of _ _ _ ⟨h0, by intro s hs'; cases List.mem_singleton.1 hs'; exact hs⟩]
    rw [Option.bind_some, Option.bind_some, vec_Scale.of _ _ _ ⟨hs.1, offL_i64 _ _ _ _⟩, Option.bind_some, if_pos rfl]
    by_cases ho : (offL w l[0].f0 l[0].f1 f).2 = 0
    · obtain ⟨g1, g2⟩ := gradL_one (y := l[0].f1) hc ho
      have e2 : [(⟨l[0].f0, l[0].f1⟩ : S26)].map sm = [(l[0].f0, l[0].f1)] := rfl
      rw [e2, if_pos ho, if_pos g1]
      by_cases hsc : (scaleV l[0].f0 (offL w l[0].f0 l[0].f1 f).1 f).2 = 0
      · have := scaleV_lle l[0].f0 (offL w l[0].f0 l[0].f1 f).1 f
        rw [if_pos (g1.trans hsc), if_pos (by omega), g2 hsc]
        unfold thrumref02_Same.f
        rw [Option.bind_some, decide_eq_true rfl]
      · rw [if_neg (fun h => hsc (g1.symm.trans h))]
    · rw [if_neg ho]
  | succ d ih =>
    intro i hd
    have hlen : (List.replicate m (0 : Int)).length = m := by simp
    have e : rd (List.replicate m (0 : Int)) (i : Int) = 0 := by rw [rd_nat (by omega)]; simp
    refine Evt.step (ih (i + 1) (by omega)) (fun k => ?_)
    rw [thrumlaw14_LinearRight.l1.eq_2, if_pos (by omega), if_pos (by omega), if_pos (by omega), e, if_pos rfl, wrap64_of (x := (i : Int) + 1) (by unfold I64; omega)]
    rfl
theorem right_end (w : List Int) (f : Int) (l : List S26) (h0 : V64 w) (h2 : ∀ s ∈ l, Sm64 s) (ht : ∀ s ∈ l, (tellL w s.f0 f).2 = 0) (hl : 0 < l.length) (hll : l.length ≤ 100) :
    Evt (fun k => (linear_Grad.f w f (l.map (rightS w f))).bind fun bt362 => ((linear_Loss.f w f (l.map (rightS w f))).bind fun bt366 => (if (l.length : Int) > 64 then (thrumlaw14_LinearRight.j2 k w f l true bt362.1 bt362.2 bt366.1 bt366.2 true) else (if 0 < (l.length : Int) then (thrumlaw14_LinearRight.j2 k w f l true bt362.1 bt362.2 bt366.1 bt366.2 ((w.length : Int) != (wrap64 ((((rd_T26 l 0).f0).length : Int) + 1)))) else (none))))) := by
  have h3 : ∀ s ∈ l.map (rightS w f), Sm64 s := fun s hs => by
    obtain ⟨x, hx, rfl⟩ := List.mem_map.1 hs
    exact ⟨(h2 x hx).1, tellL_i64 _ _ _⟩
  have hc : ∀ s ∈ l, checkL s.f0.length w [(s.f0, 0)] = 0 := fun s hs => (tellL_ok (ht s hs)).1
  have hlen : ∀ s ∈ l, 1 ≤ (s.f0.length : Int) ∧ (s.f0.length : Int) ≤ 16 ∧ (w.length : Int) = s.f0.length + 1 := fun s hs => by obtain ⟨c1, c2, c3, -⟩ := checkL_len (hc s hs); exact ⟨c1, c2, c3⟩
  have h0l := hlen _ (List.getElem_mem hl)
  have e : rd_T26 l 0 = l[0] := rd_sm (i := 0) hl
  have ew : wrap64 ((w.length : Int) - 1) = (w.length : Int) - 1 := wrap64_of (by unfold I64; omega)
  have hfit : fitsL ((w.length : Int) - 1) w ((l.map (rightS w f)).map sm) := ⟨by omega, fun s hs => by
    obtain ⟨x, hx, rfl⟩ := List.mem_map.1 hs
    obtain ⟨y, hy, rfl⟩ := List.mem_map.1 hx
    have := hlen y hy
    show (y.f0.length : Int) = _
    omega⟩
  by_cases c : (l.length : Int) > 64
  · have hck : checkL (wrap64 ((w.length : Int) - 1)) w ((l.map (rightS w f)).map sm) = 1 := by
      unfold checkL
      rw [ew, if_neg (by omega), if_neg (fun h => h hfit), if_pos (by simp only [List.length_map]; omega)]
    have hg : (gradL w f ((l.map (rightS w f)).map sm)).2 = 1 := by unfold gradL; rw [hck]; rfl
    have hs : (lossL w f ((l.map (rightS w f)).map sm)).2 = 1 := by unfold lossL; rw [hck]; rfl
    refine Evt.done (fun k => ?_)
    rw [linear_Grad.of _ _ _ ⟨h0, h3⟩, linear_Loss.of _ _ _ ⟨h0, h3⟩, Option.bind_some, Option.bind_some, if_pos c, thrumlaw14_LinearRight.j2.eq_2, if_pos rfl, if_pos rfl, hg, hs, if_neg (by decide)]
    rfl
  · have hck : checkL (wrap64 ((w.length : Int) - 1)) w ((l.map (rightS w f)).map sm) = 0 := by
      rw [ew]; exact checkL_of (by omega) (by omega) (by omega) hfit.2 (by simp only [List.length_map]; omega) (by simp only [List.length_map]; omega)
    have hb : ∀ s ∈ l, bendL w f (sm (rightS w f s)) = (List.replicate w.length 0, 0) := fun s hs => by
      have e1 := bendL_right (ht s hs)
      have e2 : s.f0.length + 1 = w.length := by have := hlen s hs; omega
      rw [e2] at e1; exact e1
    have hrows : rowsL (bendL w f) ((l.map (rightS w f)).map sm) = (List.replicate l.length (List.replicate w.length 0), 0) := by
      have hz : ∀ s ∈ (l.map (rightS w f)).map sm, bendL w f s = (List.replicate w.length 0, 0) := fun s hs => by
        obtain ⟨x, hx, rfl⟩ := List.mem_map.1 hs
        obtain ⟨y, hy, rfl⟩ := List.mem_map.1 hx
        exact hb y hy
      rw [rowsL_ok _ (fun s hs => by rw [hz s hs])]
      congr 1
      refine List.eq_replicate_iff.2 ⟨by simp, fun v hv => ?_⟩
      obtain ⟨s, hs, rfl⟩ := List.mem_map.1 hv
      rw [hz s hs]
    have hg : gradL w f ((l.map (rightS w f)).map sm) = (List.replicate w.length 0, 0) := by
      unfold gradL
      rw [if_pos hck, hrows]
      simp only [if_true, List.length_map]
      exact meanL_zeros (by omega) hl _ (by omega)
    have hs : lossL w f ((l.map (rightS w f)).map sm) = (0, 0) := by
      unfold lossL
      rw [if_pos hck]
      have : ((l.map (rightS w f)).map sm).map (lossS w f) = List.replicate l.length ((0 : Int), (0 : Int)) := by
        refine List.eq_replicate_iff.2 ⟨by simp, fun v hv => ?_⟩
        obtain ⟨s, hs, rfl⟩ := List.mem_map.1 hv
        obtain ⟨x, hx, rfl⟩ := List.mem_map.1 hs
        obtain ⟨y, hy, rfl⟩ := List.mem_map.1 hx
        exact lossS_right (ht y hy)
      rw [this]; exact sumV_zeros _
    have hl1 := right_l1 w f l h0 h2 ht hl w.length (by omega) w.length 0 (by omega)
    have hj3 : Evt (fun k => thrumlaw14_LinearRight.j3 k w f l true (List.replicate w.length 0) 0 0 false) := Evt.step hl1 (fun k => by
      rw [thrumlaw14_LinearRight.j3.eq_2, if_neg (by decide)]; rfl)
    have hlen2 : (List.replicate w.length (0 : Int)).length = w.length := by simp
    have hj2 : Evt (fun k => thrumlaw14_LinearRight.j2 k w f l true (List.replicate w.length 0) 0 0 0 false) := Evt.step hj3 (fun k => by
      rw [thrumlaw14_LinearRight.j2.eq_2, if_neg (by decide), if_pos rfl, if_pos rfl, if_pos rfl, hlen2, bne_self_eq_false])
    refine Evt.same hj2 (fun k => ?_)
    have ew2 : ((w.length : Int) != wrap64 ((l[0].f0.length : Int) + 1)) = false := by rw [wrap64_of (by unfold I64; omega), bne_eq_false_iff_eq]; omega
    rw [linear_Grad.of _ _ _ ⟨h0, h3⟩, linear_Loss.of _ _ _ ⟨h0, h3⟩, Option.bind_some, Option.bind_some, if_neg c, if_pos (by omega), e, ew2, hg, hs]
theorem right_l0 (w : List Int) (f : Int) (l : List S26) (h0 : V64 w) (h2 : ∀ s ∈ l, Sm64 s) (hl : 0 < l.length) (hll : l.length ≤ 100) : ∀ (d i : Nat), d + i = l.length → (∀ s ∈ l.take i, (tellL w s.f0 f).2 = 0) →
    Evt (fun k => thrumlaw14_LinearRight.l0 k w f l true ((l.take i).map (rightS w f)) l (l.length : Int) (i : Int)) := by
  intro d
  induction d with
  | zero =>
    intro i hd hi
    rw [List.take_of_length_le (by omega)] at hi
    exact Evt.step (right_end w f l h0 h2 hi hl hll) (fun k => by rw [thrumlaw14_LinearRight.l0.eq_2, if_neg (by omega), List.take_of_length_le (by omega)])
  | succ d ih =>
    intro i hd hi
    have hlt : i < l.length := by omega
    have hs := h2 _ (List.getElem_mem hlt)
    have e : rd_T26 l (i : Int) = l[i] := rd_sm hlt
    have hst : ∀ k, thrumlaw14_LinearRight.l0 (k + 1) w f l true ((l.take i).map (rightS w f)) l (l.length : Int) (i : Int) = if (tellL w l[i].f0 f).2 = 0 then thrumlaw14_LinearRight.l0 k w f l true ((l.take i).map (rightS w f) ++ [⟨l[i].f0, (tellL w l[i].f0 f).1⟩]) l (l.length : Int) ((i : Int) + 1) else some true := fun k => by
      rw [thrumlaw14_LinearRight.l0.eq_2, if_pos (by omega), if_pos (by omega), if_pos (by omega), e, linear_Tell.of _ _ _ ⟨h0, hs.1⟩, Option.bind_some, if_pos (show ((l.take i).map (rightS w f)).length < 4398046511104 by rw [List.length_map, List.length_take]; omega), wrap64_of (x := (i : Int) + 1) (by unfold I64; omega)]
    by_cases c : (tellL w l[i].f0 f).2 = 0
    · refine Evt.step (ih (i + 1) (by omega) ?_) (fun k => ?_)
      · intro v hv
        rw [List.take_add_one, List.getElem?_eq_getElem hlt] at hv
        rcases List.mem_append.1 hv with h | h
        · exact hi v h
        · rw [List.mem_singleton.1 h]; exact c
      · rw [hst, if_pos c, List.take_add_one, List.getElem?_eq_getElem hlt, List.map_append]
        rfl
    · exact Evt.done (fun k => by rw [hst, if_neg c])
theorem LinearRight : thrumlaw14_LinearRight.Pure := by
  intro w f l b1 b2 w1 w2 w3
  have h1 := v64_of_wf w1
  have h3 : ∀ s ∈ l, Sm64 s := fun s hs => ⟨v64_of_wf (w3.2 s hs).1.2, i64_of_wf (w3.2 s hs).2.1⟩
  have hj : Evt (fun k => thrumlaw14_LinearRight.j0 k w f l true true) := Evt.done (fun k => by rw [thrumlaw14_LinearRight.j0.eq_2, if_pos rfl])
  refine Evt.get (F := fun k => thrumlaw14_LinearRight.f k w f l) ?_
  unfold thrumlaw14_LinearRight.f
  rw [show thrumlaw14_live.f = some true from rfl]
  simp only [Option.bind_some, if_true, thrumref14_Few.f]
  split
  · rename_i hc
    have hc := of_decide_eq_true hc
    by_cases c : (l.length : Int) = 0
    · rw [beq_iff_eq.2 c]; exact hj
    · rw [beq_eq_false_iff_ne.2 c]
      exact Evt.step (right_l0 w f l h1 h3 (by omega) hc.2.2 l.length 0 (by omega) (by simp)) (fun k => by rw [thrumlaw14_LinearRight.j0.eq_2, if_neg (by decide)]; rfl)
  · exact hj
end Go.Proofs.Ytfbdalnjijdknaa.Pure
