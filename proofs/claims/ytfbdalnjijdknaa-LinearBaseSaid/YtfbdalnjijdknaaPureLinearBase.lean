/- LinearBase: with its base greater, and what each sample is to tell greater, by the same, a line is to be bent just as it was. -/
import Derived.Test.YtfbdalnjijdknaaHLx36
import Derived.Test.YtfbdalnjijdknaaPLinear
namespace Go.Proofs.Ytfbdalnjijdknaa.Pure
open Go.RowKit Go.Proofs.Ytfbdalnjijdknaa.HL Go.Proofs.YtfbdalnjijdknaaW.PrintWords Go.Proofs.YtfbdalnjijdknaaW.PrintLast Go.Proofs.YtfbdalnjijdknaaW.PrintMore Go.Proofs.Ytfbdalnjijdknaa.Sp
set_option linter.unusedVariables false
set_option linter.unusedSimpArgs false
/-- A sample that is to tell so much more. -/
def upS (b : Int) (s : S26) : S26 := ⟨s.f0, s.f1 + b⟩
def other (w : List Int) (b : Int) : List Int := w.set (w.length - 1) (rd w ((w.length - 1 : Nat) : Int) + b)
theorem base_end (w : List Int) (f : Int) (l : List S26) (b : Int) (h0 : V64 w) (h2 : ∀ s ∈ l, Sm64 s) (hw : ∀ n ∈ w, -1099511627776 ≤ n ∧ n ≤ 1099511627776) (hy : ∀ s ∈ l, -1152921504606846976 ≤ s.f1 ∧ s.f1 ≤ 1152921504606846976) (hx : ∀ s ∈ l, ∀ n ∈ s.f0, -32768 ≤ n ∧ n ≤ 32768) (hb : -1099511627776 ≤ b ∧ b ≤ 1099511627776) (hl : 0 < w.length) :
    ((linear_Grad.f w f l).bind fun bt415 => ((linear_Grad.f (other w b) f (l.map (upS b))).bind fun bt419 => ((linear_Loss.f w f l).bind fun bt423 => ((linear_Loss.f (other w b) f (l.map (upS b))).bind fun bt425 => (if true = true then (if bt415.2 = bt419.2 then ((thrumref02_Same.f bt415.1 bt419.1).bind fun t427 => (if t427 = true then (if bt423.1 = bt425.1 then (some (bt423.2 == bt425.2)) else (some false)) else (some false))) else (some false)) else (some false)))))) = some true := by
  have hr : I64 (rd w ((w.length - 1 : Nat) : Int) + b) := by have := hw _ (rd_mem (l := w) (i := w.length - 1) (by omega)); unfold I64; omega
  have h1 : V64 (other w b) := fun n hn => by
    rcases List.mem_or_eq_of_mem_set hn with h | h
    · exact h0 n h
    · rw [h]; exact hr
  have h3 : ∀ s ∈ l.map (upS b), Sm64 s := fun s hs => by
    obtain ⟨x, hx', rfl⟩ := List.mem_map.1 hs
    have := hy x hx'
    exact ⟨(h2 x hx').1, by show I64 (x.f1 + b); unfold I64; omega⟩
  have hlen : (other w b).length = w.length := List.length_set
  have hck : ∀ n, checkL n (other w b) ((l.map (upS b)).map sm) = checkL n w (l.map sm) := fun n => checkL_same hlen (by rw [List.map_map, List.map_map, List.map_map]; rfl)
  have hoff : checkL (wrap64 ((w.length : Int) - 1)) w (l.map sm) = 0 → ∀ s ∈ l, offL (other w b) (upS b s).f0 (upS b s).f1 f = offL w s.f0 s.f1 f := fun hc s hs => by
    have hc' := checkL_len hc
    have e : (s.f0.length : Int) = wrap64 ((w.length : Int) - 1) := hc'.2.2.2.1 (sm s) (List.mem_map.2 ⟨s, hs, rfl⟩)
    have e2 : w.length - 1 = s.f0.length := by omega
    show offL (w.set (w.length - 1) (rd w ((w.length - 1 : Nat) : Int) + b)) s.f0 (s.f1 + b) f = _
    rw [e2]
    exact offL_base hw (hx s hs) (hy s hs) hb (by omega)
  have hg : gradL (other w b) f ((l.map (upS b)).map sm) = gradL w f (l.map sm) := by
    unfold gradL
    rw [hlen, hck]
    by_cases hc : checkL (wrap64 ((w.length : Int) - 1)) w (l.map sm) = 0
    · rw [if_pos hc, if_pos hc]
      have e : rowsL (bendL (other w b) f) ((l.map (upS b)).map sm) = rowsL (bendL w f) (l.map sm) := by
        refine rowsL_congr ?_
        rw [List.map_map, List.map_map, List.map_map]
        refine List.map_congr_left (fun s hs => ?_)
        have := hoff hc s hs
        show bendL (other w b) f (sm (upS b s)) = bendL w f (sm s)
        exact bendL_congr this
      rw [e, List.length_map, List.length_map, List.length_map]
    · rw [if_neg hc, if_neg hc]
  have hs : lossL (other w b) f ((l.map (upS b)).map sm) = lossL w f (l.map sm) := by
    unfold lossL
    rw [hlen, hck]
    by_cases hc : checkL (wrap64 ((w.length : Int) - 1)) w (l.map sm) = 0
    · rw [if_pos hc, if_pos hc]
      have e : ((l.map (upS b)).map sm).map (lossS (other w b) f) = (l.map sm).map (lossS w f) := by
        rw [List.map_map, List.map_map, List.map_map]
        refine List.map_congr_left (fun s hs => ?_)
        have := hoff hc s hs
        show lossS (other w b) f (sm (upS b s)) = lossS w f (sm s)
        exact lossS_congr this
      rw [e]
    · rw [if_neg hc, if_neg hc]
  rw [linear_Grad.of _ _ _ ⟨h0, h2⟩, linear_Grad.of _ _ _ ⟨h1, h3⟩, linear_Loss.of _ _ _ ⟨h0, h2⟩, linear_Loss.of _ _ _ ⟨h1, h3⟩, hg, hs, Option.bind_some, Option.bind_some, Option.bind_some, Option.bind_some, if_pos rfl, if_pos rfl]
  unfold thrumref02_Same.f
  rw [Option.bind_some, if_pos (decide_eq_true rfl), if_pos rfl, beq_self_eq_true]
/-- A loop that looks whether all numbers are small. -/
theorem small_loop (L : Nat → Int → Option Bool) (row : List Int) (m : Int) (hb : row.length ≤ 1000) (next : (∀ n ∈ row, -m ≤ n ∧ n ≤ m) → Evt (fun k => L (k + 1) row.length))
    (hs : ∀ k (j : Nat), j < row.length → L (k + 1) j = if rd row j > m then some true else if rd row j < -m then some true else L k ((j : Int) + 1)) : ∀ (d j : Nat), d + j = row.length → (∀ n ∈ row.take j, -m ≤ n ∧ n ≤ m) → Evt (fun k => L k j) := by
  intro d
  induction d with
  | zero =>
    intro j hd hj
    rw [List.take_of_length_le (by omega)] at hj
    have e : (j : Int) = (row.length : Int) := by omega
    rw [e]
    exact (by
      obtain ⟨K, hK⟩ := next hj
      exact ⟨K + 1, fun k hk => by obtain ⟨q, rfl⟩ : ∃ q, k = q + 1 := ⟨k - 1, by omega⟩; exact hK q (by omega)⟩)
  | succ d ih =>
    intro j hd hj
    have hlt : j < row.length := by omega
    have e : rd row (j : Int) = row[j] := rd_nat hlt
    by_cases c : rd row (j : Int) > m
    · exact Evt.done (fun k => by rw [hs k j hlt, if_pos c])
    · by_cases c2 : rd row (j : Int) < -m
      · exact Evt.done (fun k => by rw [hs k j hlt, if_neg c, if_pos c2])
      · refine Evt.step (ih (j + 1) (by omega) ?_) (fun k => ?_)
        · intro v hv
          rw [List.take_add_one, List.getElem?_eq_getElem hlt] at hv
          rcases List.mem_append.1 hv with h | h
          · exact hj v h
          · rw [List.mem_singleton.1 h, ← e]; omega
        · rw [hs k j hlt, if_neg c, if_neg c2]; rfl
theorem base_l2 (w : List Int) (f : Int) (l : List S26) (b : Int) (h0 : V64 w) (h2 : ∀ s ∈ l, Sm64 s) (hw : ∀ n ∈ w, -1099511627776 ≤ n ∧ n ≤ 1099511627776) (hy : ∀ s ∈ l, -1152921504606846976 ≤ s.f1 ∧ s.f1 ≤ 1152921504606846976) (hb : -1099511627776 ≤ b ∧ b ≤ 1099511627776) (hl : 0 < w.length) (hs : ∀ s ∈ l, s.f0.length ≤ 100) (hll : l.length ≤ 100) : ∀ (d i : Nat), d + i = l.length → (∀ s ∈ l.take i, ∀ n ∈ s.f0, -32768 ≤ n ∧ n ≤ 32768) →
    Evt (fun k => thrumlaw14_LinearBase.l2 k w f l true (other w b) (l.map (upS b)) l (l.length : Int) (i : Int)) := by
  intro d
  induction d with
  | zero =>
    intro i hd hi
    rw [List.take_of_length_le (by omega)] at hi
    refine Evt.done (fun k => ?_)
    rw [thrumlaw14_LinearBase.l2.eq_2, if_neg (by omega)]
    exact base_end w f l b h0 h2 hw hy hi hb hl
  | succ d ih =>
    intro i hd hi
    have hlt : i < l.length := by omega
    have e : rd_T26 l (i : Int) = l[i] := rd_sm hlt
    have hl3 : Evt (fun k => thrumlaw14_LinearBase.l3 k w f l true (other w b) (l.map (upS b)) l (l.length : Int) (i : Int) l[i].f0 (l[i].f0.length : Int) ((0 : Nat) : Int)) := by
      have hlen := hs _ (List.getElem_mem hlt)
      refine small_loop (fun k j => thrumlaw14_LinearBase.l3 k w f l true (other w b) (l.map (upS b)) l (l.length : Int) (i : Int) l[i].f0 (l[i].f0.length : Int) j) l[i].f0 32768 (by omega) (fun hn => ?_) (fun k j hj => ?_) l[i].f0.length 0 (by omega) (by simp)
      · refine Evt.same (ih (i + 1) (by omega) (fun s hs' => ?_)) (fun k => ?_)
        · rw [List.take_add_one, List.getElem?_eq_getElem hlt] at hs'
          rcases List.mem_append.1 hs' with h | h
          · exact hi s h
          · rw [List.mem_singleton.1 h]; exact hn
        · rw [thrumlaw14_LinearBase.l3.eq_2, if_neg (by omega), wrap64_of (x := (i : Int) + 1) (by unfold I64; omega)]; rfl
      · rw [thrumlaw14_LinearBase.l3.eq_2, if_pos (by omega), if_pos (by omega), if_pos (by omega), wrap64_of (x := (j : Int) + 1) (by unfold I64; omega)]
    refine Evt.step hl3 (fun k => ?_)
    rw [thrumlaw14_LinearBase.l2.eq_2, if_pos (by omega), if_pos (by omega), if_pos (by omega), e]
    rfl
theorem base_l0 (w : List Int) (f : Int) (l : List S26) (b : Int) (h0 : V64 w) (h2 : ∀ s ∈ l, Sm64 s) (hb : -1099511627776 ≤ b ∧ b ≤ 1099511627776) (hl : 0 < w.length) (hwl : w.length ≤ 500) (hs : ∀ s ∈ l, s.f0.length ≤ 100) (hll : l.length ≤ 100) : ∀ (d i : Nat), d + i = l.length → (∀ s ∈ l.take i, -1152921504606846976 ≤ s.f1 ∧ s.f1 ≤ 1152921504606846976) →
    Evt (fun k => thrumlaw14_LinearBase.l0 k w f l b true (w.set (w.length - 1) (wrap64 (rd w ((w.length - 1 : Nat) : Int) + b))) ((l.take i).map (upS b)) l (l.length : Int) (i : Int)) := by
  intro d
  induction d with
  | zero =>
    intro i hd hi
    rw [List.take_of_length_le (by omega)] at hi
    have hl1 : Evt (fun k => thrumlaw14_LinearBase.l1 k w f l true (w.set (w.length - 1) (wrap64 (rd w ((w.length - 1 : Nat) : Int) + b))) (l.map (upS b)) w (w.length : Int) ((0 : Nat) : Int)) := by
      refine small_loop (fun k j => thrumlaw14_LinearBase.l1 k w f l true (w.set (w.length - 1) (wrap64 (rd w ((w.length - 1 : Nat) : Int) + b))) (l.map (upS b)) w (w.length : Int) j) w 1099511627776 (by omega) (fun hn => ?_) (fun k j hj => ?_) w.length 0 (by omega) (by simp)
      · have hr : wrap64 (rd w ((w.length - 1 : Nat) : Int) + b) = rd w ((w.length - 1 : Nat) : Int) + b := wrap64_of (by have := hn _ (rd_mem (l := w) (i := w.length - 1) (by omega)); unfold I64; omega)
        refine Evt.same (base_l2 w f l b h0 h2 hn hi hb hl hs hll l.length 0 (by omega) (by simp)) (fun k => ?_)
        rw [thrumlaw14_LinearBase.l1.eq_2, if_neg (by omega), hr]; rfl
      · rw [thrumlaw14_LinearBase.l1.eq_2, if_pos (by omega), if_pos (by omega), if_pos (by omega), wrap64_of (x := (j : Int) + 1) (by unfold I64; omega)]
    exact Evt.step hl1 (fun k => by rw [thrumlaw14_LinearBase.l0.eq_2, if_neg (by omega), List.take_of_length_le (by omega)]; rfl)
  | succ d ih =>
    intro i hd hi
    have hlt : i < l.length := by omega
    have e : rd_T26 l (i : Int) = l[i] := rd_sm hlt
    have hst : ∀ k, thrumlaw14_LinearBase.l0 (k + 1) w f l b true (w.set (w.length - 1) (wrap64 (rd w ((w.length - 1 : Nat) : Int) + b))) ((l.take i).map (upS b)) l (l.length : Int) (i : Int) = if l[i].f1 > 1152921504606846976 then some true else if l[i].f1 < -1152921504606846976 then some true else thrumlaw14_LinearBase.l0 k w f l b true (w.set (w.length - 1) (wrap64 (rd w ((w.length - 1 : Nat) : Int) + b))) ((l.take i).map (upS b) ++ [⟨l[i].f0, wrap64 (l[i].f1 + b)⟩]) l (l.length : Int) ((i : Int) + 1) := fun k => by
      rw [thrumlaw14_LinearBase.l0.eq_2, if_pos (by omega), if_pos (by omega), if_pos (by omega), e, if_pos (show ((l.take i).map (upS b)).length < 4398046511104 by rw [List.length_map, List.length_take]; omega), wrap64_of (x := (i : Int) + 1) (by unfold I64; omega)]
    by_cases c : l[i].f1 > 1152921504606846976
    · exact Evt.done (fun k => by rw [hst, if_pos c])
    · by_cases c2 : l[i].f1 < -1152921504606846976
      · exact Evt.done (fun k => by rw [hst, if_neg c, if_pos c2])
      · refine Evt.step (ih (i + 1) (by omega) ?_) (fun k => ?_)
        · intro v hv
          rw [List.take_add_one, List.getElem?_eq_getElem hlt] at hv
          rcases List.mem_append.1 hv with h | h
          · exact hi v h
          · rw [List.mem_singleton.1 h]; omega
        · rw [hst, if_neg c, if_neg c2, wrap64_of (x := l[i].f1 + b) (by unfold I64; omega), List.take_add_one, List.getElem?_eq_getElem hlt, List.map_append]
          rfl
theorem LinearBase : thrumlaw14_LinearBase.Pure := by
  intro w f l b0 b1 b2 w1 w2 w3 w4
  have h1 := v64_of_wf w1
  have h3 : ∀ s ∈ l, Sm64 s := fun s hs => ⟨v64_of_wf (w3.2 s hs).1.2, i64_of_wf (w3.2 s hs).2.1⟩
  have hj : Evt (fun k => thrumlaw14_LinearBase.j0 k w f l b0 true true) := Evt.done (fun k => by rw [thrumlaw14_LinearBase.j0.eq_2, if_pos rfl])
  have hb : -1099511627776 ≤ Int.tmod b0 1099511627776 ∧ Int.tmod b0 1099511627776 ≤ 1099511627776 := by
    have h1 := Int.tmod_lt_of_pos b0 (show (0 : Int) < 1099511627776 by omega)
    have h2 := Int.lt_tmod_of_pos b0 (show (0 : Int) < 1099511627776 by omega)
    omega
  refine Evt.get (F := fun k => thrumlaw14_LinearBase.f k w f l b0) ?_
  unfold thrumlaw14_LinearBase.f
  rw [show thrumlaw14_live.f = some true from rfl]
  simp only [Option.bind_some, if_true, thrumref14_Few.f]
  split
  · rename_i hc
    have hc := of_decide_eq_true hc
    by_cases c : (w.length : Int) = 0
    · rw [beq_iff_eq.2 c]; exact hj
    · rw [beq_eq_false_iff_ne.2 c]
      refine Evt.step (base_l0 w f l (Int.tmod b0 1099511627776) h1 h3 hb (by omega) hc.2.1 hc.1 hc.2.2 l.length 0 (by omega) (by simp)) (fun k => ?_)
      have e : wrap64 ((w.length : Int) - 1) = ((w.length - 1 : Nat) : Int) := by rw [wrap64_of (by unfold I64; omega)]; omega
      rw [thrumlaw14_LinearBase.j0.eq_2, if_neg (by decide), if_pos (by simp; omega), Option.bind_some, List.nil_append, e, if_pos (by omega), if_pos (by omega), Int.toNat_natCast]
      rfl
  · exact hj
end Go.Proofs.Ytfbdalnjijdknaa.Pure
