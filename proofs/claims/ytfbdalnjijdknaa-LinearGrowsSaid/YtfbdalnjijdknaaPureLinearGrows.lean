/- LinearGrows: without bits behind the point a line twice as steep tells twice as much; with another base it tells so much more. -/
import Derived.Test.YtfbdalnjijdknaaHLx34
import Derived.Test.YtfbdalnjijdknaaPLinear
namespace Go.Proofs.Ytfbdalnjijdknaa.Pure
open Go.RowKit Go.Proofs.Ytfbdalnjijdknaa.HL Go.Proofs.YtfbdalnjijdknaaW.PrintWords Go.Proofs.YtfbdalnjijdknaaW.PrintLast Go.Proofs.YtfbdalnjijdknaaW.PrintMore Go.Proofs.Ytfbdalnjijdknaa.Sp
set_option linter.unusedVariables false
set_option linter.unusedSimpArgs false
theorem dots_twice : ∀ (a b : List Int), isum (dots 0 (a.map (2 * ·)) b) = 2 * isum (dots 0 a b)
  | [], _ => by simp [dots, isum]
  | _ :: _, [] => by simp [dots, isum]
  | x :: a, y :: b => by
    have ih := dots_twice a b
    simp only [dots, List.map_cons, List.zipWith_cons_cons, isum, Int.toNat_zero, Int.pow_zero, Int.ediv_one] at ih ⊢
    rw [ih, Int.mul_add, Int.mul_assoc]
theorem grows_lawB (w x : List Int) (B : Int) (h0 : V64 w) (h1 : V64 x) (hw : ∀ n ∈ w, -1048576 ≤ n ∧ n ≤ 1048576) (hx : ∀ n ∈ x, -1048576 ≤ n ∧ n ≤ 1048576) (hbd : -1099511627776 ≤ B ∧ B ≤ 1099511627776) (hl : w.length ≤ 500) (h2l : x.length ≤ 100) :
    Evt (fun k => ((linear_Tell.f w x 0).bind fun bt285 => ((linear_Tell.f (w.map (2 * ·)) x 0).bind fun bt287 => (if bt285.2 = 0 then (if bt287.2 = 0 then (if (w.length : Int) = (wrap64 ((x.length : Int) + 1)) then (if ([] : List Int).length + w.length < 17592186044416 then ((some (([] : List Int) ++ w : List Int)).bind fun y289 => (if 0 ≤ (x.length : Int) then (if (x.length : Int) < (y289.length : Int) then ((linear_Tell.f (y289.set ((x.length : Int) : Int).toNat (wrap64 ((rd y289 (x.length : Int)) + B))) x 0).bind fun bt294 => (if true = true then (if bt287.1 = (wrap64 (2 * bt285.1)) then (if bt294.2 = 0 then (some (bt294.1 == (wrap64 (bt285.1 + B)))) else (some false)) else (some false)) else (some false))) else (none)) else (none))) else (none)) else (if true = true then (if bt285.2 = bt287.2 then (some (bt285.2 != 0)) else (some false)) else (some false))) else (if true = true then (if bt285.2 = bt287.2 then (some (bt285.2 != 0)) else (some false)) else (some false))) else (if true = true then (if bt285.2 = bt287.2 then (some (bt285.2 != 0)) else (some false)) else (some false)))))) := by
  have h2 : V64 (w.map (2 * ·)) := fun n hn => by
    obtain ⟨m, hm, rfl⟩ := List.mem_map.1 hn
    have := hw m hm; unfold I64; omega
  refine ⟨0, fun k _ => ?_⟩
  have hck : checkL x.length (w.map (2 * ·)) [(x, 0)] = checkL x.length w [(x, 0)] := checkL_same (by simp) rfl
  rw [linear_Tell.of _ _ _ ⟨h0, h1⟩, linear_Tell.of _ _ _ ⟨h2, h1⟩]
  by_cases hc : checkL x.length w [(x, 0)] = 0
  · obtain ⟨c1, c2, c3, -, -, -⟩ := checkL_len hc
    have hr := hw _ (rd_mem (l := w) (i := x.length) (by omega))
    obtain ⟨d1, d2, d3⟩ := dotV_small (a := w.take x.length) (b := x) (f := 0) (A := 1048576) (B := 1048576) (by omega) (by omega) (by rw [List.length_take]; omega) (by omega) (fun n hn => hw n (List.mem_of_mem_take hn)) hx (by omega) (by omega)
    obtain ⟨e1, e2, e3⟩ := dotV_small (a := (w.map (2 * ·)).take x.length) (b := x) (f := 0) (A := 2097152) (B := 1048576) (by omega) (by omega) (by rw [List.length_take, List.length_map]; omega) (by omega) (fun n hn => by
      obtain ⟨m, hm, rfl⟩ := List.mem_map.1 (List.mem_of_mem_take hn)
      have := hw m hm; omega) hx (by omega) (by omega)
    have hrd : rd (w.map (2 * ·)) (x.length : Int) = 2 * rd w (x.length : Int) := by
      rw [rd_nat (by simp; omega), rd_nat (by omega)]; simp
    have htw : isum (dots 0 ((w.map (2 * ·)).take x.length) x) = 2 * isum (dots 0 (w.take x.length) x) := by rw [← List.map_take, dots_twice]
    have t1 : tellL w x 0 = (isum (dots 0 (w.take x.length) x) + rd w x.length, 0) := by rw [tellL_eq hc d1, res_of (by unfold I64; omega)]
    have t2 : tellL (w.map (2 * ·)) x 0 = (2 * (isum (dots 0 (w.take x.length) x) + rd w x.length), 0) := by
      rw [tellL_eq (hck.trans hc) e1, hrd, htw, res_of (by unfold I64; omega)]; congr 1; omega
    rw [t1, t2, Option.bind_some, Option.bind_some, if_pos rfl, if_pos rfl, wrap64_of (x := (x.length : Int) + 1) (by unfold I64; omega), if_pos (by omega), if_pos (by simp; omega), Option.bind_some, List.nil_append, if_pos (by omega), if_pos (by omega), Int.toNat_natCast, wrap64_of (x := rd w x.length + B) (by unfold I64; omega)]
    have hlen : (w.set x.length (rd w x.length + B)).length = w.length := List.length_set
    have hc3 : checkL x.length (w.set x.length (rd w x.length + B)) [(x, 0)] = 0 := (checkL_same hlen rfl).trans hc
    have h3 : V64 (w.set x.length (rd w x.length + B)) := fun n hn => by
      rcases List.mem_or_eq_of_mem_set hn with h | h
      · exact h0 n h
      · rw [h]; unfold I64; omega
    have t3 : tellL (w.set x.length (rd w x.length + B)) x 0 = (isum (dots 0 (w.take x.length) x) + (rd w x.length + B), 0) := by
      rw [tellL_eq hc3 (by rw [take_set_le]; exact d1), rd_set (by omega), res_of (by unfold I64; omega)]
    rw [linear_Tell.of _ _ _ ⟨h3, h1⟩, t3, Option.bind_some, if_pos rfl, wrap64_of (x := 2 * _) (by unfold I64; omega), if_pos rfl, if_pos rfl, wrap64_of (by unfold I64; omega)]
    exact congrArg some (beq_iff_eq.2 (by show isum (dots 0 (w.take x.length) x) + (rd w x.length + B) = isum (dots 0 (w.take x.length) x) + rd w x.length + B; omega))
  · rw [tellL_bad hc, tellL_bad (by rw [hck]; exact hc), hck]
    rw [Option.bind_some, Option.bind_some, if_neg hc, if_pos rfl, if_pos rfl]
    simp [hc]
theorem grows_law (w x : List Int) (b : Int) (h0 : V64 w) (h1 : V64 x) (hw : ∀ n ∈ w, -1048576 ≤ n ∧ n ≤ 1048576) (hx : ∀ n ∈ x, -1048576 ≤ n ∧ n ≤ 1048576) (hb : I64 b) (hl : w.length ≤ 500) (h2l : x.length ≤ 100) :
    Evt (fun k => ((linear_Tell.f w x 0).bind fun bt285 => ((linear_Tell.f (w.map (2 * ·)) x 0).bind fun bt287 => (if bt285.2 = 0 then (if bt287.2 = 0 then (if (w.length : Int) = (wrap64 ((x.length : Int) + 1)) then (if ([] : List Int).length + w.length < 17592186044416 then ((some (([] : List Int) ++ w : List Int)).bind fun y289 => (if 0 ≤ (x.length : Int) then (if (x.length : Int) < (y289.length : Int) then ((linear_Tell.f (y289.set ((x.length : Int) : Int).toNat (wrap64 ((rd y289 (x.length : Int)) + (Int.tmod b 1099511627776)))) x 0).bind fun bt294 => (if true = true then (if bt287.1 = (wrap64 (2 * bt285.1)) then (if bt294.2 = 0 then (some (bt294.1 == (wrap64 (bt285.1 + (Int.tmod b 1099511627776))))) else (some false)) else (some false)) else (some false))) else (none)) else (none))) else (none)) else (if true = true then (if bt285.2 = bt287.2 then (some (bt285.2 != 0)) else (some false)) else (some false))) else (if true = true then (if bt285.2 = bt287.2 then (some (bt285.2 != 0)) else (some false)) else (some false))) else (if true = true then (if bt285.2 = bt287.2 then (some (bt285.2 != 0)) else (some false)) else (some false)))))) := by
  refine grows_lawB w x (Int.tmod b 1099511627776) h0 h1 hw hx ?_ hl h2l
  have h1 := Int.tmod_lt_of_pos b (show (0 : Int) < 1099511627776 by omega)
  have h2 := Int.lt_tmod_of_pos b (show (0 : Int) < 1099511627776 by omega)
  omega
theorem grows_l1 (w x : List Int) (b : Int) (h0 : V64 w) (h1 : V64 x) (hw : ∀ n ∈ w, -1048576 ≤ n ∧ n ≤ 1048576) (hb : I64 b) (hl : w.length ≤ 500) (h2l : x.length ≤ 100) : ∀ (d i : Nat), d + i = x.length → (∀ n ∈ x.take i, -1048576 ≤ n ∧ n ≤ 1048576) →
    Evt (fun k => thrumlaw14_LinearGrows.l1 k w x b true (w.map (2 * ·)) x (x.length : Int) (i : Int)) := by
  intro d
  induction d with
  | zero =>
    intro i hd hi
    rw [List.take_of_length_le (by omega)] at hi
    refine Evt.step (grows_law w x b h0 h1 hw hi hb hl h2l) (fun k => ?_)
    rw [thrumlaw14_LinearGrows.l1.eq_2, if_neg (by omega)]
  | succ d ih =>
    intro i hd hi
    have hlt : i < x.length := by omega
    have e : rd x (i : Int) = x[i] := rd_nat hlt
    by_cases c : x[i] > 1048576
    · exact Evt.done (fun k => by rw [thrumlaw14_LinearGrows.l1.eq_2, if_pos (by omega), if_pos (by omega), if_pos (by omega), e, if_pos c])
    · by_cases c2 : x[i] < -1048576
      · exact Evt.done (fun k => by rw [thrumlaw14_LinearGrows.l1.eq_2, if_pos (by omega), if_pos (by omega), if_pos (by omega), e, if_neg c, if_pos c2])
      · refine Evt.step (ih (i + 1) (by omega) ?_) (fun k => ?_)
        · intro v hv
          rw [List.take_add_one, List.getElem?_eq_getElem hlt] at hv
          rcases List.mem_append.1 hv with h | h
          · exact hi v h
          · rw [List.mem_singleton.1 h]; omega
        · rw [thrumlaw14_LinearGrows.l1.eq_2, if_pos (by omega), if_pos (by omega), if_pos (by omega), e, if_neg c, if_neg c2, wrap64_of (by unfold I64; omega)]
          rfl
theorem grows_l0 (w x : List Int) (b : Int) (h0 : V64 w) (h1 : V64 x) (hb : I64 b) (hl : w.length ≤ 500) (h2l : x.length ≤ 100) : ∀ (d i : Nat), d + i = w.length → (∀ n ∈ w.take i, -1048576 ≤ n ∧ n ≤ 1048576) →
    Evt (fun k => thrumlaw14_LinearGrows.l0 k w x b true ((w.take i).map (2 * ·)) w (w.length : Int) (i : Int)) := by
  intro d
  induction d with
  | zero =>
    intro i hd hi
    rw [List.take_of_length_le (by omega)] at hi
    refine Evt.step (grows_l1 w x b h0 h1 hi hb hl h2l x.length 0 (by omega) (by simp)) (fun k => ?_)
    rw [thrumlaw14_LinearGrows.l0.eq_2, if_neg (by omega), List.take_of_length_le (by omega)]
    rfl
  | succ d ih =>
    intro i hd hi
    have hlt : i < w.length := by omega
    have e : rd w (i : Int) = w[i] := rd_nat hlt
    by_cases c : w[i] > 1048576
    · exact Evt.done (fun k => by rw [thrumlaw14_LinearGrows.l0.eq_2, if_pos (by omega), if_pos (by omega), if_pos (by omega), e, if_pos c])
    · by_cases c2 : w[i] < -1048576
      · exact Evt.done (fun k => by rw [thrumlaw14_LinearGrows.l0.eq_2, if_pos (by omega), if_pos (by omega), if_pos (by omega), e, if_neg c, if_pos c2])
      · refine Evt.step (ih (i + 1) (by omega) ?_) (fun k => ?_)
        · intro v hv
          rw [List.take_add_one, List.getElem?_eq_getElem hlt] at hv
          rcases List.mem_append.1 hv with h | h
          · exact hi v h
          · rw [List.mem_singleton.1 h]; omega
        · rw [thrumlaw14_LinearGrows.l0.eq_2, if_pos (by omega), if_pos (by omega), if_pos (by omega), e, if_neg c, if_neg c2, if_pos (by simp; omega), wrap64_of (x := (i : Int) + 1) (by unfold I64; omega), wrap64_of (x := 2 * w[i]) (by unfold I64; omega), List.take_add_one, List.getElem?_eq_getElem hlt, List.map_append]
          rfl
theorem LinearGrows : thrumlaw14_LinearGrows.Pure := by
  intro w x b b1 b2 w1 b3 b4 w2 w3
  have h0 := v64_of_wf w1
  have h1 := v64_of_wf w2
  have hb := i64_of_wf w3
  refine Evt.get (F := fun k => thrumlaw14_LinearGrows.f k w x b) ?_
  unfold thrumlaw14_LinearGrows.f
  rw [show thrumlaw14_live.f = some true from rfl]
  simp only [Option.bind_some, if_true, thrumref14_Few.f]
  split
  · rename_i hc
    have hc := of_decide_eq_true hc
    have hx : x.length ≤ 100 := hc.1 ⟨x, 0⟩ (by simp)
    exact grows_l0 w x b h0 h1 hb hc.2.1 hx w.length 0 (by omega) (by simp)
  · exact Evt.true
end Go.Proofs.Ytfbdalnjijdknaa.Pure
