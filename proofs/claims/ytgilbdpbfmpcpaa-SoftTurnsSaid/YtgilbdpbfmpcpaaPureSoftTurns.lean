/- SoftTurns: with two lines in each other's places the shares are, too; of two that are the same the shares are. -/
import Derived.Test.YtgilbdpbfmpcpaaHKx9
import Derived.Test.YtgilbdpbfmpcpaaPSoft
namespace Go.Proofs.Ytgilbdpbfmpcpaa.Pure
open Go.RowKit Go.Proofs.Ytgilbdpbfmpcpaa.HK Go.Proofs.YtgilbdpbfmpcpaaW.PrintWords Go.Proofs.YtgilbdpbfmpcpaaW.PrintLast Go.Proofs.YtgilbdpbfmpcpaaW.PrintMore Go.Proofs.Ytgilbdpbfmpcpaa.Sp
set_option linter.unusedVariables false
set_option linter.unusedSimpArgs false
/-! ### two numbers' shares -/
def M2 (a b : Int) : Int := if b ≤ a then a else b
theorem M2_comm (a b : Int) : M2 a b = M2 b a := by unfold M2; split <;> split <;> omega
theorem M2_self (a : Int) : M2 a a = a := by unfold M2; split <;> rfl
theorem M2_le (a b : Int) : a ≤ M2 a b ∧ b ≤ M2 a b := by unfold M2; split <;> omega
theorem rd2_0 (a b : Int) : rd [a, b] 0 = a := rfl
theorem rd2_1 (a b : Int) : rd [a, b] 1 = b := rfl
theorem rd2_n0 (a b : Int) : rd [a, b] ((0 : Nat) : Int) = a := rfl
theorem rd2_n1 (a b : Int) : rd [a, b] ((1 : Nat) : Int) = b := rfl
theorem best2 (a b : Int) : ∃ i, IsBest [a, b] i ∧ rd [a, b] i = M2 a b := by
  unfold M2
  by_cases c : b ≤ a
  · refine ⟨0, ⟨by decide, by simp, fun j hj => ?_, fun j hj => by omega⟩, by rw [if_pos c]; rfl⟩
    rw [rd2_0]
    match j, hj with
    | 0, _ => rw [rd2_n0]; exact Int.le_refl _
    | 1, _ => rw [rd2_n1]; exact c
    | j + 2, h => simp at h; omega
  · refine ⟨1, ⟨by decide, by simp, fun j hj => ?_, fun j hj => ?_⟩, by rw [if_neg c]; rfl⟩
    · rw [rd2_1]
      match j, hj with
      | 0, _ => rw [rd2_n0]; omega
      | 1, _ => rw [rd2_n1]; exact Int.le_refl _
      | j + 2, h => simp at h; omega
    · have e : j = 0 := by omega
      subst e
      rw [rd2_n0, rd2_1]; omega
def sh2 (f a b : Int) : Int := powE (M2 a b - a) f * 2 ^ f.toNat / (powE (M2 a b - a) f + powE (M2 a b - b) f)
theorem soft2 {f : Int} (hf : 0 ≤ f ∧ f ≤ 30) (a b : Int) : softV f [a, b] = if M2 a b - a ≤ 9223372036854775807 ∧ M2 a b - b ≤ 9223372036854775807 then ([sh2 f a b, sh2 f b a], 0) else ([], 2) := by
  obtain ⟨i, hb, hr⟩ := best2 a b
  have hn : NearB (M2 a b) [a, b] ↔ (M2 a b - a ≤ 9223372036854775807 ∧ M2 a b - b ≤ 9223372036854775807) := by
    unfold NearB
    constructor
    · intro h; exact ⟨h a (by simp), h b (by simp)⟩
    · intro h x hx
      rcases List.mem_cons.1 hx with e | e
      · rw [e]; exact h.1
      · rcases List.mem_cons.1 e with e | e
        · rw [e]; exact h.2
        · cases e
  by_cases c : NearB (M2 a b) [a, b]
  · rw [if_pos (hn.1 c), softV_near hb (by simp) hf (by rw [hr]; exact c), hr]
    have hs : sumI (pows (M2 a b) f [a, b]) = powE (M2 a b - a) f + powE (M2 a b - b) f := by
      unfold pows
      rw [List.map_cons, List.map_cons, List.map_nil, sumI, sumI, sumI, Int.add_zero]
    unfold shares
    rw [hs]
    unfold pows
    simp only [List.map_cons, List.map_nil]
    unfold sh2
    rw [M2_comm b a, Int.add_comm (powE (M2 a b - b) f)]
  · rw [if_neg (fun h => c (hn.2 h)), softV_far hb (by simp) hf (by rw [hr]; exact c)]
/-! ### two lines -/
theorem chunks2 {m : Nat} {a b : List Int} (ha : a.length = m) (hb : b.length = m) : chunksS m (a ++ b) 2 = [a, b] := by
  unfold chunksS
  have e : List.range 2 = [0, 1] := rfl
  have h0 : ((a ++ b).drop (0 * m)).take m = a := by rw [Nat.zero_mul, List.drop_zero, List.take_left' ha]
  have h1 : ((a ++ b).drop (1 * m)).take m = b := by rw [Nat.one_mul, List.drop_left' ha, List.take_of_length_le (by omega)]
  rw [e, List.map_cons, List.map_cons, List.map_nil, h0, h1]
theorem rows2 {m : Nat} {a b : List Int} (hm : 2 ≤ m ∧ m ≤ 17) (ha : a.length = m) (hb : b.length = m) : rowsS 2 (a ++ b) = ([a, b], 0) := by
  have h := rowsS_of (k := 2) (m := m) (w := a ++ b) ⟨by decide, by decide⟩ hm (by rw [List.length_append]; omega)
  rw [chunks2 ha hb] at h
  exact h
theorem seq2 (p q : Int × Int) : seqV [p, q] = if p.2 = 0 then (if q.2 = 0 then ([p.1, q.1], 0) else ([], q.2)) else ([], p.2) := by
  simp only [seqV]
  by_cases c : p.2 = 0
  · rw [if_pos c, if_pos c]
    by_cases d : q.2 = 0
    · simp [d]
    · simp [d]
  · rw [if_neg c, if_neg c]
theorem lines2 {m : Nat} {a b x : List Int} {f : Int} (hm : 2 ≤ m ∧ m ≤ 17) (ha : a.length = m) (hb : b.length = m) :
    linesS 2 (a ++ b) x f = if (m : Int) - 1 ≠ x.length then ([], 4) else if f < 0 ∨ f > 30 then ([], 1) else seqV [tellL a x f, tellL b x f] := by
  unfold linesS
  rw [rows2 hm ha hb]
  dsimp only
  rw [if_neg (by decide), show List.getD [a, b] 0 [] = a from rfl, ha]
  rfl
/-- What must be so for two lines to tell. -/
def Ok2 (a b x : List Int) (f : Int) : Prop := (tellL a x f).2 = 0 ∧ (tellL b x f).2 = 0 ∧ M2 (tellL a x f).1 (tellL b x f).1 - (tellL a x f).1 ≤ 9223372036854775807 ∧ M2 (tellL a x f).1 (tellL b x f).1 - (tellL b x f).1 ≤ 9223372036854775807
theorem tell2 {m : Nat} {a b x : List Int} {f : Int} (hm : 2 ≤ m ∧ m ≤ 17) (ha : a.length = m) (hb : b.length = m) :
    (((m : Int) - 1 = x.length ∧ (0 ≤ f ∧ f ≤ 30) ∧ Ok2 a b x f) ∧ tellS 2 (a ++ b) x f = ([sh2 f (tellL a x f).1 (tellL b x f).1, sh2 f (tellL b x f).1 (tellL a x f).1], 0)) ∨
    (¬ ((m : Int) - 1 = x.length ∧ (0 ≤ f ∧ f ≤ 30) ∧ Ok2 a b x f) ∧ (tellS 2 (a ++ b) x f).2 ≠ 0) := by
  have hl := lines2 (x := x) (f := f) hm ha hb
  unfold tellS
  by_cases c1 : (m : Int) - 1 = x.length
  · rw [if_neg (not_not_intro c1)] at hl
    by_cases c2 : f < 0 ∨ f > 30
    · rw [if_pos c2] at hl
      rw [hl]
      exact .inr ⟨fun h => by have := h.2.1; omega, by simp⟩
    · have hf : 0 ≤ f ∧ f ≤ 30 := by omega
      rw [if_neg c2, seq2] at hl
      by_cases c3 : (tellL a x f).2 = 0
      · rw [if_pos c3] at hl
        by_cases c4 : (tellL b x f).2 = 0
        · rw [if_pos c4] at hl
          rw [hl]
          dsimp only
          rw [if_pos rfl, soft2 hf]
          by_cases c5 : M2 (tellL a x f).1 (tellL b x f).1 - (tellL a x f).1 ≤ 9223372036854775807 ∧ M2 (tellL a x f).1 (tellL b x f).1 - (tellL b x f).1 ≤ 9223372036854775807
          · rw [if_pos c5]
            exact .inl ⟨⟨c1, hf, c3, c4, c5.1, c5.2⟩, rfl⟩
          · rw [if_neg c5]
            exact .inr ⟨fun h => c5 ⟨h.2.2.2.2.1, h.2.2.2.2.2⟩, by simp⟩
        · rw [if_neg c4] at hl
          rw [hl]
          dsimp only
          rw [if_neg c4]
          exact .inr ⟨fun h => c4 h.2.2.2.1, c4⟩
      · rw [if_neg c3] at hl
        rw [hl]
        dsimp only
        rw [if_neg c3]
        exact .inr ⟨fun h => c3 h.2.2.1, c3⟩
  · rw [if_pos c1] at hl
    rw [hl]
    exact .inr ⟨fun h => c1 h.1, by simp⟩
theorem ok2_swap {a b x : List Int} {f : Int} (h : Ok2 a b x f) : Ok2 b a x f := by
  obtain ⟨h1, h2, h3, h4⟩ := h
  refine ⟨h2, h1, ?_, ?_⟩
  · rw [M2_comm]; exact h4
  · rw [M2_comm]; exact h3
theorem ok2_self {a b x : List Int} {f : Int} (h : Ok2 a b x f) : Ok2 a a x f := by
  obtain ⟨h1, h2, h3, h4⟩ := h
  refine ⟨h1, h1, ?_, ?_⟩ <;> rw [M2_self, Int.sub_self] <;> decide
theorem rowsS_err2 {o : Int} {w : List Int} (h : (rowsS o w).2 ≠ 0) : (rowsS o w).1 = [] := by
  unfold rowsS at h ⊢
  split
  · rfl
  · rename_i c
    rw [if_neg c] at h
    split
    · rename_i c2; rw [if_pos c2] at h; exact absurd rfl h
    · rfl
theorem turns_j0 {m : Nat} {a b x : List Int} {f : Int} (hm : 2 ≤ m ∧ m ≤ 17) (ha : a.length = m) (hb : b.length = m) (va : V64 a) (vb : V64 b) (vx : V64 x) :
    thrumlaw15_SoftTurns.j0 1 (a ++ b) x f true [a, b] 0 false = some true := by
  have vab : V64 (a ++ b) := fun y hy => (List.mem_append.1 hy).elim (va y) (vb y)
  have vba : V64 (b ++ a) := fun y hy => (List.mem_append.1 hy).elim (vb y) (va y)
  have vaa : V64 (a ++ a) := fun y hy => (List.mem_append.1 hy).elim (va y) (va y)
  have eA : rd_L1 [a, b] 0 = a := rfl
  have eB : rd_L1 [a, b] 1 = b := rfl
  have l0 : (0 : Int) < (([a, b] : List (List Int)).length : Int) := by simp
  have l1 : (1 : Int) < (([a, b] : List (List Int)).length : Int) := by simp
  have n1 : ([] : List Int).length + b.length < 17592186044416 := by rw [List.length_nil]; omega
  have n2 : ([] : List Int).length + a.length < 17592186044416 := by rw [List.length_nil]; omega
  have n3 : b.length + a.length < 17592186044416 := by omega
  have n4 : a.length + a.length < 17592186044416 := by omega
  have fT : ∀ w : List Int, V64 w → soft_Tell.f 2 w x f = some (tellS 2 w x f) := fun w hw => if_pos ⟨hw, vx⟩
  rw [thrumlaw15_SoftTurns.j0, if_neg (by decide), fT _ vab, Option.bind_some, if_pos l1, eB, if_pos n1, List.nil_append, Option.bind_some, if_pos l0, eA, if_pos n3, fT _ vba, Option.bind_some, if_pos n2, List.nil_append, Option.bind_some, if_pos n4, fT _ vaa, Option.bind_some]
  rcases tell2 (x := x) (f := f) hm ha hb with ⟨hc, h1⟩ | ⟨hc, h1⟩
  · rcases tell2 (x := x) (f := f) hm hb ha with ⟨hd, h2⟩ | ⟨hd, h2⟩
    · rcases tell2 (x := x) (f := f) hm ha ha with ⟨he, h3⟩ | ⟨he, h3⟩
      · rw [h1, h2, h3]
        simp only [rd2_0, rd2_1, List.length_cons, List.length_nil]
        simp
      · exact absurd ⟨hc.1, hc.2.1, ok2_self hc.2.2⟩ he
    · exact absurd ⟨hc.1, hc.2.1, ok2_swap hc.2.2⟩ hd
  · rcases tell2 (x := x) (f := f) hm hb ha with ⟨hd, h2⟩ | ⟨hd, h2⟩
    · exact absurd ⟨hd.1, hd.2.1, ok2_swap hd.2.2⟩ hc
    · rw [if_neg h1, if_pos rfl, show ((tellS 2 (b ++ a) x f).2 != 0) = true from bne_iff_ne.2 h2]
theorem SoftTurns : thrumlaw15_SoftTurns.Pure := by
  intro w x f hm hs wl hmx hsx wx wf
  have hw := v64_of_wf wl
  have hx := v64_of_wf wx
  refine ⟨1, ?_⟩
  unfold thrumlaw15_SoftTurns.f
  rw [show thrumlaw15_live.f = some true from rfl, Option.bind_some, if_pos rfl]
  by_cases c : ((∀ s ∈ ([(⟨x, 0⟩ : S26)] : List S26), s.f0.length ≤ 100) ∧ w.length ≤ 500 ∧ ([(⟨x, 0⟩ : S26)] : List S26).length ≤ 100)
  · rw [show thrumref14_Few.f w ([(⟨x, 0⟩ : S26)] : List S26) = some true from congrArg some (decide_eq_true c), Option.bind_some, if_pos rfl, show soft_Rows.f 2 w = some (rowsS 2 w) from rfl, Option.bind_some]
    by_cases e : (rowsS 2 w).2 = 0
    · obtain ⟨k, m, hk, hk2, hk8, hm2, hm17, hmk, hr⟩ := rowsS_good e
      have hk' : k = 2 := by omega
      subst hk'
      have hA : (w.take m).length = m := by rw [List.length_take]; omega
      have hB : (w.drop m).length = m := by rw [List.length_drop]; omega
      have vA : V64 (w.take m) := fun y hy => hw y (List.mem_of_mem_take hy)
      have vB : V64 (w.drop m) := fun y hy => hw y (List.mem_of_mem_drop hy)
      have h := turns_j0 (x := x) (f := f) ⟨hm2, hm17⟩ hA hB vA vB hx
      have hR := rows2 ⟨hm2, hm17⟩ hA hB
      rw [List.take_append_drop] at h hR
      rw [hR, if_pos rfl]
      exact h
    · rw [if_neg e, thrumlaw15_SoftTurns.j0, if_pos rfl, if_pos rfl, show ((rowsS 2 w).2 != 0) = true from bne_iff_ne.2 e]
  · rw [show thrumref14_Few.f w ([(⟨x, 0⟩ : S26)] : List S26) = some false from congrArg some (decide_eq_false c), Option.bind_some, if_neg (by decide)]
end Go.Proofs.Ytgilbdpbfmpcpaa.Pure
