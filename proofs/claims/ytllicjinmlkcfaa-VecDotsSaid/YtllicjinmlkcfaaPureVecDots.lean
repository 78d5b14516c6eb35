/- VecDots: a product is the same either way round; with ones it is the sum; with itself it is not below 0. -/
import Derived.Test.YtllicjinmlkcfaaHBx4
import Derived.Test.YtllicjinmlkcfaaPVec
namespace Go.Proofs.Ytllicjinmlkcfaa.Pure
open Go.RowKit Go.Proofs.Ytllicjinmlkcfaa.HB Go.Proofs.YtllicjinmlkcfaaW.PrintWords Go.Proofs.YtllicjinmlkcfaaW.PrintLast Go.Proofs.YtllicjinmlkcfaaW.PrintMore Go.Proofs.Ytllicjinmlkcfaa.Sp
set_option linter.unusedVariables false
set_option linter.unusedSimpArgs false
/-- All numbers become one. -/
theorem dots_l0 (l : List Int) : ∀ (d m i : Nat) (x : List Int), d + i = x.length → x.length ≤ 4096 → (∀ j, j < i → x[j]? = some 1) →
    thrumlaw02_VecDots.l0 (m + d + 1) l true x (x.length : Int) (i : Int) = thrumlaw02_VecDots.l1 m l true (List.replicate x.length 1) 0 l (l.length : Int) 0 := by
  intro d
  induction d with
  | zero =>
    intro m i x hd hb hx
    rw [thrumlaw02_VecDots.l0.eq_2, if_neg (by omega)]
    have : x = List.replicate x.length 1 := by
      refine List.ext_getElem? (fun j => ?_)
      by_cases hj : j < x.length
      · rw [hx j (by omega), List.getElem?_replicate, if_pos hj]
      · rw [List.getElem?_eq_none (by omega), List.getElem?_eq_none (by simp; omega)]
    rw [← this]
  | succ d ih =>
    intro m i x hd hb hx
    rw [show m + (d + 1) + 1 = (m + d + 1) + 1 by omega, thrumlaw02_VecDots.l0.eq_2, if_pos (by omega), if_pos (by omega), if_pos (by omega), wrap64_of (by unfold I64; omega), show (i : Int) + 1 = ((i + 1 : Nat) : Int) by omega]
    have h := ih m (i + 1) (x.set (i : Int).toNat 1) (by simp; omega) (by simp; omega) (by
      intro j hj
      rw [Int.toNat_natCast]
      by_cases e : i = j
      · rw [← e, List.getElem?_set_self (by omega)]
      · rw [List.getElem?_set_ne e]; exact hx j (by omega))
    simpa using h
theorem isum_append (a b : List Int) : isum (a ++ b) = isum a + isum b := by
  induction a with
  | nil => simp [isum]
  | cons x a ih => simp only [List.cons_append, isum, ih]; omega
/-- The sum of what is not too great. -/
theorem dots_l1 (l : List Int) (hv : V64 l) (hb : l.length ≤ 4096) : ∀ (d m i : Nat) (s : Int), d + i = l.length → (∀ x ∈ l.take i, -1099511627776 ≤ x ∧ x ≤ 1099511627776) → s = isum (l.take i) →
    thrumlaw02_VecDots.l1 (m + d + 1) l true (List.replicate l.length 1) s l (l.length : Int) (i : Int) = some true := by
  intro d
  induction d with
  | zero =>
    intro m i s hd hx hs
    rw [thrumlaw02_VecDots.l1.eq_2, if_neg (by omega)]
    have ht : l.take i = l := List.take_of_length_le (by omega)
    rw [ht] at hx hs
    rw [vec_Dot.of _ _ _ ⟨hv, by intro x hx; rw [(List.mem_replicate.1 hx).2]; decide⟩]
    simp only [Option.bind_some, if_true]
    have hz : ∀ l : List Int, V64 l → List.zipWith (fun x y => mulF x y 0) l (List.replicate l.length 1) = l.map fun x => (x, 0) := by
      intro l
      induction l with
      | nil => intro _; rfl
      | cons x l ih =>
        intro hv
        rw [List.length_cons, List.replicate_succ, List.zipWith_cons_cons, mulF_one (hv x (by simp)), ih (fun y hy => hv y (by simp [hy]))]; rfl
    have hd : dotV l (List.replicate l.length 1) 0 = (isum l, 0) := by
      unfold dotV
      rw [if_pos (pairE_of (by simp) hb), if_pos (fracE_of (by omega) (by omega)), hz l hv, sumV_ok 1099511627776 (by omega) l 0 hx (by omega), Int.zero_add]
    rw [hd, if_pos rfl, hs]; simp
  | succ d ih =>
    intro m i s hd hx hs
    have hi : i < l.length := by omega
    rw [show m + (d + 1) + 1 = (m + d + 1) + 1 by omega, thrumlaw02_VecDots.l1.eq_2, if_pos (by omega), if_pos (by omega), if_pos (by omega), show rd l (i : Int) = l[i] from rd_nat hi]
    by_cases c : l[i] > 1099511627776
    · rw [if_pos c]
    · rw [if_neg c]
      by_cases c2 : l[i] < -1099511627776
      · rw [if_pos c2]
      · rw [if_neg c2, wrap64_of (show I64 ((i : Int) + 1) by unfold I64; omega), show (i : Int) + 1 = ((i + 1 : Nat) : Int) by omega]
        have ht : l.take (i + 1) = l.take i ++ [l[i]] := by rw [List.take_add_one, List.getElem?_eq_getElem hi]; rfl
        have hxs : ∀ x ∈ l.take (i + 1), -1099511627776 ≤ x ∧ x ≤ 1099511627776 := by
          intro x hm
          rw [ht] at hm
          rcases List.mem_append.1 hm with e | e
          · exact hx x e
          · cases List.mem_singleton.1 e; omega
        have hbd : ∀ l : List Int, (∀ x ∈ l, -1099511627776 ≤ x ∧ x ≤ 1099511627776) → -1099511627776 * (l.length : Int) ≤ isum l ∧ isum l ≤ 1099511627776 * (l.length : Int) := by
          intro l
          induction l with
          | nil => intro _; simp [isum]
          | cons x l ih =>
            intro h
            have := ih (fun y hy => h y (by simp [hy]))
            have h1 := h x (by simp)
            simp only [isum, List.length_cons]; omega
        have hs2 : s + l[i] = isum (l.take (i + 1)) := by rw [ht, isum_append, hs]; simp [isum]
        have hb2 := hbd _ hxs
        have hlen : (l.take (i + 1)).length ≤ 4096 := by simp; omega
        rw [wrap64_of (by rw [hs2]; unfold I64; omega)]
        exact ih m (i + 1) _ (by omega) hxs hs2
theorem VecDots : thrumlaw02_VecDots.Pure := by
  intro l0 l1 a2 _ _ w0 _ _ w1 w2
  have h0 := v64_of_wf w0
  have h1 := v64_of_wf w1
  refine ⟨(l0.length + 1 + l0.length + 1) + 2, ?_⟩
  unfold thrumlaw02_VecDots.f thrumlaw02_live.f thrumlaw02_few.f
  simp only [Option.bind_some, if_true]
  by_cases c : (fewV [l0, l1] && decide ([l0, l1].length ≤ 100)) = true
  · rw [if_pos c, vec_Dot.of _ _ _ ⟨h0, h1⟩, vec_Dot.of _ _ _ ⟨h1, h0⟩, dotV_comm l1 l0]
    simp only [Option.bind_some, if_true, bne_self_eq_false]
    rw [thrumlaw02_VecDots.j0, if_neg (by decide), vec_Dot.of _ _ _ ⟨h0, h0⟩]
    simp only [Option.bind_some]
    have hz : vec_Zero.f (l0.length : Int) = some (if l0.length ≤ 4096 then (List.replicate l0.length 0, 0) else ([], 1)) := by
      unfold vec_Zero.f
      by_cases c3 : l0.length ≤ 4096
      · rw [if_neg (by omega), if_neg (by omega), if_pos (by omega), if_pos (by omega), if_pos c3, Int.toNat_natCast]
      · rw [if_neg (by omega), if_pos (by omega), if_neg c3]
    have hj1 : thrumlaw02_VecDots.j1 (l0.length + 1 + l0.length + 1 + 1) l0 true false = some true := by
      rw [thrumlaw02_VecDots.j1, if_neg (by decide), hz]
      simp only [Option.bind_some]
      by_cases c3 : l0.length ≤ 4096
      · rw [if_pos c3, if_pos rfl]
        have h := dots_l0 l0 l0.length (l0.length + 1) 0 (List.replicate l0.length 0) (by simp) (by simp; exact c3) (by intro j hj; omega)
        simp only [List.length_replicate, Int.natCast_zero] at h ⊢
        refine h.trans ?_
        have h2 := dots_l1 l0 h0 c3 l0.length 0 0 0 (by omega) (by simp) rfl
        rw [Nat.zero_add] at h2; exact h2
      · rw [if_neg c3, if_neg (show ¬ (1 : Int) = 0 by decide), if_pos trivial, vec_Check.of]
        simp only [Option.bind_some]
        unfold checkE; rw [if_pos (by omega)]; rfl
    by_cases c2 : (dotV l0 l0 a2).2 = 0
    · rw [if_pos c2, show decide ((dotV l0 l0 a2).1 < 0) = false from decide_eq_false (by have := dotV_self l0 a2; omega)]; exact hj1
    · rw [if_neg c2]; exact hj1
  · rw [if_neg c]
end Go.Proofs.Ytllicjinmlkcfaa.Pure
