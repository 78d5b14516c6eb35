/- SoftOff: what a sample is off is together no more than 0, and above the opposite of how many classes there are; at its class it is no more than 0, at the others no less, nor more than a whole. -/
import Derived.Test.YtfbdalnjijdknaaHSx17
import Derived.Test.YtfbdalnjijdknaaPSoft
namespace Go.Proofs.Ytfbdalnjijdknaa.Pure
open Go.RowKit Go.Proofs.Ytfbdalnjijdknaa.HS Go.Proofs.YtfbdalnjijdknaaW.PrintWords Go.Proofs.YtfbdalnjijdknaaW.PrintLast Go.Proofs.YtfbdalnjijdknaaW.PrintMore Go.Proofs.Ytfbdalnjijdknaa.Sp
set_option linter.unusedVariables false
set_option linter.unusedSimpArgs false
theorem shl_neg {f : Int} (hf : 0 ≤ f ∧ f ≤ 30) : shl .i64 (-1) f = -(2 ^ f.toNat) := by
  have hp := pow_pos_ f.toNat
  have h30 := pow_le30_ hf
  unfold shl
  rw [show min f.toNat IntKind.i64.bits = f.toNat from by show min f.toNat 64 = _; omega, iwrap, wrap64_of (by unfold I64; omega)]; omega
theorem sumI_bd : ∀ (l : List Int) (m : Int), (∀ x ∈ l, -m ≤ x ∧ x ≤ m) → -(l.length * m) ≤ sumI l ∧ sumI l ≤ l.length * m
  | [], m, _ => by simp [sumI]
  | x :: l, m, h => by
    have h1 := h x (by simp)
    have h2 := sumI_bd l m (fun y hy => h y (by simp [hy]))
    have e : ((l.length + 1 : Nat) : Int) * m = l.length * m + m := by rw [Int.natCast_add, Int.add_mul]; simp
    simp only [sumI, List.length_cons]
    omega
theorem off_l0 {o f y : Int} {x v : List Int} (hf : 0 ≤ f ∧ f ≤ 30) (hl : (x.length : Int) = o) (ho : 2 ≤ o ∧ o ≤ 8)
    (hx : ∀ i : Nat, (i : Int) < o → (((i : Int) = y → rd x i ≤ 0 ∧ -(2 ^ f.toNat) ≤ rd x i) ∧ ((i : Int) ≠ y → 0 ≤ rd x i ∧ rd x i ≤ 2 ^ f.toNat))) (h1 : sumI x ≤ 0) (h2 : -o < sumI x) : ∀ (d i : Nat), d + i = x.length →
    Evt (fun k => thrumlaw15_SoftOff.l0 k o f true (sumI (x.take i)) x (x.length : Int) (i : Int) v y) := by
  have hp := pow_pos_ f.toNat
  have h30 := pow_le30_ hf
  have hb : ∀ i : Nat, (i : Int) < o → -1073741824 ≤ rd x i ∧ rd x i ≤ 1073741824 := fun i hi => by
    obtain ⟨q1, q2⟩ := hx i hi
    by_cases c : (i : Int) = y
    · have := q1 c; omega
    · have := q2 c; omega
  have hm : ∀ z ∈ x, -1073741824 ≤ z ∧ z ≤ 1073741824 := fun z hz => by
    obtain ⟨j, hj, rfl⟩ := List.mem_iff_getElem.1 hz
    have := hb j (by omega)
    rwa [rd_nat hj] at this
  intro d
  induction d with
  | zero =>
    intro i hd
    refine Evt.done (fun k => ?_)
    rw [thrumlaw15_SoftOff.l0.eq_2, if_neg (by omega), List.take_of_length_le (by omega), if_pos rfl, if_pos h1, wrap64_of (by unfold I64; omega), decide_eq_true (by omega)]
  | succ d ih =>
    intro i hd
    have hi : i < x.length := by omega
    have hbi := hb i (by omega)
    have hs := sumI_bd (x.take i) 1073741824 (fun z hz => hm z (List.mem_of_mem_take hz))
    have htl : (x.take i).length = i := by rw [List.length_take]; omega
    rw [htl] at hs
    have ew : wrap64 (sumI (x.take i) + rd x i) = sumI (x.take (i + 1)) := by rw [wrap64_of (by unfold I64; omega), sumI_take x i hi]
    obtain ⟨q1, q2⟩ := hx i (by omega)
    refine Evt.step (ih (i + 1) (by omega)) (fun k => ?_)
    rw [thrumlaw15_SoftOff.l0.eq_2, if_pos (by omega), if_pos (by omega), if_pos (by omega), ew, shl_neg hf, shl_pow hf, wrap64_of (x := (i : Int) + 1) (by unfold I64; omega), show (i : Int) + 1 = ((i + 1 : Nat) : Int) by omega]
    by_cases c : (i : Int) = y
    · have q := q1 c
      rw [if_pos c, if_neg (by omega), if_pos hf.1, if_neg (by omega)]
    · have q := q2 c
      rw [if_neg c, if_neg (by omega), if_pos hf.1, if_neg (by omega)]
theorem SoftOff : thrumlaw15_SoftOff.Pure := by
  intro a0 l1 l2 y f w0 hm hs wl wx wy wf
  have h1 := v64_of_wf wl
  have h2 := v64_of_wf wx.2
  refine Evt.get (F := fun k => thrumlaw15_SoftOff.f k a0 l1 l2 y f) ?_
  unfold thrumlaw15_SoftOff.f
  rw [show thrumlaw15_live.f = some true from rfl]
  simp only [Option.bind_some, if_true, thrumref14_Few.f]
  split
  · rw [soft_Off.of _ _ _ _ _ ⟨h1, h2⟩]
    simp only [Option.bind_some]
    by_cases e : (offS a0 l1 l2 y f).2 = 0
    · obtain ⟨hf, hl, ho2, ho8, hx, hs1, hs2⟩ := offS_fine e
      simp only [if_pos e, if_pos hl]
      have h := off_l0 (v := l2) hf hl ⟨ho2, ho8⟩ hx hs1 hs2 (offS a0 l1 l2 y f).1.length 0 (Nat.add_zero _)
      rw [List.take_zero] at h
      exact h
    · simp only [if_neg e, offS_err e]
      exact Evt.true
  · exact Evt.true
end Go.Proofs.Ytfbdalnjijdknaa.Pure
