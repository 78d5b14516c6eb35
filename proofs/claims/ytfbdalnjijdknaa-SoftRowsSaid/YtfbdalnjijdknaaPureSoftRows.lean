/- SoftRows: lines one behind the other are what they were made of; there are as many numbers as are said. -/
import Derived.Test.YtfbdalnjijdknaaHSx18
import Derived.Test.YtfbdalnjijdknaaPSoft
namespace Go.Proofs.Ytfbdalnjijdknaa.Pure
open Go.RowKit Go.Proofs.Ytfbdalnjijdknaa.HS Go.Proofs.YtfbdalnjijdknaaW.PrintWords Go.Proofs.YtfbdalnjijdknaaW.PrintLast Go.Proofs.YtfbdalnjijdknaaW.PrintMore Go.Proofs.Ytfbdalnjijdknaa.Sp
set_option linter.unusedVariables false
set_option linter.unusedSimpArgs false
theorem rows_get {m k i : Nat} {w : List Int} (h : i < k) : rd_L1 (chunksS m w k) (i : Int) = (w.drop (i * m)).take m := by
  unfold rd_L1; rw [Int.toNat_natCast, List.getD_eq_getElem?_getD, List.getElem?_eq_getElem (by rw [chunksS_length]; exact h), Option.getD_some, chunks_get h]
theorem rows_j1 {k m : Nat} {w : List Int} (hk : 2 ≤ k ∧ k ≤ 8) (hm : 2 ≤ m ∧ m ≤ 17) (h : m * k = w.length) :
    Evt (fun K => thrumlaw15_SoftRows.j1 K (k : Int) w true (chunksS m w k) w false) := by
  refine Evt.done (fun K => ?_)
  have h0 := rows_get (m := m) (w := w) (show 0 < k by omega)
  have hl0 : (rd_L1 (chunksS m w k) 0).length = m := by rw [show (0 : Int) = ((0 : Nat) : Int) from rfl, h0]; exact chunk_len h (by omega)
  have hd : dimS ((m : Int) - 1) k = ((w.length : Int), 0) := by
    unfold dimS
    rw [if_neg (by unfold badOut; omega), ← h]
    push_cast
    rw [Int.sub_add_cancel]
  rw [thrumlaw15_SoftRows.j1.eq_2, if_neg (by decide), if_pos (by rw [chunksS_length]; omega), hl0, wrap64_of (by unfold I64; omega), soft_Dim.is, Option.bind_some, if_pos rfl, hd, if_pos rfl, if_pos rfl]
  simp [thrumref02_Same.f]
theorem rows_l0 {k m : Nat} {w : List Int} (hk : 2 ≤ k ∧ k ≤ 8) (hm : 2 ≤ m ∧ m ≤ 17) (h : m * k = w.length) : ∀ (d i : Nat), d + i = k →
    Evt (fun K => thrumlaw15_SoftRows.l0 K (k : Int) w true (chunksS m w k) (w.take (i * m)) (chunksS m w k) ((chunksS m w k).length : Int) (i : Int)) := by
  intro d
  induction d with
  | zero =>
    intro i hd
    have hi : i = k := by omega
    subst hi
    rw [Nat.mul_comm, h, List.take_length]
    refine Evt.step (rows_j1 hk hm h) (fun K => ?_)
    rw [thrumlaw15_SoftRows.l0.eq_2, if_neg (by rw [chunksS_length]; omega), if_pos (by rw [chunksS_length]), beq_eq_false_iff_ne.2 (by rw [chunksS_length]; omega)]
  | succ d ih =>
    intro i hd
    have hi : i < k := by omega
    have hg := rows_get (m := m) (w := w) hi
    have hl := chunk_len h hi
    have h0 := rows_get (m := m) (w := w) (show 0 < k by omega)
    have hl0 : (rd_L1 (chunksS m w k) 0).length = m := by rw [show (0 : Int) = ((0 : Nat) : Int) from rfl, h0]; exact chunk_len h (by omega)
    have h1 : k * m ≤ 8 * 17 := Nat.mul_le_mul hk.2 hm.2
    rw [Nat.mul_comm] at h1
    refine Evt.step (ih (i + 1) (by omega)) (fun K => ?_)
    rw [thrumlaw15_SoftRows.l0.eq_2, if_pos (by rw [chunksS_length]; omega), if_pos (by omega), if_pos (by rw [chunksS_length]; omega), if_pos (by rw [chunksS_length]; omega), hg, hl, hl0, if_pos rfl, if_pos (by rw [List.length_take]; omega), wrap64_of (by unfold I64; omega), take_chunk]
    rfl
theorem rowsS_err {o : Int} {w : List Int} (h : (rowsS o w).2 ≠ 0) : (rowsS o w).1 = [] := by
  unfold rowsS at h ⊢
  split
  · rfl
  · rename_i c
    rw [if_neg c] at h
    split
    · rename_i c2; rw [if_pos c2] at h; exact absurd rfl h
    · rfl
theorem SoftRows : thrumlaw15_SoftRows.Pure := by
  intro a0 l1 w0 hm hs wl
  refine Evt.get (F := fun k => thrumlaw15_SoftRows.f k a0 l1) ?_
  unfold thrumlaw15_SoftRows.f
  rw [show thrumlaw15_live.f = some true from rfl]
  simp only [Option.bind_some, if_true]
  by_cases c : (l1.length : Int) > 500
  · simp only [if_pos c]; exact Evt.true
  · simp only [if_neg c, soft_Rows.f, Option.bind_some]
    by_cases e : (rowsS a0 l1).2 = 0
    · obtain ⟨k, m, rfl, hk2, hk8, hm2, hm17, hmk, hr⟩ := rowsS_good e
      simp only [if_pos e, hr]
      have := rows_l0 ⟨hk2, hk8⟩ ⟨hm2, hm17⟩ hmk k 0 (by omega)
      rw [Nat.zero_mul, List.take_zero] at this
      exact this
    · simp only [if_neg e, rowsS_err e]
      exact Evt.true
end Go.Proofs.Ytfbdalnjijdknaa.Pure
