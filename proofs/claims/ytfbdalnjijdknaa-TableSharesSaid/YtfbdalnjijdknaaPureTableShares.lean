/- TableShares: any numbers' shares, and the greatest one's place. -/
import Derived.Test.YtfbdalnjijdknaaHTx24
import Derived.Test.YtfbdalnjijdknaaPTable2
namespace Go.Proofs.Ytfbdalnjijdknaa.Pure
open Go.RowKit Go.Proofs.Ytfbdalnjijdknaa.HT Go.Proofs.YtfbdalnjijdknaaW.PrintWords Go.Proofs.YtfbdalnjijdknaaW.PrintLast Go.Proofs.YtfbdalnjijdknaaW.PrintMore Go.Proofs.Ytfbdalnjijdknaa.Sp
set_option linter.unusedVariables false
set_option linter.unusedSimpArgs false
theorem live13 : thrumlaw13_live.f = some true := by decide +kernel
theorem few13 (l : List Int) : ∃ b, thrumlaw13_few.f l = some b ∧ (b = true → l.length ≤ 5000) := by
  unfold thrumlaw13_few.f
  split
  · exact ⟨true, rfl, fun _ => by omega⟩
  · split
    · exact ⟨_, rfl, fun h => by have := of_decide_eq_true h; omega⟩
    · exact ⟨false, rfl, fun h => by cases h⟩
theorem same02 (a b : List Int) : thrumref02_Same.f a b = some (decide (a = b)) := rfl
theorem shl_pow {f : Int} (hf : 0 ≤ f ∧ f ≤ 30) : shl .i64 1 f = 2 ^ f.toNat := by
  have hp := pow_pos_ f.toNat
  have h30 := pow_le30_ hf
  unfold shl
  rw [show min f.toNat IntKind.i64.bits = f.toNat from by show min f.toNat 64 = _; omega, iwrap, wrap64_of (by unfold I64; omega)]; omega
theorem TableShares : thrumlaw13_TableShares.Pure := by
  intro a0 l1 w0 hm hs wl
  have h0 := i64_of_wf w0
  have hl := v64_of_wf wl
  unfold thrumlaw13_TableShares.f
  rw [live13]
  simp only [Option.bind_some, if_true]
  obtain ⟨b, hb, hb2⟩ := few13 l1
  rw [hb]
  simp only [Option.bind_some]
  by_cases c : b = true
  · have := hb2 c
    rw [if_pos c, if_pos (by simp; omega), table_Soft.of a0 l1 ⟨h0, hl⟩, thrumref13_Soft.of a0 l1 ⟨h0, hl⟩]
    simp only [Option.bind_some, table_Best.f, thrumref13_Best.f, same02, decide_true, if_true, List.nil_append]
  · rw [if_neg c]
end Go.Proofs.Ytfbdalnjijdknaa.Pure
