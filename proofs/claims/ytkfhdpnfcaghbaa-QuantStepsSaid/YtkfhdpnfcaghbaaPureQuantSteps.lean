/- QuantSteps: a level's number is of that level, or the one ahead of it; a greater level is a number no less; a level times the scale and the rest are what was asked. -/
import Derived.Test.YtkfhdpnfcaghbaaHQx17
namespace Go.Proofs.Ytkfhdpnfcaghbaa.Pure
open Go.RowKit Go.Proofs.Ytkfhdpnfcaghbaa.HQ Go.Proofs.YtkfhdpnfcaghbaaW.PrintWords Go.Proofs.YtkfhdpnfcaghbaaW.PrintLast Go.Proofs.YtkfhdpnfcaghbaaW.PrintMore Go.Proofs.Ytkfhdpnfcaghbaa.Sp
set_option linter.unusedVariables false
set_option linter.unusedSimpArgs false
theorem iw (x : Int) : IntKind.i64.wrap x = wrap64 x := by rw [IntKind.wrap_i64]; first | rfl | rw [wrap64_def]
theorem and_le (y : Int) : 0 ≤ Go.bits .and .i64 y 1125899906842623 ∧ Go.bits .and .i64 y 1125899906842623 ≤ 1125899906842623 := by
  obtain ⟨t, ht⟩ : ∃ t, (BitVec.ofInt 64 y &&& BitVec.ofInt 64 1125899906842623).toNat = t := ⟨_, rfl⟩
  have hle : t ≤ 1125899906842623 := by
    rw [← ht, BitVec.toNat_and, show (BitVec.ofInt 64 1125899906842623).toNat = 1125899906842623 from by decide +kernel]
    exact Nat.and_le_right
  have e : Go.bits .and .i64 y 1125899906842623 = wrap64 (t : Int) := by
    show IntKind.i64.wrap ((BitVec.ofInt 64 y &&& BitVec.ofInt 64 1125899906842623).toNat : Int) = _
    rw [ht]
    exact iw _
  clear ht
  rw [e, wrap64_of (by unfold I64; omega)]
  omega
theorem wide_ok (a : Int) : 1 ≤ wrap64 (1 + Int.tmod (wrap64 (Int.tmod a 8 + 8)) 8) ∧ wrap64 (1 + Int.tmod (wrap64 (Int.tmod a 8 + 8)) 8) ≤ 8 := by
  have h1 := Int.tmod_lt_of_pos a (show (0 : Int) < 8 by decide)
  have h2 : -8 < Int.tmod a 8 := Int.lt_tmod_of_pos a (by decide)
  rw [wrap64_of (x := Int.tmod a 8 + 8) (by unfold I64; omega), Int.tmod_eq_emod_of_nonneg (show 0 ≤ Int.tmod a 8 + 8 by omega)]
  rw [wrap64_of (by unfold I64; omega)]
  omega
theorem top_spell {w : Int} (h1 : 1 ≤ w) (h8 : w ≤ 8) : (topF w != IntKind.u64.wrap (shl .u64 1 w - 1)) = false := by
  have hc : w = 1 ∨ w = 2 ∨ w = 3 ∨ w = 4 ∨ w = 5 ∨ w = 6 ∨ w = 7 ∨ w = 8 := by omega
  rcases hc with rfl | rfl | rfl | rfl | rfl | rfl | rfl | rfl <;> decide +kernel
theorem uw {x : Int} (h0 : 0 ≤ x) (h1 : x ≤ 18446744073709551615) : IntKind.u64.wrap x = x := by rw [wu]; omega
theorem steps_j3 {n S w : Int} (hn : I64 n) (hS : 0 ≤ S ∧ S ≤ 1125899906842623) (hw : ¬ badW w) (k : Nat) : thrumlaw10_QuantSteps.j3 (k + 1) n S w true (topF w) = some true := by
  obtain ⟨t1, t2⟩ := topF_pos hw
  rw [thrumlaw10_QuantSteps.j3]
  by_cases c : S = 0
  · rw [if_pos c]
  · have e1 : wrap64 (S + 1) = S + 1 := wrap64_of (by unfold I64; omega)
    have m1 := Int.tmod_lt_of_pos n (show 0 < S + 1 by omega)
    have m2 : -(S + 1) < Int.tmod n (S + 1) := Int.lt_tmod_of_pos n (by omega)
    rw [if_neg c, e1, if_neg (by omega)]
    generalize Int.tmod n (S + 1) = m at *
    have ha : absN m ≤ S ∧ 0 ≤ absN m := by unfold absN; omega
    have hl : levelF m S w = (absN m * topF w / S, absN m * topF w % S, 0) := by
      unfold levelF
      rw [if_neg (fun h => h.elim hw (fun h => by omega)), if_neg c]
    have r0 := Int.emod_nonneg (absN m * topF w) c
    have r1 := Int.emod_lt_of_pos (absN m * topF w) (show 0 < S by omega)
    have p0 : 0 ≤ absN m * topF w := Int.mul_nonneg ha.2 (by omega)
    have p1 : absN m * topF w ≤ 1125899906842623 * 255 := Int.mul_le_mul (by omega) t2 (by omega) (by omega)
    have p2 := Int.emod_add_mul_ediv (absN m * topF w) S
    have p3 : 0 ≤ absN m * topF w / S := Int.ediv_nonneg p0 (by omega)
    have p4 : 0 ≤ S * (absN m * topF w / S) := Int.mul_nonneg (by omega) p3
    have p5 : absN m * topF w / S * S = S * (absN m * topF w / S) := Int.mul_comm _ _
    rw [quant_Level.of _ _ _ ⟨by unfold I64; omega, by unfold I64; omega⟩, Option.bind_some, hl]
    dsimp only
    rw [if_pos rfl, if_pos rfl, uw (x := S) (by omega) (by omega), if_pos r1, thrumref09_Size.of _ (by unfold I64; omega), Option.bind_some]
    generalize absN m * topF w = p at *
    rw [p5, uw p4 (by omega), uw (by omega) (by omega), uw (x := p) p0 (by omega)]
    congr 1
    rw [beq_iff_eq]
    omega
theorem steps_j2 {n S L w : Int} (hn : I64 n) (hS : 0 ≤ S ∧ S ≤ 1125899906842623) (hw : ¬ badW w) (hL : 0 ≤ L ∧ L ≤ topF w) (k : Nat) : thrumlaw10_QuantSteps.j2 (k + 1 + 1) n S L w true (topF w) (S * L / topF w) false = some true := by
  obtain ⟨t1, t2⟩ := topF_pos hw
  have h3 := steps_j3 hn hS hw k
  rw [thrumlaw10_QuantSteps.j2, if_neg (by decide)]
  by_cases c : L < topF w
  · have hv : valueF (L + 1) S w = (S * (L + 1) / topF w, 0) := by
      unfold valueF
      rw [if_neg (fun h => h.elim hw (fun h => by omega))]
    have hm : S * L / topF w ≤ S * (L + 1) / topF w := Int.ediv_le_ediv (by omega) (Int.mul_le_mul_of_nonneg_left (by omega) hS.1)
    rw [if_pos c, uw (x := L + 1) (by omega) (by omega), quant_Value.of _ _ _ ⟨by unfold U64; omega, by unfold I64; omega⟩, Option.bind_some, hv, if_pos rfl, if_neg (by simp only []; omega), h3]
  · rw [if_neg c, h3]
theorem QuantSteps : thrumlaw10_QuantSteps.Pure := by
  intro a0 a1 a2 a3 w0 w1 w2 w3
  have h0 := i64_of_wf w0
  have h2 := u64_of_wf w2
  refine ⟨0 + 1 + 1 + 1 + 1, ?_⟩
  unfold thrumlaw10_QuantSteps.f
  rw [show thrumlaw10_live.f = some true from rfl]
  obtain ⟨hw1, hw8⟩ := wide_ok a3
  have hS := and_le a1
  simp only [Option.bind_some, if_true]
  generalize wrap64 (1 + Int.tmod (wrap64 (Int.tmod a3 8 + 8)) 8) = w at *
  generalize Go.bits .and .i64 a1 1125899906842623 = S at *
  have hw : ¬ badW w := by unfold badW; omega
  obtain ⟨t1, t2⟩ := topF_pos hw
  have hst : quant_Steps.f w = some (topF w, 0) := by unfold quant_Steps.f stepsF; rw [if_neg hw]
  rw [hst]
  simp only [Option.bind_some, if_true]
  rw [if_pos (by omega), top_spell hw1 hw8, thrumlaw10_QuantSteps.j0, if_neg (by decide), uw (x := topF w + 1) (by omega) (by omega), if_neg (by omega)]
  unfold U64 at h2
  rw [Int.tmod_eq_emod_of_nonneg h2.1]
  have l0 := Int.emod_nonneg a2 (show topF w + 1 ≠ 0 by omega)
  have l1 := Int.emod_lt_of_pos a2 (show 0 < topF w + 1 by omega)
  generalize a2 % (topF w + 1) = L at *
  have hv : valueF L S w = (S * L / topF w, 0) := by
    unfold valueF
    rw [if_neg (fun h => h.elim hw (fun h => by omega))]
  obtain ⟨x0, x1⟩ := value_bd (l := L) (t := topF w) (s := S) l0 (by omega) hS.1 (by omega)
  rw [quant_Value.of _ _ _ ⟨by unfold U64; omega, by unfold I64; omega⟩, Option.bind_some, hv]
  simp only [if_true]
  rw [if_neg (by omega), decide_eq_false (by omega), thrumlaw10_QuantSteps.j1, if_neg (by decide), quant_Level.of _ _ _ ⟨by unfold I64; omega, by unfold I64; omega⟩, Option.bind_some]
  have h2' := steps_j2 h0 hS hw (show 0 ≤ L ∧ L ≤ topF w by omega) 0
  have hax : absN (S * L / topF w) = S * L / topF w := by unfold absN; omega
  by_cases c : S = 0
  · have hl : levelF (S * L / topF w) S w = (0, 0, 0) := by
      unfold levelF
      rw [if_neg (fun h => h.elim hw (fun h => by omega)), if_pos c]
    rw [hl, if_pos rfl, if_neg (by simp only []; omega), wrap64_of (x := topF w) (by unfold I64; omega), if_neg (by omega)]
    exact h2'
  · have hl : levelF (S * L / topF w) S w = (S * L / topF w * topF w / S, S * L / topF w * topF w % S, 0) := by
      unfold levelF
      rw [if_neg (fun h => h.elim hw (fun h => by omega)), if_neg c, hax]
    have q1 := Int.ediv_mul_le (S * L) (show topF w ≠ 0 by omega)
    have q2 := Int.emod_lt_of_pos (S * L) (show 0 < topF w by omega)
    have q3 := Int.emod_add_mul_ediv (S * L) (topF w)
    have q4 : topF w * (S * L / topF w) = S * L / topF w * topF w := Int.mul_comm _ _
    have q5 : S * L / topF w * topF w / S ≤ L := by
      calc S * L / topF w * topF w / S ≤ S * L / S := Int.ediv_le_ediv (by omega) q1
        _ = L := Int.mul_ediv_cancel_left _ c
    have q0 : 0 ≤ S * L / topF w * topF w / S := Int.ediv_nonneg (Int.mul_nonneg x0 (by omega)) hS.1
    have q6 : S > topF w → L ≤ S * L / topF w * topF w / S + 1 := by
      intro hgt
      have e : S * (L - 1) ≤ S * L / topF w * topF w := by rw [Int.mul_sub, Int.mul_one]; omega
      have := Int.ediv_le_ediv (show 0 < S by omega) e
      rw [Int.mul_ediv_cancel_left _ c] at this
      omega
    rw [hl, if_pos rfl, if_neg (by simp only []; omega), wrap64_of (x := topF w) (by unfold I64; omega)]
    by_cases cg : S > topF w
    · have := q6 cg
      rw [if_pos cg]
      simp only []
      rw [uw (x := S * L / topF w * topF w / S + 1) (by omega) (by omega), decide_eq_false (by omega)]
      exact h2'
    · rw [if_neg cg]
      exact h2'
end Go.Proofs.Ytkfhdpnfcaghbaa.Pure
