/- TableFalls: rows fall; a greater number's power is no less; of one less by a whole it is the half. -/
import Derived.Test.YtfbdalnjijdknaaHTx26
import Derived.Test.YtfbdalnjijdknaaPTable2
namespace Go.Proofs.Ytfbdalnjijdknaa.Pure
open Go.RowKit Go.Proofs.Ytfbdalnjijdknaa.HT Go.Proofs.YtfbdalnjijdknaaW.PrintWords Go.Proofs.YtfbdalnjijdknaaW.PrintLast Go.Proofs.YtfbdalnjijdknaaW.PrintMore Go.Proofs.Ytfbdalnjijdknaa.Sp
set_option linter.unusedVariables false
set_option linter.unusedSimpArgs false
theorem live13 : thrumlaw13_live.f = some true := by decide +kernel
theorem shl_pow {f : Int} (hf : 0 ≤ f ∧ f ≤ 30) : shl .i64 1 f = 2 ^ f.toNat := by
  have hp := pow_pos_ f.toNat
  have h30 := pow_le30_ hf
  unfold shl
  rw [show min f.toNat IntKind.i64.bits = f.toNat from by show min f.toNat 64 = _; omega, iwrap, wrap64_of (by unfold I64; omega)]; omega
theorem falls_j2 (k : Nat) (x y f : Int) (hxy : x ≤ y) (hx : I64 x) (hy : I64 y) (hf : I64 f) : thrumlaw13_TableFalls.j2 (k + 3) x y f true = some true := by
  rw [thrumlaw13_TableFalls.j2, table_Exp.of x f ⟨hx, hf⟩, table_Exp.of y f ⟨hy, hf⟩]
  simp only [Option.bind_some]
  by_cases c1 : (expF x f).2 = 0
  · rw [if_pos c1, thrumlaw13_TableFalls.j3]
    by_cases c2 : (expF y f).2 = 0
    · obtain ⟨hf1, hx0, hxi, ex⟩ := expF_ok c1
      obtain ⟨_, hy0, hyi, ey⟩ := expF_ok c2
      rw [if_neg (by simp [c2]), if_pos hf1.1, ex, ey, shl_pow hf1]
      have hm := powE_mono (a := -y) (b := -x) (f := f) (by omega) (by omega) hf1
      have h0 := powE_nonneg (-x) f
      have h1 := powE_le (y := -y) (by omega) hf1
      have h30 := pow_le30_ hf1
      have hp := pow_pos_ f.toNat
      simp only []
      rw [if_neg (by omega), if_neg (by omega), if_neg (by omega)]
      have key : thrumlaw13_TableFalls.j4 (k + 1) x f true (powE (-x) f) (2 ^ f.toNat) false = some true := by
        rw [thrumlaw13_TableFalls.j4, if_neg (by decide)]
        by_cases c3 : x < -4611686018427387904
        · rw [if_pos c3]
        · unfold I64 at hx
          rw [if_neg c3, wrap64_of (x := x - 2 ^ f.toNat) (by unfold I64; omega), table_Exp.of _ f ⟨by unfold I64; omega, hf⟩]
          simp only [Option.bind_some, if_true]
          rw [expF_of hf1 (by omega) (by unfold I64; omega), show -(x - 2 ^ f.toNat) = -x + 2 ^ f.toNat by omega, powE_half (by omega) hf1]
          simp only [if_true]
          have hle := powE_le (y := -x) (by omega) hf1
          rw [Int.tdiv_eq_ediv_of_nonneg h0, wrap64_of (by unfold I64; omega)]
          simp
      by_cases c3 : x = 0
      · have e0 : powE (-x) f = 2 ^ f.toNat := by rw [c3]; exact powE_zero hf1
        rw [if_pos c3, show (powE (-x) f != 2 ^ f.toNat) = false by rw [e0]; simp]
        exact key
      · rw [if_neg c3]; exact key
    · rw [if_pos (by simp [c2])]
  · rw [if_neg c1, thrumlaw13_TableFalls.j3, if_pos rfl]
theorem falls_l0 (x y f : Int) (hx : I64 x) (hy : I64 y) (hf : I64 f) : ∀ (d : Nat), d ≤ 16 → thrumlaw13_TableFalls.l0 (d + 1 + 3) x y f true tabL ((17 - d : Nat) : Int) = some true := by
  intro d
  induction d with
  | zero =>
    intro _
    rw [show 0 + 1 + 3 = 3 + 1 from rfl, thrumlaw13_TableFalls.l0, if_neg (by decide)]
    by_cases c : y < x
    · rw [if_pos c]; exact falls_j2 0 y x f (by omega) hy hx hf
    · rw [if_neg c]; exact falls_j2 0 x y f (by omega) hx hy hf
  | succ d ih =>
    intro hd
    have hs := tab_step (17 - (d + 1) - 1) (by omega)
    rw [show d + 1 + 1 + 3 = (d + 1 + 3) + 1 by omega, thrumlaw13_TableFalls.l0, if_pos (by omega), if_pos (by omega), if_pos (by rw [tabL_len]; omega), wrap64_of (x := ((17 - (d + 1) : Nat) : Int) - 1) (by unfold I64; omega), if_pos (by omega), if_pos (by rw [tabL_len]; omega), rd_tab, rd_tab, show (((17 - (d + 1) : Nat) : Int) - 1).toNat = 17 - (d + 1) - 1 by omega, show (((17 - (d + 1) : Nat) : Int)).toNat = 17 - (d + 1) - 1 + 1 by omega, if_neg (by omega), wrap64_of (by unfold I64; omega), show ((17 - (d + 1) : Nat) : Int) + 1 = ((17 - d : Nat) : Int) by omega]
    exact ih (by omega)
theorem TableFalls : thrumlaw13_TableFalls.Pure := by
  intro a0 a1 a2 w0 w1 w2
  refine ⟨21, ?_⟩
  unfold thrumlaw13_TableFalls.f
  rw [live13]
  simp only [Option.bind_some, if_true, table_Rows.f]
  rw [if_pos tabL_len, if_pos (by rw [tabL_len]; decide), if_pos (show rd tabL 0 = 1073741824 by decide +kernel), if_pos (by rw [tabL_len]; decide), show (rd tabL 16 != 536870912) = false by decide +kernel, thrumlaw13_TableFalls.j0, if_neg (by decide)]
  exact falls_l0 a0 a1 a2 (i64_of_wf w0) (i64_of_wf w1) (i64_of_wf w2) 16 (by omega)
end Go.Proofs.Ytfbdalnjijdknaa.Pure
