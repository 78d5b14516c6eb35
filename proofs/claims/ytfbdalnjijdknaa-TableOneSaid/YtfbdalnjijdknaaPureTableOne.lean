/- TableOne: one number alone has the whole; numbers that are all the same have the same shares; one that is much less has none. -/
import Derived.Test.YtfbdalnjijdknaaHTx29
import Derived.Test.YtfbdalnjijdknaaPTable2
namespace Go.Proofs.Ytfbdalnjijdknaa.Pure
open Go.RowKit Go.Proofs.Ytfbdalnjijdknaa.HT Go.Proofs.YtfbdalnjijdknaaW.PrintWords Go.Proofs.YtfbdalnjijdknaaW.PrintLast Go.Proofs.YtfbdalnjijdknaaW.PrintMore Go.Proofs.Ytfbdalnjijdknaa.Sp
set_option linter.unusedVariables false
set_option linter.unusedSimpArgs false
theorem live13 : thrumlaw13_live.f = some true := by decide +kernel
theorem same02 (a b : List Int) : thrumref02_Same.f a b = some (decide (a = b)) := rfl
theorem shl_pow {f : Int} (hf : 0 ≤ f ∧ f ≤ 30) : shl .i64 1 f = 2 ^ f.toNat := by
  have hp := pow_pos_ f.toNat
  have h30 := pow_le30_ hf
  unfold shl
  rw [show min f.toNat IntKind.i64.bits = f.toNat from by show min f.toNat 64 = _; omega, iwrap, wrap64_of (by unfold I64; omega)]; omega
theorem one_fill (F n : Int) (M : Nat) (hM : M ≤ 40) : ∀ (d i k : Nat), d + i = M →
    thrumlaw13_TableOne.l0 (d + 1 + k) F n (M : Int) true (List.replicate i n ++ List.replicate d 0) (M : Int) (i : Int) = thrumlaw13_TableOne.l0 (1 + k) F n (M : Int) true (List.replicate M n) (M : Int) (M : Int) := by
  intro d
  induction d with
  | zero =>
    intro i k hd
    have e : i = M := by omega
    subst e
    rw [List.replicate_zero, List.append_nil, show 0 + 1 + k = 1 + k by omega]
  | succ d ih =>
    intro i k hd
    rw [show d + 1 + 1 + k = (d + 1 + k) + 1 by omega, thrumlaw13_TableOne.l0, if_pos (by omega), if_pos (by omega), if_pos (by simp; omega), wrap64_of (x := (i : Int) + 1) (by unfold I64; omega), show (i : Int) + 1 = ((i + 1 : Nat) : Int) by omega]
    have e : List.set (List.replicate i n ++ List.replicate (d + 1) (0 : Int)) (i : Int).toNat n = List.replicate (i + 1) n ++ List.replicate d 0 := by
      rw [Int.toNat_natCast, List.set_append_right _ _ (by simp), List.length_replicate, Nat.sub_self, List.replicate_succ (n := d), List.set_cons_zero, List.replicate_succ', List.append_assoc]; rfl
    rw [e]
    exact ih (i + 1) k (by omega)
theorem one_best (n : Int) (M : Nat) (h0 : 0 < M) : IsBest (List.replicate M n) 0 := by
  refine ⟨Int.le_refl _, by simp; omega, fun j hj => ?_, fun j hj => by omega⟩
  have e : ∀ i : Nat, i < M → rd (List.replicate M n) i = n := fun i hi => by rw [rd_nat (by simpa using hi)]; simp
  have e0 := e 0 h0
  rw [e j (by simpa using hj)]
  rw [show ((0 : Nat) : Int) = 0 from rfl] at e0
  rw [e0]; exact Int.le_refl _
theorem one_soft (F n : Int) (hF : 0 ≤ F ∧ F ≤ 30) (M : Nat) (h0 : 0 < M) (hM : M ≤ 40) : softV F (List.replicate M n) = (List.replicate M (2 ^ F.toNat / (M : Int)), 0) := by
  have hb := one_best n M h0
  have hp := pow_pos_ F.toNat
  have e0 : rd (List.replicate M n) 0 = n := by
    rw [show (0 : Int) = ((0 : Nat) : Int) from rfl, rd_nat (by simpa using h0)]; simp
  rw [softV_near hb (by simp; omega) hF (fun x hx => by rw [e0, List.eq_of_mem_replicate hx]; omega), e0]
  have ep : pows n F (List.replicate M n) = List.replicate M (2 ^ F.toNat) := by
    unfold pows; rw [List.map_replicate, Int.sub_self, powE_zero hF]
  have es : ∀ (k : Nat) (c : Int), sumI (List.replicate k c) = k * c := by
    intro k c
    induction k with
    | zero => simp [sumI]
    | succ k ih => rw [List.replicate_succ, sumI, ih, Int.natCast_add, Int.add_mul]; simp; omega
  unfold shares
  rw [ep, List.map_replicate, es, Int.mul_ediv_mul_of_pos_left _ _ hp]
theorem one_l1 (F n : Int) (hF : 0 ≤ F ∧ F ≤ 30) (hn : I64 n) (M : Nat) (h0 : 0 < M) (hM : M ≤ 40) : ∀ (d i : Nat), d + i = M →
    thrumlaw13_TableOne.l1 (d + 1) F n (M : Int) true (List.replicate M (2 ^ F.toNat / (M : Int))) (M : Int) (i : Int) = some true := by
  have hp := pow_pos_ F.toNat
  have h30 := pow_le30_ hF
  intro d
  induction d with
  | zero =>
    intro i hd
    rw [thrumlaw13_TableOne.l1, if_neg (by omega)]
    by_cases c : n < -2305843009213693952
    · rw [if_pos c]
    · have hn' := hn
      unfold I64 at hn'
      have hs : shl .i64 64 F = 64 * 2 ^ F.toNat := by
        unfold shl
        rw [show min F.toNat IntKind.i64.bits = F.toNat from by show min F.toNat 64 = _; omega, iwrap, wrap64_of (by unfold I64; omega)]
      rw [if_neg c, if_pos hF.1, hs, wrap64_of (x := n - 64 * 2 ^ F.toNat) (by unfold I64; omega), table_Soft.of F _ ⟨by unfold I64; omega, by
        intro x hx
        rcases List.mem_cons.1 hx with e | e
        · rw [e]; exact hn
        · rcases List.mem_cons.1 e with e | e
          · rw [e]; unfold I64; omega
          · cases e⟩]
      have hb : IsBest [n, n - 64 * 2 ^ F.toNat] 0 := by
        refine ⟨Int.le_refl _, by simp, fun j hj => ?_, fun j hj => by omega⟩
        have e0 : rd [n, n - 64 * 2 ^ F.toNat] 0 = n := rfl
        rw [e0]
        match j, hj with
        | 0, _ => show n ≤ n; omega
        | 1, _ => show n - 64 * 2 ^ F.toNat ≤ n; omega
        | j + 2, h => simp at h; omega
      have e0 : rd [n, n - 64 * 2 ^ F.toNat] 0 = n := rfl
      rw [softV_near hb (by simp) hF (fun x hx => by
        rw [e0]
        rcases List.mem_cons.1 hx with e | e
        · rw [e]; omega
        · rcases List.mem_cons.1 e with e | e
          · rw [e]; omega
          · cases e), e0]
      have hz : powE (n - (n - 64 * 2 ^ F.toNat)) F = 0 := by
        rw [show n - (n - 64 * 2 ^ F.toNat) = 64 * 2 ^ F.toNat by omega]
        unfold powE
        rw [Int.mul_emod_left, Int.zero_mul, Int.zero_ediv, Int.mul_ediv_cancel _ (by omega)]
        exact far_zero (c := 64 + (30 - F)) (by decide) (by decide) (by omega)
      have ep : pows n F [n, n - 64 * 2 ^ F.toNat] = [2 ^ F.toNat, 0] := by
        unfold pows
        simp only [List.map_cons, List.map_nil, Int.sub_self, powE_zero hF, hz]
      have esh : shares n F [n, n - 64 * 2 ^ F.toNat] = [2 ^ F.toNat, 0] := by
        unfold shares
        rw [ep]
        simp only [sumI, Int.add_zero, List.map_cons, List.map_nil]
        rw [Int.mul_ediv_cancel _ (by omega), Int.zero_mul, Int.zero_ediv]
      rw [esh, shl_pow hF]
      simp [rd]
  | succ d ih =>
    intro i hd
    have hi : i < (List.replicate M (2 ^ F.toNat / (M : Int))).length := by simp; omega
    have hq0 : 0 ≤ (2 : Int) ^ F.toNat / (M : Int) := Int.ediv_nonneg (by omega) (by omega)
    have hq1 : (2 : Int) ^ F.toNat / (M : Int) ≤ 2 ^ F.toNat := Int.ediv_le_self _ (by omega)
    rw [thrumlaw13_TableOne.l1, if_pos (by omega), if_pos (by omega), if_pos (by simp; omega), if_pos hF.1, if_neg (by omega), shl_pow hF, Int.tdiv_eq_ediv_of_nonneg (by omega), wrap64_of (x := 2 ^ F.toNat / (M : Int)) (by unfold I64; omega), show rd (List.replicate M (2 ^ F.toNat / (M : Int))) (i : Int) = 2 ^ F.toNat / (M : Int) from by rw [rd_nat hi]; simp, if_pos rfl, wrap64_of (by unfold I64; omega), show (i : Int) + 1 = ((i + 1 : Nat) : Int) by omega]
    exact ih (i + 1) (by omega)
theorem TableOne : thrumlaw13_TableOne.Pure := by
  intro a0 a1 a2 w0 w1 w2
  have h0 := i64_of_wf w0
  have h1 := i64_of_wf w1
  have h2 := i64_of_wf w2
  have hf1 := Int.tmod_lt_of_pos a0 (show (0 : Int) < 31 by decide)
  have hf2 : -31 < Int.tmod a0 31 := Int.lt_tmod_of_pos a0 (by decide)
  have hm1 := Int.tmod_lt_of_pos a2 (show (0 : Int) < 40 by decide)
  have hm2 : -40 < Int.tmod a2 40 := Int.lt_tmod_of_pos a2 (by decide)
  obtain ⟨F, hF⟩ : ∃ F, Int.tmod (wrap64 (Int.tmod a0 31 + 31)) 31 = F := ⟨_, rfl⟩
  have hFb : 0 ≤ F ∧ F ≤ 30 := by
    rw [wrap64_of (by unfold I64; omega), Int.tmod_eq_emod_of_nonneg (by omega)] at hF
    omega
  obtain ⟨M, hM⟩ : ∃ M : Nat, wrap64 (1 + Int.tmod (wrap64 (Int.tmod a2 40 + 40)) 40) = (M : Int) := by
    rw [wrap64_of (x := Int.tmod a2 40 + 40) (by unfold I64; omega), Int.tmod_eq_emod_of_nonneg (by omega), wrap64_of (by unfold I64; omega)]
    exact ⟨(1 + (Int.tmod a2 40 + 40) % 40).toNat, by omega⟩
  have hMb : 0 < M ∧ M ≤ 40 := by
    rw [wrap64_of (x := Int.tmod a2 40 + 40) (by unfold I64; omega), Int.tmod_eq_emod_of_nonneg (by omega), wrap64_of (by unfold I64; omega)] at hM
    omega
  refine ⟨M + 1 + (M + 3), ?_⟩
  unfold thrumlaw13_TableOne.f
  rw [live13]
  simp only [Option.bind_some, if_true, hF, hM]
  rw [if_pos (by omega), if_pos (by omega), Int.toNat_natCast, List.length_replicate]
  have hfill := one_fill F a1 M hMb.2 M 0 (M + 3) (by omega)
  rw [List.replicate_zero, List.nil_append] at hfill
  rw [show ((0 : Nat) : Int) = 0 from rfl] at hfill
  rw [hfill, show 1 + (M + 3) = (M + 3) + 1 by omega, thrumlaw13_TableOne.l0, if_neg (by omega), table_Soft.of F _ ⟨by unfold I64; omega, fun x hx => by rw [List.eq_of_mem_replicate hx]; exact h1⟩, one_soft F a1 hFb M hMb.1 hMb.2]
  simp only [Option.bind_some, if_true, List.length_replicate]
  rw [show M + 3 = (M + 2) + 1 by omega, thrumlaw13_TableOne.j1, if_neg (by simp), List.length_replicate]
  exact leO_mono (fun k => (thrumlaw13_TableOne.mono_l k).2.2 _ _ _ _ _ _ _) (show M + 1 ≤ M + 2 by omega) (one_l1 F a1 hFb h1 M hMb.1 hMb.2 M 0 (by omega))
end Go.Proofs.Ytfbdalnjijdknaa.Pure
