/- MlpBends: how any two layers are to be bent, by any samples, is the document's; they stay as they were. -/
import Derived.Test.YtalamamjodihaaaHOx17
import Derived.Test.YtalamamjodihaaaPEv
namespace Go.Proofs.Ytalamamjodihaaa.Pure
open Go.RowKit Go.Proofs.Ytalamamjodihaaa.HO Go.Proofs.YtalamamjodihaaaW.PrintWords Go.Proofs.YtalamamjodihaaaW.PrintLast Go.Proofs.YtalamamjodihaaaW.PrintMore Go.Proofs.Ytalamamjodihaaa.Sp
set_option linter.unusedVariables false
set_option linter.unusedSimpArgs false
theorem i64_wf {x : Int} (h : (Lit.int .i64 x).wf = true) : I64 x := by
  have hmin : IntKind.i64.min = -9223372036854775808 := rfl
  have hmax : IntKind.i64.max = 9223372036854775807 := rfl
  simp only [Lit.wf, Bool.and_eq_true, decide_eq_true_eq] at h
  unfold I64; omega
theorem v64_wf {l : List Int} (h : ∀ x ∈ l, (Lit.int .i64 x).wf = true) : V64 l := fun x hx => i64_wf (h x hx)
theorem bends_l2 (w : List Int) (rows : List (List Int)) (hb : rows.length ≤ 8) : ∀ (d i : Nat), d + i = rows.length →
    Evt (fun k => thrumlaw16_MlpBends.l2 k w true w true rows (rows.length : Int) (i : Int)) := by
  intro d
  induction d with
  | zero =>
    intro i hd
    refine Evt.done (fun k => ?_)
    rw [thrumlaw16_MlpBends.l2.eq_2, if_neg (by omega)]
    simp [thrumref02_Same.f]
  | succ d ih =>
    intro i hd
    refine Evt.step (ih (i + 1) (by omega)) (fun k => ?_)
    rw [thrumlaw16_MlpBends.l2.eq_2, if_pos (by omega), if_pos (by omega), if_pos (by omega), wrap64_of (show I64 ((i : Int) + 1) by unfold I64; omega)]
    rfl
theorem bends_l1 (w : List Int) (rows : List (List Int)) (hb : rows.length ≤ 8) : ∀ (d i : Nat) (x : List Int), d + i = x.length → x.length ≤ 4096 →
    Evt (fun k => thrumlaw16_MlpBends.l1 k w true w true rows x (x.length : Int) (i : Int)) := by
  intro d
  induction d with
  | zero =>
    intro i x hd hx
    refine Evt.step (bends_l2 w rows hb rows.length 0 (by omega)) (fun k => ?_)
    rw [thrumlaw16_MlpBends.l1.eq_2, if_neg (by omega)]
    rfl
  | succ d ih =>
    intro i x hd hx
    have h := ih (i + 1) (x.set (i : Int).toNat (wrap64 ((rd x i) + 1))) (by simp; omega) (by simp; omega)
    refine Evt.step h (fun k => ?_)
    rw [thrumlaw16_MlpBends.l1.eq_2, if_pos (by omega), if_pos (by omega), if_pos (by omega), wrap64_of (show I64 ((i : Int) + 1) by unfold I64; omega), List.length_set]
    rfl
theorem split_few (o : Int) (w : List Int) : (splitM o w).1.length ≤ 8 ∧ (splitM o w).2.1.length ≤ 4096 := by
  by_cases c : (splitM o w).2.2 = 0
  · obtain ⟨k, m, rfl, hk1, hk8, hm2, hm17, hkm, hlm, hs⟩ := splitM_good c
    rw [hs]
    exact ⟨by show (rowsM k m w).length ≤ 8; rw [rowsM_len]; exact hk8, by show (w.drop (k * m)).length ≤ 4096; rw [List.length_drop]; omega⟩
  · rw [splitM_bad c]; exact ⟨Nat.zero_le _, Nat.zero_le _⟩
theorem bends_l0 (o : Int) (w : List Int) : ∀ (d i : Nat) (x : List Int), d + i = x.length → x.length ≤ 4096 →
    Evt (fun k => thrumlaw16_MlpBends.l0 k o w true w x true (x.length : Int) (i : Int)) := by
  intro d
  induction d with
  | zero =>
    intro i x hd hb
    have hf := split_few o w
    refine Evt.step (bends_l1 w (splitM o w).1 hf.1 (splitM o w).2.1.length 0 (splitM o w).2.1 (by omega) hf.2) (fun k => ?_)
    rw [thrumlaw16_MlpBends.l0.eq_2, if_neg (by omega), mlp_Split.f, Option.bind_some]
    rfl
  | succ d ih =>
    intro i x hd hb
    have h := ih (i + 1) (x.set (i : Int).toNat (wrap64 ((rd x i) + 1))) (by simp; omega) (by simp; omega)
    refine Evt.step h (fun k => ?_)
    rw [thrumlaw16_MlpBends.l0.eq_2, if_pos (by omega), if_pos (by omega), if_pos (by omega), wrap64_of (show I64 ((i : Int) + 1) by unfold I64; omega), List.length_set]
    rfl
theorem gradM_lle (o : Int) (w : List Int) (f : Int) (l : List (List Int × Int)) : (gradM o w f l).1.length ≤ 4096 := by
  unfold gradM
  split
  · exact Nat.zero_le _
  · split
    · exact Nat.zero_le _
    · split
      · unfold meanL
        split
        · simp
        · split
          · refine Nat.le_trans (seqV_lle _) ?_
            rw [List.length_map]
            exact sumsV_lle _
          · simp
      · exact Nat.zero_le _
theorem MlpBends : thrumlaw16_MlpBends.Pure := by
  intro n o w f l w0 w1 b1 b2 w2 w3 w4
  have hw := v64_wf w2
  have hl : ∀ s ∈ l, V64 s.f0 ∧ I64 s.f1 := fun s hs => ⟨v64_wf (w4.2 s hs).1.2, i64_wf (w4.2 s hs).2.1⟩
  have h1 : mlp_Grad.f o w f l = some (gradM o w f (l.map sm)) := if_pos ⟨hw, hl⟩
  have h2 : thrumref16_Grad.f o w f l = some (gradM o w f (l.map sm)) := if_pos ⟨hw, hl⟩
  refine Evt.get (F := fun k => thrumlaw16_MlpBends.f k n o w f l) ?_
  unfold thrumlaw16_MlpBends.f
  rw [show thrumlaw16_live.f = some true from rfl]
  simp only [Option.bind_some, if_true, thrumref14_Few.f]
  split
  · rename_i hc
    have hc := (of_decide_eq_true hc).2.1
    refine Evt.step (bends_l0 o w (gradM o w f (l.map sm)).1.length 0 (gradM o w f (l.map sm)).1 (by omega) (gradM_lle _ _ _ _)) (fun k => ?_)
    rw [if_pos (by simp; omega), List.nil_append, h1, h2]
    simp only [Option.bind_some, thrumref02_Same.f, decide_true, if_true, mlp_Check.f, thrumref16_Check.f, beq_self_eq_true]
    rw [thrumlaw16_MlpBends.j0.eq_2]
    rfl
  · exact Evt.true
end Go.Proofs.Ytalamamjodihaaa.Pure
