/- VecReckons: sums, differences, scaled and clipped vectors are those of the document. -/
import Derived.Test.YtllicjinmlkcfaaHBx21
import Derived.Test.YtllicjinmlkcfaaPVec
namespace Go.Proofs.Ytllicjinmlkcfaa.Pure
open Go.RowKit Go.Proofs.Ytllicjinmlkcfaa.HB Go.Proofs.YtllicjinmlkcfaaW.PrintWords Go.Proofs.YtllicjinmlkcfaaW.PrintLast Go.Proofs.YtllicjinmlkcfaaW.PrintMore Go.Proofs.Ytllicjinmlkcfaa.Sp
set_option linter.unusedVariables false
set_option linter.unusedSimpArgs false
theorem reckons_l0 (l0 l1 : List Int) (a4 : Int) : ∀ (d i : Nat) (x : List Int), d + i = x.length → x.length ≤ 4096 →
    thrumlaw02_VecReckons.l0 (d + 1) l0 l1 a4 true l0 x (x.length : Int) (i : Int) = some true := by
  intro d
  induction d with
  | zero =>
    intro i x hd hb
    rw [thrumlaw02_VecReckons.l0, if_neg (by omega)]
    have hz : thrumref02_Zero.f a4 = vec_Zero.f a4 := rfl
    have hc : thrumref02_Check.f l0 = vec_Check.f l0 := rfl
    rw [hz, hc, vec_Check.of]
    obtain ⟨z, e, hz⟩ : ∃ z e, vec_Zero.f a4 = some (z, e) := by
      unfold vec_Zero.f
      by_cases c : a4 < 0
      · exact ⟨_, _, if_pos c⟩
      · rw [if_neg c]
        by_cases c2 : a4 > 4096
        · exact ⟨_, _, if_pos c2⟩
        · rw [if_neg c2, if_pos (by omega), if_pos (by omega)]; exact ⟨_, _, rfl⟩
    rw [hz]
    simp [vec_Same.f, slices_Equal_int64_int64.f, thrumref02_Same.f]
  | succ d ih =>
    intro i x hd hb
    rw [thrumlaw02_VecReckons.l0, if_pos (by omega), if_pos (by omega), if_pos (by omega), wrap64_of (show I64 ((i : Int) + 1) by unfold I64; omega), show (i : Int) + 1 = ((i + 1 : Nat) : Int) by omega]
    have h := ih (i + 1) (x.set (i : Int).toNat (wrap64 (rd x (i : Int) + 1))) (by simp; omega) (by simp; omega)
    simpa using h
theorem VecReckons : thrumlaw02_VecReckons.Pure := by
  intro l0 l1 a2 a3 a4 hm _ w0 _ _ w1 w2 w3 w4
  have h0 := v64_of_wf w0
  have h1 := v64_of_wf w1
  have h2 := i64_of_wf w2
  refine ⟨(clipV l0 a2).1.length + 1 + 5, ?_⟩
  unfold thrumlaw02_VecReckons.f thrumlaw02_live.f thrumlaw02_few.f
  simp only [Option.bind_some, if_true]
  by_cases c : (fewV [l0, l1] && decide ([l0, l1].length ≤ 100)) = true
  · have hl : l0.length ≤ 5000 := by simp [fewV] at c; exact c.1
    have hS : ∀ x : List Int, thrumref02_Same.f x x = some true := by intro x; simp [thrumref02_Same.f]
    have hmore : vec_More.f l1 a2 l0 a3 = some (moreV l1 a2 l0 a3) := by
      unfold vec_More.f moreV
      rw [vec_Scale.of _ _ _ ⟨h0, h2⟩]
      simp only [Option.bind_some]
      by_cases c : (scaleV l0 a2 a3).2 = 0
      · rw [if_pos c, if_pos c, vec_Add.of _ _ ⟨h1, scaleV_v64 _ _ _⟩]; rfl
      · rw [if_neg c, if_neg c]
    have hmore2 : thrumref02_More.f l1 a2 l0 a3 = some (moreV l1 a2 l0 a3) := by
      unfold thrumref02_More.f moreV
      rw [thrumref02_Scale.of _ _ _ ⟨h0, h2⟩]
      simp only [Option.bind_some]
      by_cases c : (scaleV l0 a2 a3).2 = 0
      · rw [if_pos c, if_pos c, thrumref02_Add.of _ _ ⟨h1, scaleV_v64 _ _ _⟩]; rfl
      · rw [if_neg c, if_neg c]
    have hcl : (clipV l0 a2).1.length ≤ 4096 := by
      unfold clipV
      by_cases c4 : checkE l0 = 0
      · rw [if_pos c4]
        by_cases c5 : clipE a2 = 0
        · rw [if_pos c5, seqV_clip _ (by unfold clipE at c5; intro h; rw [if_pos h] at c5; omega)]
          have := checkE_le c4; simpa using this
        · rw [if_neg c5]; simp
      · rw [if_neg c4]; simp
    rw [if_pos c, if_pos (by simp; omega), vec_Add.of _ _ ⟨h0, h1⟩, thrumref02_Add.of _ _ ⟨h0, h1⟩, List.nil_append]
    simp only [Option.bind_some, hS, if_true, bne_self_eq_false]
    rw [thrumlaw02_VecReckons.j0, if_neg (by decide), vec_Sub.of _ _ ⟨h0, h1⟩, thrumref02_Sub.of _ _ ⟨h0, h1⟩]
    simp only [Option.bind_some, hS, if_true, bne_self_eq_false]
    rw [thrumlaw02_VecReckons.j1, if_neg (by decide), vec_Scale.of _ _ _ ⟨h0, h2⟩, thrumref02_Scale.of _ _ _ ⟨h0, h2⟩]
    simp only [Option.bind_some, hS, if_true, bne_self_eq_false]
    rw [thrumlaw02_VecReckons.j2, if_neg (by decide), hmore, hmore2]
    simp only [Option.bind_some, hS, if_true, bne_self_eq_false]
    rw [thrumlaw02_VecReckons.j3, if_neg (by decide), vec_Clip.of _ _ ⟨h0, h2⟩, thrumref02_Clip.of _ _ ⟨h0, h2⟩]
    simp only [Option.bind_some, hS, if_true, bne_self_eq_false]
    rw [thrumlaw02_VecReckons.j4, if_neg (by decide)]
    exact reckons_l0 l0 l1 a4 (clipV l0 a2).1.length 0 (clipV l0 a2).1 (by omega) hcl
  · rw [if_neg c]
end Go.Proofs.Ytllicjinmlkcfaa.Pure
