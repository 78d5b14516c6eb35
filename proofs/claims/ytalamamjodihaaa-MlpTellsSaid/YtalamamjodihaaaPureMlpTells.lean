/- MlpTells: what two layers tell of anything, what is hidden, how far it is off, and the lines, are the document's. -/
import Derived.Test.YtalamamjodihaaaHNx11
namespace Go.Proofs.Ytalamamjodihaaa.Pure
open Go.RowKit Go.Proofs.Ytalamamjodihaaa.HN Go.Proofs.YtalamamjodihaaaW.PrintWords Go.Proofs.YtalamamjodihaaaW.PrintLast Go.Proofs.YtalamamjodihaaaW.PrintMore Go.Proofs.Ytalamamjodihaaa.Sp
set_option linter.unusedVariables false
set_option linter.unusedSimpArgs false
theorem i64_wf {x : Int} (h : (Lit.int .i64 x).wf = true) : I64 x := by
  have hmin : IntKind.i64.min = -9223372036854775808 := rfl
  have hmax : IntKind.i64.max = 9223372036854775807 := rfl
  simp only [Lit.wf, Bool.and_eq_true, decide_eq_true_eq] at h
  unfold I64; omega
theorem v64_wf {l : List Int} (h : ∀ x ∈ l, (Lit.int .i64 x).wf = true) : V64 l := fun x hx => i64_wf (h x hx)
theorem tellM_i64 (o : Int) (w x : List Int) (f : Int) : I64 (tellM o w x f).1 := by
  unfold tellM
  split
  · unfold ptellM
    split
    · exact tellL_i64 _ _ _
    · exact i64_zero
  · exact i64_zero
theorem MlpTells : thrumlaw16_MlpTells.Pure := by
  intro n o w x y f w0 w1 hm hs wl wx wy wf
  have hw := v64_wf wl
  have hx := v64_wf wx.2
  have hy := i64_wf wy
  have h1 : mlp_Tell.f o w x f = some (tellM o w x f) := if_pos ⟨hw, hx⟩
  have h2 : thrumref16_Tell.f o w x f = some (tellM o w x f) := if_pos ⟨hw, hx⟩
  have h3 : mlp_Hidden.f o w x f = some (hidM o w x f) := if_pos ⟨hw, hx⟩
  have h4 : thrumref16_Hidden.f o w x f = some (hidM o w x f) := if_pos ⟨hw, hx⟩
  obtain ⟨p, h5⟩ : ∃ p, mlp_Off.f o w x y f = some p := by
    unfold mlp_Off.f
    rw [h1, Option.bind_some]
    by_cases c : (tellM o w x f).2 = 0
    · rw [if_pos c, fix_Sub.of _ _ ⟨tellM_i64 _ _ _ _, hy⟩, Option.bind_some]; exact ⟨_, rfl⟩
    · rw [if_neg c]; exact ⟨_, rfl⟩
  have h6 : thrumref16_Off.f o w x y f = some p := h5
  have h7 : mlp_Split.f o w = some (splitM o w) := rfl
  have h8 : thrumref16_Split.f o w = some (splitM o w) := rfl
  have h9 : mlp_Dim.f n o = some (dimM n o) := mlp_Dim.is n o
  have ha : thrumref16_Dim.f n o = some (dimM n o) := rfl
  have hb : mlp_Bend.f w = some (bendM w) := rfl
  have hc : thrumref16_Bend.f w = some (bendM w) := rfl
  have hs2 : ∀ l : List Int, thrumref02_Same.f l l = some true := fun l => by unfold thrumref02_Same.f; simp
  have hl2 : ∀ l : List (List Int), thrumref15_SameLists.f l l = some true := fun l => by unfold thrumref15_SameLists.f; simp
  have hd : ∀ l : List S26, mlp_Check.f n o w l = some (checkM n o w (l.map sm)) := fun l => rfl
  have he : ∀ l : List S26, thrumref16_Check.f n o w l = some (checkM n o w (l.map sm)) := fun l => rfl
  unfold thrumlaw16_MlpTells.f
  rw [show thrumlaw16_live.f = some true from rfl, Option.bind_some, if_pos rfl]
  obtain ⟨b, hF⟩ : ∃ b, thrumref14_Few.f w ([(⟨x, y⟩ : S26)] : List S26) = some b := ⟨_, rfl⟩
  rw [hF, Option.bind_some]
  cases b with
  | false => rw [if_neg (by decide)]
  | true =>
    rw [if_pos rfl, h1, Option.bind_some, h2, Option.bind_some, h3, Option.bind_some, h4, Option.bind_some, h5, Option.bind_some, h6, Option.bind_some, h7, Option.bind_some, h8, Option.bind_some, h9, Option.bind_some, ha, Option.bind_some, hb, Option.bind_some, hc, Option.bind_some, if_pos rfl, if_pos rfl, hs2, Option.bind_some, if_pos rfl, if_pos rfl, if_pos rfl, if_pos rfl, hl2, Option.bind_some, if_pos rfl, hs2, Option.bind_some, if_pos rfl, if_pos rfl, if_pos rfl, if_pos rfl, hs2, Option.bind_some, if_pos rfl, if_pos rfl, hd, Option.bind_some, he, Option.bind_some, beq_self_eq_true]
end Go.Proofs.Ytalamamjodihaaa.Pure
