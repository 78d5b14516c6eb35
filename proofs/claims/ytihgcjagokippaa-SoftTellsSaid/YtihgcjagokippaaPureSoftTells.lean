/- SoftTells: any lines' shares of anything, their class, how far they are off, and the lines, are the document's. -/
import Derived.Test.YtihgcjagokippaaHSx18
namespace Go.Proofs.Ytihgcjagokippaa.Pure
open Go.RowKit Go.Proofs.Ytihgcjagokippaa.HS Go.Proofs.YtihgcjagokippaaW.PrintWords Go.Proofs.YtihgcjagokippaaW.PrintLast Go.Proofs.YtihgcjagokippaaW.PrintMore Go.Proofs.Ytihgcjagokippaa.Sp
set_option linter.unusedVariables false
set_option linter.unusedSimpArgs false
theorem v64_wf {l : List Int} (h : ∀ x ∈ l, (Lit.int .i64 x).wf = true) : V64 l := fun x hx => by
  have hmin : IntKind.i64.min = -9223372036854775808 := rfl
  have hmax : IntKind.i64.max = 9223372036854775807 := rfl
  have h := h x hx
  simp only [Lit.wf, Bool.and_eq_true, decide_eq_true_eq] at h
  unfold I64; omega
theorem SoftTells : thrumlaw15_SoftTells.Pure := by
  intro n o w x y f w0 w1 hm hs wl wx wy wf
  have hw := v64_wf wl
  have hx := v64_wf wx.2
  have h1 : soft_Tell.f o w x f = some (tellS o w x f) := if_pos ⟨hw, hx⟩
  have h2 : thrumref15_Tell.f o w x f = some (tellS o w x f) := if_pos ⟨hw, hx⟩
  have h3 : soft_Class.f o w x f = some (classS o w x f) := if_pos ⟨hw, hx⟩
  have h4 : thrumref15_Class.f o w x f = some (classS o w x f) := if_pos ⟨hw, hx⟩
  have h5 : soft_Off.f o w x y f = some (offS o w x y f) := if_pos ⟨hw, hx⟩
  have h6 : thrumref15_Off.f o w x y f = some (offS o w x y f) := if_pos ⟨hw, hx⟩
  have h7 : soft_Rows.f o w = some (rowsS o w) := rfl
  have h8 : thrumref15_Rows.f o w = some (rowsS o w) := rfl
  have h9 : soft_Dim.f n o = some (dimS n o) := soft_Dim.is n o
  have ha : thrumref15_Dim.f n o = some (dimS n o) := rfl
  have hs2 : ∀ l : List Int, thrumref02_Same.f l l = some true := fun l => by unfold thrumref02_Same.f; simp
  have hl2 : ∀ l : List (List Int), thrumref15_SameLists.f l l = some true := fun l => by unfold thrumref15_SameLists.f; simp
  have hb : ∀ l : List S24, soft_Check.f n o w l = some (checkS n o w (l.map sm)) := fun l => rfl
  have hc : ∀ l : List S24, thrumref15_Check.f n o w l = some (checkS n o w (l.map sm)) := fun l => rfl
  unfold thrumlaw15_SoftTells.f
  rw [show thrumlaw15_live.f = some true from rfl, Option.bind_some, if_pos rfl]
  obtain ⟨b, hF⟩ : ∃ b, thrumref14_Few.f w ([(⟨x, y⟩ : S24)] : List S24) = some b := ⟨_, rfl⟩
  rw [hF, Option.bind_some]
  cases b with
  | false => rw [if_neg (by decide)]
  | true =>
    rw [if_pos rfl, h1, Option.bind_some, h2, Option.bind_some, h3, Option.bind_some, h4, Option.bind_some, h5, Option.bind_some, h6, Option.bind_some, h7, Option.bind_some, h8, Option.bind_some, h9, Option.bind_some, ha, Option.bind_some, hs2, Option.bind_some, if_pos rfl, if_pos rfl, if_pos rfl, if_pos rfl, hs2, Option.bind_some, if_pos rfl, if_pos rfl, hl2, Option.bind_some, if_pos rfl, if_pos rfl, if_pos rfl, if_pos rfl, hb, Option.bind_some, hc, Option.bind_some, beq_self_eq_true]
end Go.Proofs.Ytihgcjagokippaa.Pure
