/- ModelClips: clipped no number is too great, and none that was not is another one. -/
import Derived.Test.YtbnfejaeekljcaaHDx13
import Derived.Test.YtbnfejaeekljcaaPVec
import Derived.Test.YtbnfejaeekljcaaPEv
namespace Go.Proofs.Ytbnfejaeekljcaa.Pure
open Go.RowKit Go.Proofs.Ytbnfejaeekljcaa.HD Go.Proofs.YtbnfejaeekljcaaW.PrintWords Go.Proofs.YtbnfejaeekljcaaW.PrintLast Go.Proofs.YtbnfejaeekljcaaW.PrintMore Go.Proofs.Ytbnfejaeekljcaa.Sp
set_option linter.unusedVariables false
set_option linter.unusedSimpArgs false
theorem i64_wf {x : Int} (h : (Lit.int .i64 x).wf = true) : I64 x := by
  have hmin : IntKind.i64.min = -9223372036854775808 := rfl
  have hmax : IntKind.i64.max = 9223372036854775807 := rfl
  simp only [Lit.wf, Bool.and_eq_true, decide_eq_true_eq] at h
  unfold I64; omega
theorem v64_wf {l : List Int} (h : ∀ x ∈ l, (Lit.int .i64 x).wf = true) : V64 l := fun x hx => i64_wf (h x hx)
/-- Short enough, and of 64 bits. -/
def Shr (p : List Int × Int) : Prop := V64 p.1 ∧ p.1.length ≤ 4096
theorem shr_nil (e : Int) : Shr ([], e) := ⟨V64.nil, Nat.zero_le _⟩
theorem meanL_shr (n : Int) (l : List (List Int)) : Shr (meanL n l) := by
  refine ⟨meanL_v64 n l, ?_⟩
  unfold meanL
  split
  · exact Nat.zero_le _
  · split
    · refine Nat.le_trans (seqV_lle _) ?_
      rw [List.length_map]
      exact sumsV_lle l
    · exact Nat.zero_le _
theorem gradK_shr (k i o h f : Int) (w : List Int) (l : List (List Int × Int)) : Shr (gradK k i o h f w l) := by
  unfold gradK
  split
  · exact shr_nil _
  · split
    · unfold gradL
      split
      · split
        · exact meanL_shr _ _
        · exact shr_nil _
      · exact shr_nil _
    · split
      · unfold gradS
        split
        · split
          · exact meanL_shr _ _
          · exact shr_nil _
        · exact shr_nil _
      · unfold gradM
        split
        · exact shr_nil _
        · split
          · exact shr_nil _
          · split
            · exact meanL_shr _ _
            · exact shr_nil _
theorem clip_facts {x most : Int} (h0 : ¬ most < 0) : (clipF x most).1 ≤ most ∧ -most ≤ (clipF x most).1 ∧ (x ≤ most → x ≥ -most → (clipF x most).1 = x) := by
  unfold clipF
  rw [if_neg h0]
  dsimp only
  by_cases a1 : x < -most
  · rw [if_pos a1]; omega
  · rw [if_neg a1]
    by_cases a2 : most < x
    · rw [if_pos a2]; omega
    · rw [if_neg a2]; omega
theorem neg_wrap {most : Int} (hm : I64 most) (h0 : ¬ most < 0) : wrap64 (-most) = -most := wrap64_of (x := -most) (by unfold I64 at *; omega)
theorem nat_wrap {j : Nat} (h : j ≤ 5000) : wrap64 ((j : Int) + 1) = ((j + 1 : Nat) : Int) := (wrap64_of (x := (j : Int) + 1) (by unfold I64; omega)).trans (by omega)
/-- What a number and what it was clipped to come to in a round. -/
theorem clip_round {α : Type} {x y most : Int} {a b : α} (h1 : y ≤ most) (h2 : -most ≤ y) (h3 : x ≤ most → x ≥ -most → y = x) :
    (if y > most then a else if y < -most then a else if x ≤ most then (if x ≥ -most then (if y = x then b else a) else b) else b) = b := by
  rw [if_neg (by omega), if_neg (by omega)]
  by_cases a1 : x ≤ most
  · rw [if_pos a1]
    by_cases a2 : x ≥ -most
    · rw [if_pos a2, if_pos (h3 a1 a2)]
    · rw [if_neg a2]
  · rw [if_neg a1]
theorem clips_loop {most : Int} (hm : I64 most) (h0 : ¬ most < 0) (g : List Int) (hl : g.length ≤ 4096) : ∀ (d j : Nat), d + j = g.length →
    Evt (fun K => thrumlaw17_ModelClips.l0 K most true (g.map fun x => (clipF x most).1) g (g.length : Int) (j : Int)) := by
  intro d
  induction d with
  | zero =>
    intro j hd
    refine Evt.done (fun K => ?_)
    rw [thrumlaw17_ModelClips.l0.eq_2, if_neg (by omega)]
  | succ d ih =>
    intro j hd
    have hj : j < g.length := by omega
    have hj5 : j ≤ 5000 := by omega
    have hj' : (j : Int) < (g.length : Int) := by omega
    have hj0 : (0 : Int) ≤ (j : Int) := by omega
    have hjm : j < (g.map fun x => (clipF x most).1).length := by rw [List.length_map]; exact hj
    have hjm' : (j : Int) < (((g.map fun x => (clipF x most).1).length : Nat) : Int) := by rw [List.length_map]; exact hj'
    have hi := ih (j + 1) (by omega)
    refine Evt.step hi (fun K => ?_)
    have e1 : rd (g.map fun x => (clipF x most).1) (j : Int) = (clipF g[j] most).1 := by rw [rd_nat hjm, List.getElem_map]
    have e2 : rd g (j : Int) = g[j] := rd_nat hj
    obtain ⟨f1, f2, f3⟩ := clip_facts (x := g[j]) h0
    rw [thrumlaw17_ModelClips.l0.eq_2, if_pos hj', if_pos hj0, if_pos hj', if_pos hjm', e1, e2, neg_wrap hm h0, nat_wrap hj5]
    exact clip_round f1 f2 f3
/-- A model's beginning, for the chapter's example. -/
theorem live_evt : ∃ K, ∀ k, K ≤ k → thrumlaw17_live.f k = some true := by
  refine ⟨20, fun k hk => ?_⟩
  obtain ⟨K, rfl⟩ : ∃ K, k = K + 20 := ⟨k - 20, by omega⟩
  have hb : ∀ (K : Nat) (m seed i : Int), 0 < m → ∃ v, draw_Below.f (K + 3) m seed [i] = some (v, 0) := fun K m seed i hm => by
    obtain ⟨t, ht⟩ : ∃ t, draw_stir_with.f seed i = some t := ⟨_, rfl⟩
    obtain ⟨u, hu⟩ : ∃ u, draw_stir_end.f t = some u := ⟨_, rfl⟩
    have ho : draw_over.f (K + 3) seed [i] = some t := by
      show draw_over.l0 (K + 2 + 1) seed [i] (([i] : List Int).length : Int) 0 = _
      rw [draw_over.l0.eq_2, if_pos (by simp), if_pos (by omega), if_pos (by simp), show rd [i] 0 = i from rfl, ht, Option.bind_some, wrap64_of (x := 0 + 1) (by unfold I64; omega)]
      show draw_over.l0 (K + 1 + 1) t [i] (([i] : List Int).length : Int) 1 = _
      rw [draw_over.l0.eq_2, if_neg (by simp)]
    refine ⟨Int.tmod u m, ?_⟩
    · unfold draw_Below.f draw_At.f
      rw [if_neg (by omega), ho, Option.bind_some, hu, Option.bind_some, Option.bind_some]
  have e1 : shl .u64 1 0 = 1 := (shl_u64 0 (by omega)).trans rfl
  have e2 : shl .i64 1 0 = 1 := (shl_i64 0 (by omega)).trans rfl
  have e3 : IntKind.u64.wrap (1 + 1) = 2 := by decide
  obtain ⟨v0, h0⟩ := hb (K + 16) 2 1 0 (by omega)
  obtain ⟨v1, h1⟩ := hb (K + 15) 2 1 1 (by omega)
  have hs : ∃ x y, model_Start.f (K + 20) 0 1 0 0 0 1 = some ([x, y], 0) := by
    refine ⟨wrap64 ((wrap64 v0) - 1 / 2), wrap64 ((wrap64 v1) - 1 / 2), ?_⟩
    unfold model_Start.f
    rw [show model_of.f 0 1 0 0 0 = some (.of 86 0 1 0 0 0, 2, 0) from rfl, Option.bind_some, if_pos rfl, if_pos (by decide), if_pos (by decide), Option.bind_some]
    show model_Start.l0 (K + 19 + 1) 1 [0, 0] 2 0 0 1 0 0 0 = _
    rw [model_Start.l0.eq_2, if_pos (by decide), if_pos (by decide), e1, e2, e3, show K + 19 = K + 16 + 3 by omega, h0, Option.bind_some, if_pos rfl, if_pos (by decide), if_pos (by simp), wrap64_of (x := 0 + 1) (by unfold I64; omega)]
    show model_Start.l0 (K + 18 + 1) 1 [wrap64 ((wrap64 v0) - 1 / 2), 0] 2 1 0 1 0 0 0 = _
    rw [model_Start.l0.eq_2, if_pos (by decide), if_pos (by decide), e1, e2, e3, show K + 18 = K + 15 + 3 by omega, h1, Option.bind_some, if_pos rfl, if_pos (by decide), if_pos (by simp), wrap64_of (x := 1 + 1) (by unfold I64; omega)]
    show model_Start.l0 (K + 17 + 1) 1 [wrap64 ((wrap64 v0) - 1 / 2), wrap64 ((wrap64 v1) - 1 / 2)] 2 2 0 1 0 0 0 = _
    rw [model_Start.l0.eq_2, if_neg (by decide)]
  obtain ⟨x, y, hs⟩ := hs
  unfold thrumlaw17_live.f
  rw [show model_Dim.f 1 3 2 0 0 = some (8, 0) from rfl, Option.bind_some, hs, Option.bind_some, if_pos rfl, if_pos rfl, if_pos (by simp)]
  rfl
theorem ModelClips : thrumlaw17_ModelClips.Pure := by
  intro k i o h f w most l wk wi wo wh wf wm wb ww wmost wx
  have hw := v64_wf ww
  have hl : ∀ s ∈ l, Sm64 s := fun s hs => ⟨v64_wf (wx.2 s hs).1.2, i64_wf (wx.2 s hs).2.1⟩
  have hmost := i64_wf wmost
  refine Evt.get (F := fun K => thrumlaw17_ModelClips.f K k i o h f w most l) ?_
  obtain ⟨K0, hlive⟩ := live_evt
  obtain ⟨b, hF⟩ : ∃ b, thrumref14_Few.f w l = some b := ⟨_, rfl⟩
  have hG : Evt (fun K => if b = true then ((model_Grad.f k i o h f w l).bind fun bt318 => ((model_Clip.f k i o h f w most l).bind fun bt322 => (if bt318.2 = 0 then (if most < 0 then (some (bt322.2 == 1)) else (if bt322.2 = 0 then (thrumlaw17_ModelClips.j0 K most true bt318.1 bt322.1 ((bt322.1.length : Int) != (bt318.1.length : Int))) else (thrumlaw17_ModelClips.j0 K most true bt318.1 bt322.1 true))) else (some (bt322.2 == bt318.2))))) else (some true)) := by
    cases b with
    | false => exact Evt.same Evt.true (fun K => if_neg (by decide))
    | true =>
      have hc := of_decide_eq_true (Option.some.inj hF)
      have hg : model_Grad.f k i o h f w l = some (gradK k i o h f w (l.map sm)) := if_pos ⟨hw, hl, by have := hc.2.2; omega⟩
      have hr := gradK_shr k i o h f w (l.map sm)
      unfold model_Clip.f
      rw [hg]
      generalize gradK k i o h f w (l.map sm) = p at hr
      obtain ⟨g, e⟩ := p
      simp only [if_true, Option.bind_some]
      by_cases c : e = 0
      · have hv : vec_Clip.f g most = some (clipV g most) := vec_Clip.of _ _ ⟨hr.1, hmost⟩
        by_cases c2 : most < 0
        · have hcl : clipV g most = ([], 1) := by
            unfold clipV clipE
            rw [if_pos (checkE_of hr.2), if_pos c2, if_neg (by decide)]
          refine Evt.same Evt.true (fun K => ?_)
          rw [if_pos c, hv, hcl, Option.bind_some, Option.bind_some, if_pos c, if_pos c2]
          rfl
        · have hcl : clipV g most = (g.map (fun x => (clipF x most).1), 0) := by
            unfold clipV clipE
            rw [if_pos (checkE_of hr.2), if_neg c2, if_pos rfl]
            exact seqV_clip g c2
          refine Evt.same (Evt.step (clips_loop hmost c2 g hr.2 g.length 0 (by omega)) (F := fun K => thrumlaw17_ModelClips.j0 K most true g (g.map fun x => (clipF x most).1) false) (fun K => ?_)) (fun K => ?_)
          · rw [thrumlaw17_ModelClips.j0.eq_2, if_neg (by decide)]
            rfl
          · rw [if_pos c, hv, hcl, Option.bind_some, Option.bind_some, if_pos c, if_neg c2, if_pos rfl, List.length_map, show ((g.length : Int) != (g.length : Int)) = false from bne_eq_false_iff_eq.2 rfl]
      · refine Evt.same Evt.true (fun K => ?_)
        rw [if_neg c, Option.bind_some, if_neg c, beq_self_eq_true]
  obtain ⟨K1, h1⟩ := hG
  refine ⟨max K0 K1, fun K hK => ?_⟩
  unfold thrumlaw17_ModelClips.f
  dsimp only
  rw [hlive K (by omega), Option.bind_some, if_pos rfl, hF, Option.bind_some]
  exact h1 K (by omega)
end Go.Proofs.Ytbnfejaeekljcaa.Pure
