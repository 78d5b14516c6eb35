/- ModelStarts: a model begins with as many numbers as it has, none of a size above a half; by the same seed it begins the same; it goes with samples of its size. -/
import Derived.Test.YtbnfejaeekljcaaHDx7
import Derived.Test.YtbnfejaeekljcaaPVec
import Derived.Test.YtbnfejaeekljcaaPEv
import Derived.OpenShut
namespace Go.Proofs.Ytbnfejaeekljcaa.Pure
open Go.RowKit Go.Proofs.Ytbnfejaeekljcaa.HD Go.Proofs.YtbnfejaeekljcaaW.PrintWords Go.Proofs.YtbnfejaeekljcaaW.PrintLast Go.Proofs.YtbnfejaeekljcaaW.PrintMore Go.Proofs.Ytbnfejaeekljcaa.Sp
set_option linter.unusedVariables false
set_option linter.unusedSimpArgs false
theorem i64_wf {x : Int} (h : (Lit.int .i64 x).wf = true) : I64 x := by
  have hmin : IntKind.i64.min = -9223372036854775808 := rfl
  have hmax : IntKind.i64.max = 9223372036854775807 := rfl
  simp only [Lit.wf, Bool.and_eq_true, decide_eq_true_eq] at h
  unfold I64; omega
theorem u64_wf {x : Int} (h : (Lit.int .u64 x).wf = true) : 0 ≤ x := by
  have hmin : IntKind.u64.min = 0 := rfl
  simp only [Lit.wf, Bool.and_eq_true, decide_eq_true_eq] at h
  omega
/-- A draw below a number, from some rounds on. -/
theorem below_some (m seed i : Int) (hm : 0 < m) : ∃ v, 0 ≤ v ∧ v < m ∧ ∀ k, draw_Below.f (k + 3) m seed [i] = some (v, 0) := by
  obtain ⟨t, ht⟩ : ∃ t, draw_stir_with.f seed i = some t := ⟨_, rfl⟩
  obtain ⟨u, hu⟩ : ∃ u, draw_stir_end.f t = some u := ⟨_, rfl⟩
  have hu0 : 0 ≤ u := by
    have h := Option.some.inj hu
    rw [← h]
    exact u64_wf (wf_bits _ _ _ _)
  refine ⟨Int.tmod u m, Int.tmod_nonneg _ hu0, Int.tmod_lt_of_pos _ hm, fun k => ?_⟩
  have ho : draw_over.f (k + 3) seed [i] = some t := by
    show draw_over.l0 (k + 2 + 1) seed [i] (([i] : List Int).length : Int) 0 = _
    rw [draw_over.l0.eq_2, if_pos (by simp), if_pos (by omega), if_pos (by simp), show rd [i] 0 = i from rfl, ht, Option.bind_some, wrap64_of (x := 0 + 1) (by unfold I64; omega)]
    show draw_over.l0 (k + 1 + 1) t [i] (([i] : List Int).length : Int) 1 = _
    rw [draw_over.l0.eq_2, if_neg (by simp)]
  unfold draw_Below.f draw_At.f
  rw [if_neg (by omega), ho, Option.bind_some, hu, Option.bind_some, Option.bind_some]
theorem pow_le {f : Int} (h0 : 0 ≤ f) (h1 : f ≤ 30) : 1 ≤ (2 : Int) ^ f.toNat ∧ (2 : Int) ^ f.toNat ≤ 1073741824 := by
  have := pow_bd f 30 h1
  rw [show (2 : Int) ^ 30 = 1073741824 from rfl] at this
  omega
/-- No number of a size above a half. -/
def Half (p : Int) (x : Int) : Prop := -(p / 2) ≤ x ∧ x ≤ p - p / 2
theorem start_loop {f : Int} (h0 : 0 ≤ f) (h1 : f ≤ 30) (seed k i o h : Int) (n : Nat) (hn : n ≤ 4096) : ∀ (d j : Nat) (l : List Int), d + j = n → l.length = n → (∀ q, q < j → Half (2 ^ f.toNat) (l.getD q 0)) →
    ∃ v : List Int, v.length = n ∧ (∀ x ∈ v, Half (2 ^ f.toNat) x) ∧ ∀ K, model_Start.l0 (K + d + 4) seed l (n : Int) (j : Int) k i o h f = some (v, 0) := by
  have hp := pow_le h0 h1
  have e1 : shl .u64 1 f = 2 ^ f.toNat := shl_u64 f (by omega)
  have e2 : shl .i64 1 f = 2 ^ f.toNat := shl_i64 f (by omega)
  generalize (2 : Int) ^ f.toNat = p at hp e1 e2 ⊢
  have e3 : IntKind.u64.wrap (p + 1) = p + 1 := by
    unfold IntKind.wrap
    simp [IntKind.bits, IntKind.signed]
    omega
  intro d
  induction d with
  | zero =>
    intro j l hd hl hq
    refine ⟨l, hl, fun x hx => ?_, fun K => ?_⟩
    · obtain ⟨q, hq2, rfl⟩ := List.getElem_of_mem hx
      have := hq q (by omega)
      rw [List.getD_eq_getElem?_getD, List.getElem?_eq_getElem hq2] at this
      exact this
    · show model_Start.l0 (K + 0 + 3 + 1) _ _ _ _ _ _ _ _ _ = _
      rw [model_Start.l0.eq_2, if_neg (by omega)]
  | succ d ih =>
    intro j l hd hl hq
    obtain ⟨b, hb0, hb1, hb⟩ := below_some (p + 1) seed (j : Int) (by omega)
    obtain ⟨v, hv1, hv2, hv3⟩ := ih (j + 1) (l.set j (b - p / 2)) (by omega) (by rw [List.length_set]; exact hl) (fun q hq2 => by
      by_cases c : q = j
      · subst c
        rw [List.getD_eq_getElem?_getD, List.getElem?_set_self (by omega)]
        show Half p (b - p / 2)
        unfold Half; omega
      · rw [List.getD_eq_getElem?_getD, List.getElem?_set_ne (fun e => c e.symm), ← List.getD_eq_getElem?_getD]
        exact hq q (by omega))
    refine ⟨v, hv1, hv2, fun K => ?_⟩
    rw [show K + (d + 1) + 4 = (K + d + 4) + 1 by omega, model_Start.l0.eq_2, if_pos (by omega), if_pos h0, e1, e2, e3, show K + d + 4 = (K + d + 1) + 3 by omega, hb, Option.bind_some, if_pos rfl, if_pos (by omega), if_pos (by omega), Int.toNat_natCast,
      wrap64_of (x := b) (by unfold I64; omega), wrap64_of (x := b - p / 2) (by unfold I64; omega), wrap64_of (x := (j : Int) + 1) (by unfold I64; omega)]
    exact hv3 K
theorem ofK_len {k i o h f : Int} (c : (ofK k i o h f).2.2 = 0) : 0 ≤ (ofK k i o h f).2.1 ∧ (ofK k i o h f).2.1 ≤ 150 := by
  obtain ⟨-, g⟩ := ofK_good c
  rcases g with ⟨-, g, g2⟩ | ⟨-, g, g2⟩ | ⟨-, g, g2⟩
  · rw [g]
    unfold dimL at g2 ⊢
    split
    · rename_i c; rw [if_pos c] at g2; cases g2
    · show 0 ≤ i + 1 ∧ i + 1 ≤ 150; omega
  · rw [g]
    unfold dimS at g2 ⊢
    split
    · rename_i c; rw [if_pos c] at g2; cases g2
    · rename_i c
      unfold badOut at c
      show 0 ≤ (i + 1) * o ∧ (i + 1) * o ≤ 150
      have h1 : (i + 1) * o ≤ 17 * 8 := Int.mul_le_mul (by omega) (by omega) (by omega) (by omega)
      exact ⟨Int.mul_nonneg (by omega) (by omega), by omega⟩
  · rw [g]
    unfold dimM at g2 ⊢
    split
    · rename_i c; rw [if_pos c] at g2; cases g2
    · rename_i c
      unfold badHid at c
      show 0 ≤ h * (i + 1) + h + 1 ∧ h * (i + 1) + h + 1 ≤ 150
      have h1 : h * (i + 1) ≤ 8 * 17 := Int.mul_le_mul (by omega) (by omega) (by omega) (by omega)
      have h2 := Int.mul_nonneg (a := h) (b := i + 1) (by omega) (by omega)
      omega
/-- How a model begins. -/
theorem start_some (seed k i o h f : Int) (c : (ofK k i o h f).2.2 = 0) : ∃ v : List Int, (v.length : Int) = (ofK k i o h f).2.1 ∧ (∀ x ∈ v, Half (2 ^ f.toNat) x) ∧ ∀ K, model_Start.f (K + 200) k i o h f seed = some (v, 0) := by
  obtain ⟨hl, hh⟩ := ofK_len c
  obtain ⟨g, -⟩ := ofK_good c
  have hf : 0 ≤ f ∧ f ≤ 30 := by unfold offK at g; omega
  obtain ⟨n, hn⟩ : ∃ n : Nat, (ofK k i o h f).2.1 = n := ⟨(ofK k i o h f).2.1.toNat, by omega⟩
  obtain ⟨v, h1, h2, h3⟩ := start_loop hf.1 hf.2 seed k i o h n (by omega) n 0 (List.replicate n 0) (by omega) (by simp) (fun q hq => by omega)
  refine ⟨v, by omega, h2, fun K => ?_⟩
  show ((some (ofK k i o h f)).bind fun bt122 => _) = _
  rw [Option.bind_some, if_pos c, hn, if_pos (by omega), Int.toNat_natCast, if_pos (by omega), Option.bind_some, List.length_replicate]
  have := h3 (K + 196 - n)
  rw [show K + 196 - n + n + 4 = K + 200 by omega] at this
  exact this
theorem start_bad (seed k i o h f : Int) (c : (ofK k i o h f).2.2 ≠ 0) (K : Nat) : model_Start.f K k i o h f seed = some ([], (ofK k i o h f).2.2) := by
  show ((some (ofK k i o h f)).bind fun bt122 => _) = _
  rw [Option.bind_some, if_neg c]
/-- The greatest of them. -/
theorem most_half {f : Int} (h0 : 0 ≤ f) (h1 : f ≤ 30) {v : List Int} (hl : v.length ≤ 4096) (h : ∀ x ∈ v, Half (2 ^ f.toNat) x) : (mostV v).2 = 0 ∧ (mostV v).1 ≤ (2 ^ f.toNat + 1) / 2 := by
  have hp := pow_le h0 h1
  generalize (2 : Int) ^ f.toNat = p at hp h ⊢
  unfold Half at h
  have he : mostV v = mostGo (v.map absF) 0 := if_pos (checkE_of hl)
  rw [he]
  have h2 : (mostGo (v.map absF) 0).2 = 0 := by
    apply Classical.byContradiction
    intro hn
    obtain ⟨-, x, hx, hb⟩ := mostGo_err v 0 hn
    have := h x hx
    exact hb (by unfold absF; rw [res_of (by unfold I64; omega)])
  refine ⟨h2, ?_⟩
  obtain ⟨-, -, -, h3⟩ := mostGo_ok v 0 h2
  rcases h3 with h3 | ⟨x, hx, h3⟩
  · omega
  · have := h x hx
    omega
/-- It goes with samples of its size. -/
theorem fits_zero {k i o h f : Int} (c : (ofK k i o h f).2.2 = 0) (w : List Int) (hw : (w.length : Int) = (ofK k i o h f).2.1) : (1 ≤ i ∧ i ≤ 16) ∧ fitsK k i o h f w [(List.replicate i.toNat 0, 0)] = 0 := by
  obtain ⟨-, g⟩ := ofK_good c
  unfold fitsK
  rw [if_neg (not_not_intro c)]
  rcases g with ⟨rfl, g, g2⟩ | ⟨rfl, g, g2⟩ | ⟨rfl, g, g2⟩
  · rw [g] at hw
    rw [if_pos rfl]
    unfold dimL at g2 hw
    by_cases d : i < 1 ∨ i > 16
    · rw [if_pos d] at g2; cases g2
    · rw [if_neg d] at hw
      have hi : 1 ≤ i ∧ i ≤ 16 := by omega
      refine ⟨hi, checkL_of hi.1 hi.2 hw (fun s hs => ?_) (by simp) (by simp)⟩
      cases List.mem_singleton.1 hs
      show ((List.replicate i.toNat (0 : Int)).length : Int) = i
      rw [List.length_replicate]; omega
  · rw [g] at hw
    rw [if_neg (by decide), if_pos rfl]
    have g3 := g2
    unfold dimS at g2
    by_cases d : i < 1 ∨ i > 16 ∨ badOut o
    · rw [if_pos d] at g2; cases g2
    · unfold badOut at d
      have hi : 1 ≤ i ∧ i ≤ 16 := by omega
      refine ⟨hi, ?_⟩
      have hs : ∀ s ∈ ([(List.replicate i.toNat 0, 0)] : List (List Int × Int)), (s.1.length : Int) = i ∧ 0 ≤ s.2 ∧ s.2 < o := fun s hs => by
        cases List.mem_singleton.1 hs
        refine ⟨?_, Int.le_refl _, ?_⟩
        · show ((List.replicate i.toNat (0 : Int)).length : Int) = i
          rw [List.length_replicate]; omega
        · show (0 : Int) < o; omega
      unfold checkS
      rw [if_neg (not_not_intro g3), if_neg (fun h => h.elim (fun h => h hw) (fun h => h (fun s hs' => (hs s hs').1))), if_neg (fun h => h.elim (fun h => by cases h) (fun h => h.elim (fun h => by simp at h) (fun h => h (fun s hs' => (hs s hs').2))))]
  · rw [g] at hw
    rw [if_neg (by decide), if_neg (by decide)]
    have g3 := g2
    unfold dimM at g2
    by_cases d : i < 1 ∨ i > 16 ∨ badHid h
    · rw [if_pos d] at g2; cases g2
    · have hi : 1 ≤ i ∧ i ≤ 16 := by omega
      refine ⟨hi, ?_⟩
      have hs : ∀ s ∈ ([(List.replicate i.toNat 0, 0)] : List (List Int × Int)), (s.1.length : Int) = i := fun s hs => by
        cases List.mem_singleton.1 hs
        show ((List.replicate i.toNat (0 : Int)).length : Int) = i
        rw [List.length_replicate]; omega
      unfold checkM
      rw [if_neg (not_not_intro g3), if_neg (fun h => h.elim (fun h => h hw) (fun h => h hs)), if_neg (by simp)]
theorem live_true (K : Nat) : thrumlaw17_live.f (K + 200) = some true := by
  obtain ⟨v, h1, -, h3⟩ := start_some 1 0 1 0 0 0 (by decide)
  unfold thrumlaw17_live.f
  rw [h3 K, show model_Dim.f 1 3 2 0 0 = some (8, 0) from rfl, Option.bind_some, Option.bind_some, if_pos rfl, if_pos rfl, if_pos (by rw [h1]; rfl)]
  rfl
theorem v64_half {f : Int} (h0 : 0 ≤ f) (h1 : f ≤ 30) {v : List Int} (h : ∀ x ∈ v, Half (2 ^ f.toNat) x) : V64 v := fun x hx => by
  have hp := pow_le h0 h1
  have := h x hx
  unfold Half at this
  unfold I64; omega
theorem ModelStarts : thrumlaw17_ModelStarts.Pure := by
  intro k i o h f seed wk wi wo wh wf ws
  refine Evt.get (F := fun K => thrumlaw17_ModelStarts.f K k i o h f seed) ⟨201, fun K' hK => ?_⟩
  obtain ⟨K, rfl⟩ : ∃ K, K' = K + 1 + 200 := ⟨K' - 201, by omega⟩
  unfold thrumlaw17_ModelStarts.f
  dsimp only
  rw [live_true, Option.bind_some, if_pos rfl]
  have hd : model_Dim.f k i o h f = some ((ofK k i o h f).2.1, (ofK k i o h f).2.2) := rfl
  by_cases c : (ofK k i o h f).2.2 = 0
  · obtain ⟨v, h1, h2, h3⟩ := start_some seed k i o h f c
    obtain ⟨hl, hh⟩ := ofK_len c
    obtain ⟨g, -⟩ := ofK_good c
    have hf : 0 ≤ f ∧ f ≤ 30 := by unfold offK at g; omega
    obtain ⟨m1, m2⟩ := most_half hf.1 hf.2 (v := v) (by omega) h2
    have hm : vec_Most.f v = some (mostV v) := if_pos (v64_half hf.1 hf.2 h2)
    obtain ⟨fi, ff⟩ := fits_zero c v h1
    have hp := pow_le hf.1 hf.2
    have e1 : wrap64 (Int.tdiv (wrap64 (shl .i64 1 f + 1)) 2) = (2 ^ f.toNat + 1) / 2 := by
      rw [shl_i64 f (by omega)]
      generalize (2 : Int) ^ f.toNat = p at hp
      rw [wrap64_of (x := p + 1) (by unfold I64; omega), Int.tdiv_eq_ediv_of_nonneg (by omega)]
      exact wrap64_of (by unfold I64; omega)
    have hsame : vec_Same.f v v = some true := by unfold vec_Same.f slices_Equal_int64_int64.f; simp
    rw [h3 (K + 1), hd, Option.bind_some, Option.bind_some, if_pos c.symm, if_pos rfl, Option.bind_some, hm, Option.bind_some, if_pos h1, if_pos rfl, hsame, Option.bind_some, if_pos rfl, if_pos m1, if_pos hf.1, e1, decide_eq_false (by omega)]
    show thrumlaw17_ModelStarts.j0 (K + 200 + 1) true v false k i o h f = _
    rw [thrumlaw17_ModelStarts.j0.eq_2, if_neg (by decide), if_neg (by omega), if_neg (by omega), if_pos rfl, if_pos (by omega), if_pos (by omega)]
    show ((some (fitsK k i o h f v [(List.replicate i.toNat 0, 0)])).bind fun t186 => _) = _
    rw [ff]
    rfl
  · rw [start_bad seed k i o h f c, hd, Option.bind_some, Option.bind_some, if_pos rfl, if_neg c]
    rfl
end Go.Proofs.Ytbnfejaeekljcaa.Pure
