/- What Go functions do, each as a plain Lean function with the same answers, and the proof of it, in every world: printed by the session's driver over the kit's print, with texts by hand. -/
import Derived.Test.YtfbdalnjijdknaaHLx0
import Derived.Test.YtfbdalnjijdknaaHLx1
import Derived.Test.YtfbdalnjijdknaaHLx3
import Derived.Test.YtfbdalnjijdknaaHLx8
namespace Go.Proofs.Ytfbdalnjijdknaa.HL
open Go.RowKit Go.Proofs.YtfbdalnjijdknaaW.PrintWords Go.Proofs.YtfbdalnjijdknaaW.PrintLast Go.Proofs.YtfbdalnjijdknaaW.PrintMore
attribute [local go_sem] max2_int min2_int max_two min_two max_three min_three max_four min_four   -- for this text's walks alone
open Go.Proofs.Ytfbdalnjijdknaa.Sp
attribute [local go_sem] Go.Proofs.Ytfbdalnjijdknaa.Sp.u64_not
set_option linter.unusedVariables false
set_option linter.unusedSimpArgs false

/-! ### linear_Grad: function 71 -/
set_option maxHeartbeats 4000000 in
set_option maxRecDepth 100000 in
theorem linear_Grad_1.calls (n0 b1 b2 : Nat) (A0 : Option Addr) (c0 : Nat) (x : List Int) (y off a1 : Int) (W : World) (v : Value) (xs : List (List Int))
    (hb1 : W.heap[b1]? = some (.cells #[.int .i64 a1] 3 (0, 0))) (hb2 : W.heap[b2]? = some (.cells #[v] 30 (0, 0))) (hne : b1 ≠ b2) (h2 : n0 ≤ b2) (hn : n0 ≤ W.heap.size)
    (hS : Kd.S (Kd.slice 2 (Kd.int .i64)) 22 W n0 (fun _ => True) v xs) (hr : Kd.C (Kd.int .i64) W A0 x.length x) (hc : x.length ≤ c0) (hv : V64 x ∧ I64 off) (hl : xs.length ≤ 64) :
    Calls Try.prog 128 #[.agg #[.slice A0 x.length c0, .int .i64 y], .int .i64 off, .pointer (some ⟨b1, 0, none⟩), .pointer (some ⟨b2, 0, none⟩)] W fun ed W' => ed = .returned (.int .i64 (scaleV x off a1).2) ∧ Below n0 W W' ∧
      ∃ v', W'.heap[b1]? = some (.cells #[.int .i64 a1] 3 (0, 0)) ∧ W'.heap[b2]? = some (.cells #[v'] 30 (0, 0)) ∧ Kd.S (Kd.slice 2 (Kd.int .i64)) 22 W' n0 (fun _ => True) v' (xs ++ [(scaleV x off a1).1 ++ [off]]) := by
  have hu := Try.underlying26
  obtain ⟨⟨t, e⟩, ht⟩ : ∃ p, scaleV x off a1 = p := ⟨_, rfl⟩
  have hlt := scaleV_lle x off a1
  rw [ht] at hlt ⊢
  simp only [] at hlt ⊢
  have A4 : Aside0 (vec_Scale.f x off a1 = some (t, e)) := ⟨(vec_Scale.of _ _ _ hv).trans (congrArg some ht)⟩
  have LT := Aside0.mk hlt
  have LX := Aside0.mk hl
  have HR := Aside0.mk hr
  have HC := Aside0.mk hc
  have BK1 := Aside0.mk hb1
  have BK2 := Aside0.mk hb2
  have HNE := Aside0.mk hne
  have H2 := Aside0.mk h2
  have HN := Aside0.mk hn
  have HS := Aside0.mk hS
  have HB := Aside0.mk (Below.refl n0 W)
  have HBW0 := Aside0.mk (Below.refl W.heap.size W)
  obtain ⟨row, hrow⟩ : ∃ y_ : List Int, y_ = t ++ [off] := ⟨_, rfl⟩
  rw [← hrow]
  have NY := Aside0.mk hrow
  clear hrow
  clear hlt hl hr hc hb1 hb2 hne h2 hn hS hv ht
  go_enter Try.func128, Try.ntmps128
  go_wp2_with (first | ((with_reducible refine gate_dst (N := 4) rfl ?_); refine box_event ?hg (N := 4) ?hd (cs := #[.slice A0 x.length c0, .int .i64 y]) (t := 26) ?hr ?_; (case hd => rfl); (case hg => rfl); (case hr => first | (go_simp; done) | (go_simp; rfl)); intro gb hg w1 hbox hb; have n0 := Aside0.mk (below_then HB.out (Nat.le_trans HN.out HB.out.size) hb); have n1 := Aside0.mk (Kd.S_below HS.out hb); have n2 := Aside0.mk (blk_below BK1.out hb); have n3 := Aside0.mk (blk_below BK2.out hb); have BK := Aside0.mk hbox; have HBW := Aside0.mk (below_then HBW0.out (Nat.le_refl _) hb); clear HB HS BK1 BK2 hb hbox hg; have HB := n0; have HS := n1; have BK1 := n2; have BK2 := n3; clear n0 n1 n2 n3; have hx0 : w1.cell? ⟨gb, 0, none⟩ = some (.slice A0 x.length c0) := (blk_cell BK.out 0).trans rfl; have hx1 : w1.cell? ⟨gb, 1, none⟩ = some (.int .i64 y) := (blk_cell BK.out 1).trans rfl; have hx2 : w1.cell? ⟨b1, 0, none⟩ = some (.int .i64 a1) := (blk_cell BK1.out 0).trans rfl) | (go_at_call 75; (with_reducible refine (vec_Scale.calls A0 c0 x off a1 t e _ (Kd.C_below HR.out HBW.out) HC.out A4.out).mono ?_); rintro ed W2 ⟨v_, rfl, hR, hb⟩; have n4 := Aside0.mk (Kd.R_lower hR (Nat.le_trans HN.out HB.out.size)); have n0 := Aside0.mk (below_then HB.out (Nat.le_trans HN.out HB.out.size) hb); have n1 := Aside0.mk (Kd.S_elder' HS.out (Kd.R_base hR) hb); have n2 := Aside0.mk (blk_below BK1.out hb); have n3 := Aside0.mk (blk_below BK2.out hb); clear HB HS BK1 BK2 hb hR; have HO := n4; clear n4; have HB := n0; have HS := n1; have BK1 := n2; have BK2 := n3; clear n0 n1 n2 n3; have hx3 : W2.cell? ⟨b2, 0, none⟩ = some v := (blk_cell BK2.out 0).trans rfl; have hf3 := blk_frozen BK2.out 0))
  have n0 := Aside0.mk (below_drew HB.out)
  have n1 := Aside0.mk (Kd.S_drew HS.out)
  have n2 := Aside0.mk (kkD BK1.out)
  have n3 := Aside0.mk (kkD BK2.out)
  have nO := Aside0.mk (rrD HO.out)
  refine start_ (n := 8) (S := fun w' => w'.cell? ⟨b2, 0, none⟩ = some v) (ds := [7]) #[false, false, false, false, false, false, false, false] (by kernel_rfl) rfl rfl ((blk_cell (kkD BK2.out) 0).trans rfl) (fun hHeld => ?_)
  clear HB HS HO BK1 BK2
  have HB := n0
  have HS := n1
  have BK1 := n2
  have BK2 := n3
  have HO := nO
  clear nO n0 n1 n2 n3
  generalize W2.drew = wd at HB HS HO BK1 BK2 hHeld ⊢
  refine pure_ (i := 1) (N := some 18) (v := ?_) (a' := ?_) #[false, true, false, false, false, false, false, false] rfl rfl (by kernel_rfl) (fun _ _ _ h => h) (Or.inl ⟨by rfl, ?_⟩) ?_ ?_
  rotate_left
  · intro w'
    go_simp
    with_reducible rfl
  rotate_left
  · simp only [Act.put, List.setIfInBounds_toArray, List.set_cons_zero, List.set_cons_succ, i64_w, i32_w]
    rfl
  refine pure_ (i := 2) (N := some 19) (v := ?_) (a' := ?_) #[false, true, true, false, false, false, false, false] rfl rfl (by kernel_rfl) (fun _ _ _ h => h) (Or.inl ⟨by rfl, ?_⟩) ?_ ?_
  rotate_left
  · intro w'
    go_simp
    with_reducible rfl
  rotate_left
  · simp only [Act.put, List.setIfInBounds_toArray, List.set_cons_zero, List.set_cons_succ, i64_w, i32_w]
    rfl
  refine take_ (i := 0) (N := some 17) (v := ?_) (a' := ?_) #[true, true, true, false, false, false, false, false] rfl rfl (by kernel_rfl) (fun _ _ _ h => h) (Or.inl ⟨by rfl, ?_⟩) hHeld ?_ ?_
  rotate_left
  · intro w' s0
    go_simp
    with_reducible rfl
  rotate_left
  · simp only [Act.put, List.setIfInBounds_toArray, List.set_cons_zero, List.set_cons_succ, i64_w, i32_w]
    rfl
  refine one_ (i := 3) (N := some 20) #[true, true, true, true, false, false, false, false] rfl rfl (by kernel_rfl) (by decide) (fun K hK => ?_)
  refine value_ (w1 := ?_) (v := ?_) (by rfl) rfl ?_ ?_
  rotate_left 2
  · go_simp
    constructor
    · rfl
    · rfl
  refine hK.out _ _ ((World.cell?_alloc_lt _ _ _ (World.block_lt_of_cell? _ _ (hHeld))).trans (hHeld)) (fun hHeld => ?_)
  clear hK K
  refine norm_ (a' := ?_) ?_ ?_
  rotate_left
  · show Act.put _ (some 20) _ = _
    simp only [Act.put, List.setIfInBounds_toArray, List.set_cons_zero, List.set_cons_succ, i64_w, i32_w]
    rfl
  refine one_ (i := 4) (N := some 21) #[true, true, true, true, true, false, false, false] rfl rfl (by kernel_rfl) (by decide) (fun K hK => ?_)
  refine Kd.R_append_step (Kd.int .i64) (w0 := W) n0 (by rfl) (.tmp 18) (.tmp 20) 22 2 (.int .i64 0) 8 rfl Try.underlying22 info2 rfl (by decide) (by omega) v_ t off [.int .i64 off] (fun _ => True) (fun _ => False) rfl rfl ?aP (fun _ hk => hk.elim) ?aF ?aO ?aB ?aS ?aL ?_
  (case aP => exact rfl)
  (case aB => exact HB.out)
  (case aF => exact (fun _ _ => trivial))
  (case aO => exact HO.out)
  (case aS => exact Nat.le_trans HN.out HB.out.size)
  (case aL => have := LT.out; omega)
  intro v2 w3 ho hb hg hat
  rw [← NY.out] at ho
  have n0 := Aside0.mk hb
  have n1 := Aside0.mk (Kd.S_after (ok := (fun _ => True)) HS.out hg hat)
  have n2 := Aside0.mk (blk_grown BK1.out hg (Kd.R_ne HO.out BK1.out (by decide)))
  have n3 := Aside0.mk (blk_grown BK2.out hg (Kd.R_ne HO.out BK2.out (by decide)))
  clear HB HS BK1 BK2 HO
  have HB := n0
  have HS := n1
  have BK1 := n2
  have BK2 := n3
  clear n0 n1 n2 n3
  have HO := Aside0.mk ho
  clear ho hb hg hat
  obtain ⟨Ao, co, eo⟩ := Kd.R_slice HO.out
  subst eo
  refine hK.out _ _ ((blk_cell BK2.out 0).trans rfl) (fun hHeld => ?_)
  clear hK K
  refine norm_ (a' := ?_) ?_ ?_
  rotate_left
  · show Act.put _ (some 21) _ = _
    simp only [Act.put, List.setIfInBounds_toArray, List.set_cons_zero, List.set_cons_succ, i64_w, i32_w]
    rfl
  refine one_ (i := 5) (N := some 22) #[true, true, true, true, true, true, false, false] rfl rfl (by kernel_rfl) (by decide) (fun K hK => ?_)
  refine value_ (w1 := ?_) (v := ?_) (by rfl) rfl ?_ ?_
  rotate_left 2
  · go_simp
    constructor
    · rfl
    · rfl
  refine hK.out _ _ ((World.cell?_alloc_lt _ _ _ (World.block_lt_of_cell? _ _ (hHeld))).trans (hHeld)) (fun hHeld => ?_)
  clear hK K
  refine norm_ (a' := ?_) ?_ ?_
  rotate_left
  · show Act.put _ (some 22) _ = _
    simp only [Act.put, List.setIfInBounds_toArray, List.set_cons_zero, List.set_cons_succ, i64_w, i32_w]
    rfl
  refine one_ (i := 6) (N := some 23) #[true, true, true, true, true, true, true, false] rfl rfl (by kernel_rfl) (by decide) (fun K hK => ?_)
  refine Kd.S_append_step (Kd.slice 2 (Kd.int .i64)) (w0 := W) n0 (by rfl) (.tmp 17) (.tmp 22) 30 22 (.slice none 0 0) 24 rfl Try.underlying30 info22 rfl (by decide) (by omega) v xs row [.slice Ao row.length co] (fun _ => True) (fun k_ => some k_ = (.slice Ao row.length co : Value).ownBlock) rfl rfl ?aP (fun k_ hk_ => ((Kd.R_mono (ok' := fun k_ => ((fun _ => True)) k_ ∧ some k_ ≠ (v : Value).ownBlock) (Kd.R_apart' (HO.out) (Kd.S_typed HS.out) (by decide)) (fun k_ hk => ⟨trivial, hk.2⟩))).1 k_ hk_.symm) ?aF ?aO ?aB ?aS ?aL ?_
  (case aP => exact Kd.M_row (Kd.R_mono (Kd.R_tight rfl (Kd.R_mono (ok' := fun k_ => ((fun _ => True)) k_ ∧ some k_ ≠ (v : Value).ownBlock) (Kd.R_apart' (HO.out) (Kd.S_typed HS.out) (by decide)) (fun k_ hk => ⟨trivial, hk.2⟩))) (fun _ h_ => h_)))
  (case aB => exact HB.out)
  (case aF => exact (fun _ _ => trivial))
  (case aO => exact Kd.S_mono HS.out (fun k_ hk => ⟨trivial, fun e_ => hk.2 e_⟩))
  (case aS => exact Nat.le_trans HN.out HB.out.size)
  (case aL => have := LX.out; omega)
  intro v3 w4 ho hb hg hat
  have n0 := Aside0.mk hb
  have n1 := Aside0.mk ho
  have n2 := Aside0.mk (blk_grown BK1.out hg (Kd.S_ne HS.out BK1.out (by decide)))
  have n3 := Aside0.mk (blk_grown BK2.out hg (Kd.S_ne HS.out BK2.out (by decide)))
  clear HB HS BK1 BK2 HO
  have HB := n0
  have HS := n1
  have BK1 := n2
  have BK2 := n3
  clear n0 n1 n2 n3
  clear ho hb hg hat
  obtain ⟨As, cs, es⟩ := Kd.S_slice HS.out
  obtain ⟨nS, hnS⟩ : ∃ n_ : Nat, n_ = (xs ++ [row]).length := ⟨_, rfl⟩
  rw [← hnS] at es
  subst es
  clear hnS
  have hc4 : w4.cell? ⟨b2, 0, none⟩ = some v := (blk_cell BK2.out 0).trans rfl
  have hf4 : w4.frozen? ⟨b2, 0, none⟩ = false := blk_frozen BK2.out 0
  refine hK.out _ _ ((blk_cell BK2.out 0).trans rfl) (fun hHeld => ?_)
  clear hK K
  refine norm_ (a' := ?_) ?_ ?_
  rotate_left
  · show Act.put _ (some 23) _ = _
    simp only [Act.put, List.setIfInBounds_toArray, List.set_cons_zero, List.set_cons_succ, i64_w, i32_w]
    rfl
  refine last_ (i := 7) (N := none) #[true, true, true, true, true, true, true, true] rfl rfl (by kernel_rfl) (by decide) (fun K hK => ?_)
  refine skip_ (w1 := ?_) (by rfl) rfl ?_ ?_
  rotate_left
  · go_simp
    rfl
  refine hK.out _ _ ?_
  clear hK K
  refine done_ (by kernel_rfl) ?_
  go_wp2
  go_ret
  refine ⟨rfl, HB.out.setCell H2.out _, _, (Below.heap_setCell _ ⟨b2, 0, none⟩ _ b1 HNE.out).trans BK1.out, blk_put BK2.out 0 _ rfl, Kd.S_mono (Kd.S_far (p := ⟨b2, 0, none⟩) (Kd.S_types HS.out BK2.out (by decide)) (fun _ hk => hk.2) _) (fun _ h => h.1)⟩
def gradStp (f : Int) (s : List (List Int)) (x : S26) (o : Int) : List (List Int) × Int := (s ++ [(scaleV x.f0 o f).1 ++ [o]], (scaleV x.f0 o f).2)
def gradI (n0 b1 b2 : Nat) (f : Int) (k : Nat) (W : World) (s : List (List Int)) : Prop :=
  s.length = k ∧ n0 ≤ W.heap.size ∧ ∃ v, W.heap[b1]? = some (.cells #[.int .i64 f] 3 (0, 0)) ∧ W.heap[b2]? = some (.cells #[v] 30 (0, 0)) ∧ Kd.S (Kd.slice 2 (Kd.int .i64)) 22 W n0 (fun _ => True) v s
theorem gradI.keep {n0 b1 b2 : Nat} {f : Int} (k : Nat) (W W' : World) (s : List (List Int)) (h : gradI n0 b1 b2 f k W s) (hb : Below W.heap.size W W') : gradI n0 b1 b2 f k W' s := by
  obtain ⟨h1, h2, v, h3, h4, h5⟩ := h
  exact ⟨h1, Nat.le_trans h2 hb.size, v, blk_below h3 hb, blk_below h4 hb, Kd.S_below h5 hb⟩
theorem walk_rows (w : List Int) (f : Int) : ∀ (l : List S26) (acc : List (List Int)),
    (walkGo (fun x : S26 => offL w x.f0 x.f1 f) (gradStp f) l acc).2 = (rowsFrom (fun s : S26 => bendL w f (sm s)) l acc).2 ∧ ((rowsFrom (fun s : S26 => bendL w f (sm s)) l acc).2 = 0 → (walkGo (fun x : S26 => offL w x.f0 x.f1 f) (gradStp f) l acc).1 = (rowsFrom (fun s : S26 => bendL w f (sm s)) l acc).1)
  | [], acc => by rw [rowsFrom_nil]; exact ⟨rfl, fun _ => rfl⟩
  | x :: l, acc => by
    have hbd : bendL w f (sm x) = if (offL w x.f0 x.f1 f).2 = 0 then (if (scaleV x.f0 (offL w x.f0 x.f1 f).1 f).2 = 0 then ((scaleV x.f0 (offL w x.f0 x.f1 f).1 f).1 ++ [(offL w x.f0 x.f1 f).1], 0) else ([], (scaleV x.f0 (offL w x.f0 x.f1 f).1 f).2)) else ([], (offL w x.f0 x.f1 f).2) := rfl
    simp only [walkGo]
    by_cases c : (offL w x.f0 x.f1 f).2 = 0
    · rw [if_pos c] at hbd
      rw [if_pos c]
      have hst : (gradStp f acc x (offL w x.f0 x.f1 f).1).2 = (scaleV x.f0 (offL w x.f0 x.f1 f).1 f).2 := rfl
      by_cases c2 : (scaleV x.f0 (offL w x.f0 x.f1 f).1 f).2 = 0
      · rw [if_pos c2] at hbd
        rw [if_pos (hst.trans c2), rowsFrom_ok (g := fun s : S26 => bendL w f (sm s)) (by simp only [hbd])]
        simp only [hbd]
        exact walk_rows w f l _
      · rw [if_neg c2] at hbd
        rw [if_neg (fun h => c2 (hst.symm.trans h)), rowsFrom_bad (g := fun s : S26 => bendL w f (sm s)) (by simp only [hbd]; exact c2)]
        simp only [hbd]
        exact ⟨rfl, fun h => absurd h c2⟩
    · rw [if_neg c] at hbd
      rw [if_neg c, rowsFrom_bad (g := fun s : S26 => bendL w f (sm s)) (by simp only [hbd]; exact c)]
      simp only [hbd]
      exact ⟨trivial, fun h => absurd h c⟩
theorem rowsG_sm (w : List Int) (f : Int) : ∀ l : List S26, rowsL (bendL w f) (l.map sm) = rowsL (fun s => bendL w f (sm s)) l
  | [] => rfl
  | x :: l => by simp only [List.map_cons, rowsL, rowsG_sm w f l]
theorem gradL_walk (w : List Int) (f : Int) (l : List S26) : gradL w f (l.map sm) = if (walkF w f l (gradStp f) []).2 = 0 then meanL l.length (walkF w f l (gradStp f) []).1 else ([], (walkF w f l (gradStp f) []).2) := by
  unfold gradL walkF
  by_cases c : checkL (wrap64 ((w.length : Int) - 1)) w (l.map sm) = 0
  · rw [if_pos c, if_pos c, List.length_map, rowsG_sm]
    obtain ⟨h1, h2⟩ := walk_rows w f l []
    rw [rowsFrom_start] at h1 h2
    simp only [] at h1 h2
    rw [h1]
    by_cases d : (rowsL (fun s : S26 => bendL w f (sm s)) l).2 = 0
    · rw [if_pos d, if_pos d, h2 d]
    · rw [if_neg d, if_neg d]
  · rw [if_neg c, if_neg c, if_neg c]
theorem rowsL_few {α : Type} {g : α → List Int × Int} (hg : ∀ x, V64 (g x).1 ∧ (g x).1.length ≤ 5000) : ∀ l : List α, (∀ v ∈ (rowsL g l).1, V64 v) ∧ fewV (rowsL g l).1 = true
  | [] => ⟨fun v hv => by simp [rowsL] at hv, rfl⟩
  | x :: l => by
    obtain ⟨h1, h2⟩ := rowsL_few hg l
    simp only [rowsL]
    split
    · split
      · refine ⟨fun v hv => ?_, ?_⟩
        · rcases List.mem_cons.1 hv with e | e
          · rw [e]; exact (hg x).1
          · exact h1 v e
        · simp only [fewV, List.all_cons, Bool.and_eq_true, decide_eq_true_eq] at h2 ⊢; exact ⟨(hg x).2, h2⟩
      · exact ⟨fun v hv => (by cases hv), rfl⟩
    · exact ⟨fun v hv => (by cases hv), rfl⟩
theorem bendL_lle (w : List Int) (f : Int) (s : List Int × Int) : (bendL w f s).1.length ≤ 5000 := by
  unfold bendL
  split
  · split
    · have := scaleV_lle s.1 (offL w s.1 s.2 f).1 f; simp; omega
    · simp
  · simp
theorem walkF_few (w : List Int) (f : Int) (l : List S26) (h : (walkF w f l (gradStp f) []).2 = 0) : (∀ v ∈ (walkF w f l (gradStp f) []).1, V64 v) ∧ fewV (walkF w f l (gradStp f) []).1 = true ∧ l.length ≤ 64 := by
  unfold walkF at h ⊢
  by_cases c : checkL (wrap64 ((w.length : Int) - 1)) w (l.map sm) = 0
  · rw [if_pos c] at h ⊢
    have hl := (checkL_len c).2.2.2.2.2
    rw [List.length_map] at hl
    obtain ⟨h1, h2⟩ := walk_rows w f l []
    rw [rowsFrom_start] at h1 h2
    simp only [] at h1 h2
    rw [h1] at h
    rw [h2 h]
    obtain ⟨k1, k2⟩ := rowsL_few (g := fun s : S26 => bendL w f (sm s)) (fun x => ⟨bendL_v64 _ _ _, bendL_lle _ _ _⟩) l
    exact ⟨k1, k2, hl⟩
  · rw [if_neg c] at h; exact absurd h c
def linear_Grad.f (l0 : List Int) (a1 : Int) (l2 : List S26) : Option (List Int × Int) := if V64 l0 ∧ ∀ s ∈ l2, Sm64 s then some (gradL l0 a1 (l2.map sm)) else none
theorem linear_Grad.of (l0 : List Int) (a1 : Int) (l2 : List S26)  (h_ : V64 l0 ∧ ∀ s ∈ l2, Sm64 s) : linear_Grad.f l0 a1 l2 = some (gradL l0 a1 (l2.map sm)) := if_pos h_
set_option maxHeartbeats 4000000 in
set_option maxRecDepth 100000 in
theorem linear_Grad.calls (A0 : Option Addr) (c0 : Nat) (l0 : List Int) (a1 : Int) (A2 : Option Addr) (c2 : Nat) (l2 : List (S26)) (r1 : List Int) (r2 : Int) (w : World) (hr0 : Kd.C (Kd.int .i64) w A0 l0.length l0) (hc0 : l0.length ≤ c0) (hr2 : Kd.C k26 w A2 l2.length l2) (hc2 : l2.length ≤ c2) (h : linear_Grad.f l0 a1 l2 = some (r1, r2)) :
    Calls Try.prog 71 #[.slice A0 l0.length c0, .int .i64 a1, .slice A2 l2.length c2] w fun e w' => ∃ v0_ : Value, e = .returned (.tuple #[v0_, .int .i64 r2]) ∧ Kd.R (Kd.int .i64) 2 w' w.heap.size (fun _ => True) v0_ r1 ∧ Below w.heap.size w w' := by
  unfold linear_Grad.f at h
  split at h
  case isFalse => cases h
  rename_i hv
  have h := Option.some.inj h
  rw [gradL_walk] at h
  obtain ⟨⟨sf, ef⟩, hw⟩ : ∃ p, walkF l0 a1 l2 (gradStp a1) [] = p := ⟨_, rfl⟩
  have hfew := walkF_few l0 a1 l2
  rw [hw] at h hfew
  simp only [] at h hfew
  have HF := Aside0.mk hfew
  have HW := Aside0.mk hw
  have HR0 := Aside0.mk hr0
  have HC0 := Aside0.mk hc0
  have HR2 := Aside0.mk hr2
  have HC2 := Aside0.mk hc2
  have HV := Aside0.mk hv
  have HB := Aside0.mk (Below.refl w.heap.size w)
  have HG := Aside0.mk h
  have hu := Try.underlying30
  have hu3 := Try.underlying3
  clear hfew hw hr0 hc0 hr2 hc2 hv h
  by_cases hef : ef = 0
  · subst hef
    have hG := HG.out
    rw [if_pos rfl] at hG
    have AM : Aside0 (linear_Mean.f (l2.length : Int) sf = some (r1, r2)) := ⟨(linear_Mean.of _ _ ⟨by have := (HF.out rfl).2.2; unfold I64; omega, (HF.out rfl).1, (HF.out rfl).2.1⟩).trans (congrArg some hG)⟩
    clear hG HG HF
    go_enter Try.func71, Try.ntmps71
    go_wp2_with (first | ((with_reducible refine gate_dst (N := 4) rfl ?_); refine box_event ?hg (N := 4) ?hd (cs := #[.int .i64 a1]) (t := 3) ?hr ?_; (case hd => rfl); (case hg => rfl); (case hr => first | (go_simp; done) | (go_simp; rfl)); intro b1 hg w1 hbox hb; have n0 := Aside0.mk (below_then HB.out (Nat.le_refl _) hb); have BK1 := Aside0.mk hbox; have G1 : Aside0 (w.heap.size ≤ b1) := ⟨by rw [hg]; exact Nat.le_refl _⟩; have L1 := Aside0.mk (blk_lt hbox); clear HB hbox hb hg; have HB := n0; clear n0; have hz1 : w1.cell? ⟨b1, 0, none⟩ = some (.int .i64 a1) := (blk_cell BK1.out 0).trans rfl) | ((with_reducible refine gate_dst (N := 8) rfl ?_); refine box_event ?hg (N := 8) ?hd (cs := #[.slice none 0 0]) (t := 30) ?hr ?_; (case hd => rfl); (case hg => rfl); (case hr => first | (go_simp; done) | (go_simp; rfl)); intro b2 hg w2 hbox hb; have n0 := Aside0.mk (below_then HB.out HB.out.size hb); have BK2 := Aside0.mk hbox; have n1 := Aside0.mk (blk_below BK1.out hb); have G2 : Aside0 (w.heap.size ≤ b2) := ⟨by rw [hg]; exact HB.out.size⟩; have HNE : Aside0 (b1 ≠ b2) := ⟨by have := L1.out; omega⟩; clear HB BK1 hbox hb hg; have HB := n0; have BK1 := n1; clear n0 n1; have hz1 : w2.cell? ⟨b1, 0, none⟩ = some (.int .i64 a1) := (blk_cell BK1.out 0).trans rfl) | (go_at_call 127; (with_reducible refine (linear_walk.calls (σ := List (List Int)) 128 #[.pointer (some ⟨b1, 0, none⟩), .pointer (some ⟨b2, 0, none⟩)] (gradI w.heap.size b1 b2 a1) (gradStp a1) A0 c0 l0 a1 A2 c2 l2 w _ [] sf 0 ?ent HR0.out HC0.out HR2.out HC2.out HV.out HB.out ?I0 ?st ?K HW.out).mono ?_); (case ent => exact enters_of Try.func128 rfl rfl); (case I0 => exact ⟨rfl, HB.out.size, _, BK1.out, BK2.out, Kd.S_nil _ _ _ _ _⟩); (case st => exact gradI.keep); (case K => intro k W s x A c o hk hl hx ho hB hI hC hc; obtain ⟨q1, q2, v, q3, q4, q5⟩ := hI; refine (linear_Grad_1.calls w.heap.size b1 b2 A c x.f0 x.f1 o a1 W v s q3 q4 HNE.out G2.out q2 q5 hC hc ⟨hx.1, ho⟩ (by omega)).mono ?_; rintro ed W' ⟨rfl, hb, v', k1, k2, k3⟩; exact ⟨rfl, ⟨by simp [gradStp, q1], Nat.le_trans q2 hb.size, v', k1, k2, k3⟩, hB.trans hb⟩); rintro ed W3 ⟨rfl, ⟨k, hI⟩, hb⟩; obtain ⟨-, -, vS, k1, k2, k3⟩ := hI; have HS := Aside0.mk k3; clear HB; have HB := Aside0.mk hb; obtain ⟨As, cs, es⟩ := Kd.S_slice HS.out; subst es; have hzS : W3.cell? ⟨b2, 0, none⟩ = some (.slice As sf.length cs) := (blk_cell k2 0).trans rfl; clear k1 k2 k3 hb) | (go_at_call 65; (with_reducible refine (linear_Mean.calls (l2.length : Int) As cs sf r1 r2 _ (Kd.S_reads' HS.out).2.2 (Kd.S_reads' HS.out).2.1 AM.out).mono ?_); rintro ed W4 ⟨v_, rfl, hR, hb⟩; have HO := Aside0.mk (Kd.R_lower hR HB.out.size); have n0 := Aside0.mk (below_then HB.out HB.out.size hb); clear HB hR hb; have HB := n0; clear n0))
    go_ret2
    exact ⟨_, rfl, HO.out, HB.out⟩
  · have hG := HG.out
    rw [if_neg hef] at hG
    obtain ⟨h1, h2⟩ : [] = r1 ∧ ef = r2 := by cases hG; exact ⟨rfl, rfl⟩
    have he0 : (ef == 0) = false := beq_eq_false_iff_ne.2 hef
    have he1 : (ef != 0) = true := bne_iff_ne.2 hef
    subst h1
    subst h2
    clear hG HG HF hef
    go_enter Try.func71, Try.ntmps71
    go_wp2_with (first | ((with_reducible refine gate_dst (N := 4) rfl ?_); refine box_event ?hg (N := 4) ?hd (cs := #[.int .i64 a1]) (t := 3) ?hr ?_; (case hd => rfl); (case hg => rfl); (case hr => first | (go_simp; done) | (go_simp; rfl)); intro b1 hg w1 hbox hb; have n0 := Aside0.mk (below_then HB.out (Nat.le_refl _) hb); have BK1 := Aside0.mk hbox; have G1 : Aside0 (w.heap.size ≤ b1) := ⟨by rw [hg]; exact Nat.le_refl _⟩; have L1 := Aside0.mk (blk_lt hbox); clear HB hbox hb hg; have HB := n0; clear n0; have hz1 : w1.cell? ⟨b1, 0, none⟩ = some (.int .i64 a1) := (blk_cell BK1.out 0).trans rfl) | ((with_reducible refine gate_dst (N := 8) rfl ?_); refine box_event ?hg (N := 8) ?hd (cs := #[.slice none 0 0]) (t := 30) ?hr ?_; (case hd => rfl); (case hg => rfl); (case hr => first | (go_simp; done) | (go_simp; rfl)); intro b2 hg w2 hbox hb; have n0 := Aside0.mk (below_then HB.out HB.out.size hb); have BK2 := Aside0.mk hbox; have n1 := Aside0.mk (blk_below BK1.out hb); have G2 : Aside0 (w.heap.size ≤ b2) := ⟨by rw [hg]; exact HB.out.size⟩; have HNE : Aside0 (b1 ≠ b2) := ⟨by have := L1.out; omega⟩; clear HB BK1 hbox hb hg; have HB := n0; have BK1 := n1; clear n0 n1; have hz1 : w2.cell? ⟨b1, 0, none⟩ = some (.int .i64 a1) := (blk_cell BK1.out 0).trans rfl) | (go_at_call 127; (with_reducible refine (linear_walk.calls (σ := List (List Int)) 128 #[.pointer (some ⟨b1, 0, none⟩), .pointer (some ⟨b2, 0, none⟩)] (gradI w.heap.size b1 b2 a1) (gradStp a1) A0 c0 l0 a1 A2 c2 l2 w _ [] sf ef ?ent HR0.out HC0.out HR2.out HC2.out HV.out HB.out ?I0 ?st ?K HW.out).mono ?_); (case ent => exact enters_of Try.func128 rfl rfl); (case I0 => exact ⟨rfl, HB.out.size, _, BK1.out, BK2.out, Kd.S_nil _ _ _ _ _⟩); (case st => exact gradI.keep); (case K => intro k W s x A c o hk hl hx ho hB hI hC hc; obtain ⟨q1, q2, v, q3, q4, q5⟩ := hI; refine (linear_Grad_1.calls w.heap.size b1 b2 A c x.f0 x.f1 o a1 W v s q3 q4 HNE.out G2.out q2 q5 hC hc ⟨hx.1, ho⟩ (by omega)).mono ?_; rintro ed W' ⟨rfl, hb, v', k1, k2, k3⟩; exact ⟨rfl, ⟨by simp [gradStp, q1], Nat.le_trans q2 hb.size, v', k1, k2, k3⟩, hB.trans hb⟩); rintro ed W3 ⟨rfl, ⟨k, hI⟩, hb⟩; obtain ⟨-, -, vS, k1, k2, k3⟩ := hI; have HS := Aside0.mk k3; clear HB; have HB := Aside0.mk hb; obtain ⟨As, cs, es⟩ := Kd.S_slice HS.out; subst es; have hzS : W3.cell? ⟨b2, 0, none⟩ = some (.slice As sf.length cs) := (blk_cell k2 0).trans rfl; clear k1 k2 k3 hb))
    go_ret2
    exact ⟨_, rfl, Kd.R_nil _ _ _ _ _, HB.out⟩


/-! ### thrumlaw14_liveP: function 61 -/
def thrumlaw14_liveP.f  : Option (Bool) := (linear_Tell.f (([2, 3, 1] : List Int)) (([10, 100] : List Int)) 0).bind fun bt152 => ((linear_Grad.f (([1, 0] : List Int)) 0 (([(⟨(([3] : List Int)), 1⟩ : S26)] : List (S26)))).bind fun bt163 => (if bt152.1 = 321 then (if bt152.2 = 0 then (if bt163.2 = 0 then ((thrumref02_Same.f bt163.1 (([6, 2] : List Int))).bind fun t170 => (some t170)) else (some false)) else (some false)) else (some false)))
set_option maxHeartbeats 80000000 in
set_option maxRecDepth 100000 in
theorem thrumlaw14_liveP.calls  (r : Bool) (w : World) (h : thrumlaw14_liveP.f  = some r) :
  Calls Try.prog 61 #[] w fun e w' => e = .returned (.bool r) ∧ Below w.heap.size w w' := by
 have hu26 := Try.underlying26
 have HB := Aside0.mk (Below.refl w.heap.size w)
 have H : ((linear_Tell.f (([2, 3, 1] : List Int)) (([10, 100] : List Int)) 0).bind fun bt152 => ((linear_Grad.f (([1, 0] : List Int)) 0 (([(⟨(([3] : List Int)), 1⟩ : S26)] : List (S26)))).bind fun bt163 => (if bt152.1 = 321 then (if bt152.2 = 0 then (if bt163.2 = 0 then ((thrumref02_Same.f bt163.1 (([6, 2] : List Int))).bind fun t170 => (some t170)) else (some false)) else (some false)) else (some false)))) = some r := h
 clear h
 obtain ⟨y146, hy146⟩ : ∃ y_ : List Int, y_ = (([2, 3, 1] : List Int)) := ⟨_, rfl⟩
 replace H : ((linear_Tell.f y146 (([10, 100] : List Int)) 0).bind fun bt152 => ((linear_Grad.f (([1, 0] : List Int)) 0 (([(⟨(([3] : List Int)), 1⟩ : S26)] : List (S26)))).bind fun bt163 => (if bt152.1 = 321 then (if bt152.2 = 0 then (if bt163.2 = 0 then ((thrumref02_Same.f bt163.1 (([6, 2] : List Int))).bind fun t170 => (some t170)) else (some false)) else (some false)) else (some false)))) = some r := by first | (rw [hy146]; with_reducible exact H) | (have H2_ := (Option.bind_some _ _).symm.trans H; rw [hy146]; with_reducible exact H2_) | (have H2_ := (Option.bind_some _ _).symm.trans H; with_reducible exact H2_) | with_reducible exact H | (rw [hy146]; exact H) | exact H
 have Ny146 := Aside0.mk hy146
 clear hy146
 obtain ⟨y149, hy149⟩ : ∃ y_ : List Int, y_ = (([10, 100] : List Int)) := ⟨_, rfl⟩
 replace H : ((linear_Tell.f y146 y149 0).bind fun bt152 => ((linear_Grad.f (([1, 0] : List Int)) 0 (([(⟨(([3] : List Int)), 1⟩ : S26)] : List (S26)))).bind fun bt163 => (if bt152.1 = 321 then (if bt152.2 = 0 then (if bt163.2 = 0 then ((thrumref02_Same.f bt163.1 (([6, 2] : List Int))).bind fun t170 => (some t170)) else (some false)) else (some false)) else (some false)))) = some r := by first | (rw [hy149]; with_reducible exact H) | (have H2_ := (Option.bind_some _ _).symm.trans H; rw [hy149]; with_reducible exact H2_) | (have H2_ := (Option.bind_some _ _).symm.trans H; with_reducible exact H2_) | with_reducible exact H | (rw [hy149]; exact H) | exact H
 have Ny149 := Aside0.mk hy149
 clear hy149
 replace H := Option.bind_eq_some_iff.mp H
 obtain ⟨⟨t152, t153⟩, A10, H⟩ := H
 replace H : ((linear_Grad.f (([1, 0] : List Int)) 0 (([(⟨(([3] : List Int)), 1⟩ : S26)] : List (S26)))).bind fun bt163 => (if t152 = 321 then (if t153 = 0 then (if bt163.2 = 0 then ((thrumref02_Same.f bt163.1 (([6, 2] : List Int))).bind fun t170 => (some t170)) else (some false)) else (some false)) else (some false))) = some r := H
 have A1 := Aside0.mk A10
 clear A10
 obtain ⟨y154, hy154⟩ : ∃ y_ : List Int, y_ = (([1, 0] : List Int)) := ⟨_, rfl⟩
 replace H : ((linear_Grad.f y154 0 (([(⟨(([3] : List Int)), 1⟩ : S26)] : List (S26)))).bind fun bt163 => (if t152 = 321 then (if t153 = 0 then (if bt163.2 = 0 then ((thrumref02_Same.f bt163.1 (([6, 2] : List Int))).bind fun t170 => (some t170)) else (some false)) else (some false)) else (some false))) = some r := by first | (rw [hy154]; with_reducible exact H) | (have H2_ := (Option.bind_some _ _).symm.trans H; rw [hy154]; with_reducible exact H2_) | (have H2_ := (Option.bind_some _ _).symm.trans H; with_reducible exact H2_) | with_reducible exact H | (rw [hy154]; exact H) | exact H
 have Ny154 := Aside0.mk hy154
 clear hy154
 obtain ⟨y157, hy157⟩ : ∃ y_ : List Int, y_ = (([3] : List Int)) := ⟨_, rfl⟩
 replace H : ((linear_Grad.f y154 0 (([(⟨y157, 1⟩ : S26)] : List (S26)))).bind fun bt163 => (if t152 = 321 then (if t153 = 0 then (if bt163.2 = 0 then ((thrumref02_Same.f bt163.1 (([6, 2] : List Int))).bind fun t170 => (some t170)) else (some false)) else (some false)) else (some false))) = some r := by first | (rw [hy157]; with_reducible exact H) | (have H2_ := (Option.bind_some _ _).symm.trans H; rw [hy157]; with_reducible exact H2_) | (have H2_ := (Option.bind_some _ _).symm.trans H; with_reducible exact H2_) | with_reducible exact H | (rw [hy157]; exact H) | exact H
 have Ny157 := Aside0.mk hy157
 clear hy157
 obtain ⟨y160, hy160⟩ : ∃ y_ : List (S26), y_ = (([(⟨y157, 1⟩ : S26)] : List (S26))) := ⟨_, rfl⟩
 replace H : ((linear_Grad.f y154 0 y160).bind fun bt163 => (if t152 = 321 then (if t153 = 0 then (if bt163.2 = 0 then ((thrumref02_Same.f bt163.1 (([6, 2] : List Int))).bind fun t170 => (some t170)) else (some false)) else (some false)) else (some false))) = some r := by first | (rw [hy160]; with_reducible exact H) | (have H2_ := (Option.bind_some _ _).symm.trans H; rw [hy160]; with_reducible exact H2_) | (have H2_ := (Option.bind_some _ _).symm.trans H; with_reducible exact H2_) | with_reducible exact H | (rw [hy160]; exact H) | exact H
 have Ny160 := Aside0.mk hy160
 clear hy160
 replace H := Option.bind_eq_some_iff.mp H
 obtain ⟨⟨t163, t164⟩, A20, H⟩ := H
 replace H : (if t152 = 321 then (if t153 = 0 then (if t164 = 0 then ((thrumref02_Same.f t163 (([6, 2] : List Int))).bind fun t170 => (some t170)) else (some false)) else (some false)) else (some false)) = some r := H
 have A2 := Aside0.mk A20
 clear A20
 by_cases c3 : t152 = 321
 ·
  rw [if_pos c3] at H
  have c3b0 : (t152 == 321) = true := beq_iff_eq.mpr c3
  have c3b1 : (t152 != 321) = false := bne_eq_false_iff_eq.mpr c3
  clear c3
  by_cases c4 : t153 = 0
  ·
   rw [if_pos c4] at H
   have c4b0 : (t153 == 0) = true := beq_iff_eq.mpr c4
   have c4b1 : (t153 != 0) = false := bne_eq_false_iff_eq.mpr c4
   clear c4
   by_cases c5 : t164 = 0
   ·
    rw [if_pos c5] at H
    have c5b0 : (t164 == 0) = true := beq_iff_eq.mpr c5
    have c5b1 : (t164 != 0) = false := bne_eq_false_iff_eq.mpr c5
    clear c5
    obtain ⟨y167, hy167⟩ : ∃ y_ : List Int, y_ = (([6, 2] : List Int)) := ⟨_, rfl⟩
    replace H : ((thrumref02_Same.f t163 y167).bind fun t170 => (some t170)) = some r := by first | (rw [hy167]; with_reducible exact H) | (have H2_ := (Option.bind_some _ _).symm.trans H; rw [hy167]; with_reducible exact H2_) | (have H2_ := (Option.bind_some _ _).symm.trans H; with_reducible exact H2_) | with_reducible exact H | (rw [hy167]; exact H) | exact H
    have Ny167 := Aside0.mk hy167
    clear hy167
    replace H := Option.bind_eq_some_iff.mp H
    obtain ⟨t170, A60, H⟩ := H
    replace H : (some t170) = some r := H
    have A6 := Aside0.mk A60
    clear A60
    obtain rfl := Option.some.inj H
    go_enter Try.func61, Try.ntmps61
    go_wp2_with (first | ((with_reducible refine gate_dst (N := 6) rfl ?_); (try (refine gate_guard (by rfl) ?_; dsimp only)); refine Kd.R_lit (Kd.int .i64) _ 2 ?hg (N := 6) ?hd (xs := ([2, 3, 1] : List Int)) (inner := [.int .i64 2, .int .i64 3, .int .i64 1]) (ok := fun _ => True) (okp := fun _ => True) ?hr ?hp (fun _ hk => hk) trivial (Below.refl _ _) (Nat.le_refl _) (by simp) ?_; (case hd => rfl); (case hg => rfl); (case hr => first | (go_simp; done) | (go_simp; rfl)); (case hp => exact (Reps.one (show Kd.M (Kd.int .i64) _ _ _ 2 [.int .i64 2] from rfl) (Reps.one (show Kd.M (Kd.int .i64) _ _ _ 3 [.int .i64 3] from rfl) (Reps.one (show Kd.M (Kd.int .i64) _ _ _ 1 [.int .i64 1] from rfl) (Reps.none _ _))))); intro v147 w7 ho8 hb hg_ hnew_; clear hg_ hnew_; (first | rw [← Ny146.out] at ho8 | (simp only [Int.reduceToNat] at ho8; rw [← Ny146.out] at ho8)); have n0_ := Aside0.mk (Kd.R_lower ho8 (zzS (by repeat (first | (with_reducible first | exact HB.out | apply zzA | apply zzN | apply zzD) | exact HB.out)))); have n1_ := Aside0.mk (zzT (by repeat (first | (with_reducible first | exact HB.out | apply zzA | apply zzN | apply zzD) | exact HB.out)) hb); clear HB; have HO148 := n0_; have HB := n1_; clear n0_ n1_; clear hb ho8) | ((with_reducible refine gate_dst (N := 7) rfl ?_); (try (refine gate_guard (by rfl) ?_; dsimp only)); refine Kd.R_lit (Kd.int .i64) _ 2 ?hg (N := 7) ?hd (xs := ([10, 100] : List Int)) (inner := [.int .i64 10, .int .i64 100]) (ok := fun _ => True) (okp := fun _ => True) ?hr ?hp (fun _ hk => hk) trivial (Below.refl _ _) (Nat.le_refl _) (by simp) ?_; (case hd => rfl); (case hg => rfl); (case hr => first | (go_simp; done) | (go_simp; rfl)); (case hp => exact (Reps.one (show Kd.M (Kd.int .i64) _ _ _ 10 [.int .i64 10] from rfl) (Reps.one (show Kd.M (Kd.int .i64) _ _ _ 100 [.int .i64 100] from rfl) (Reps.none _ _)))); intro v150 w9 ho10 hb hg_ hnew_; clear hg_ hnew_; (first | rw [← Ny149.out] at ho10 | (simp only [Int.reduceToNat] at ho10; rw [← Ny149.out] at ho10)); have n0_ := Aside0.mk (Kd.R_elder' (by (with_reducible repeat (first | apply rrA | apply rrN | apply rrD)); exact HO148.out) (Kd.R_base ho10) hb); have n1_ := Aside0.mk (Kd.R_lower (Kd.R_new' ho10 (Kd.R_lt (by (with_reducible repeat (first | apply rrA | apply rrN | apply rrD)); exact HO148.out))) (zzS (by repeat (first | (with_reducible first | exact HB.out | apply zzA | apply zzN | apply zzD) | exact HB.out)))); have n2_ := Aside0.mk (zzT (by repeat (first | (with_reducible first | exact HB.out | apply zzA | apply zzN | apply zzD) | exact HB.out)) hb); clear HO148; clear HB; have HO148 := n0_; have HO151 := n1_; have HB := n2_; clear n0_ n1_ n2_; clear hb ho10; obtain ⟨Ao11, co11, eo11⟩ := Kd.R_slice HO148.out; subst eo11; obtain ⟨Ao12, co12, eo12⟩ := Kd.R_slice HO151.out; subst eo12) | ((with_reducible refine gate_callee (f := 33) rfl ?_); refine goesL_ (some 8) rfl rfl Try.func33 (by kernel_rfl) rfl #[.slice Ao11 y146.length co11, .slice Ao12 y149.length co12, .int .i64 0] rfl (by (try simp only [List.map_toArray, List.map_cons, List.map_nil]); first | done | rfl | (simp only [List.length_drop, List.length_take]; rfl)) ?_; (with_reducible refine (linear_Tell.calls _ _ y146 (fun k_ => some k_ = (.slice Ao12 y149.length co12 : Value).ownBlock) _ _ y149 0 t152 t153 _ ?side1 ?side2 ?side3 A1.out).mono ?_); (case side1 => repeat (first | exact (Kd.R_reads' HO148.out).2.2 | (with_reducible refine ccA ?_ _) | (with_reducible refine ccN ?_ _) | (with_reducible refine ccD ?_))); (case side2 => exact (Kd.R_reads' HO148.out).2.1); (case side3 => exact Kd.R_V (Kd.R_tight rfl (HO151.out))); rintro e w13 ⟨rfl, hb⟩; refine ⟨_, rfl, ?_⟩; have n0_ := Aside0.mk (Kd.R_below (by (with_reducible repeat (first | apply rrA | apply rrN | apply rrD)); exact HO148.out) hb); have n1_ := Aside0.mk (Kd.R_below (by (with_reducible repeat (first | apply rrA | apply rrN | apply rrD)); exact HO151.out) hb); have n2_ := Aside0.mk (zzT (by repeat (first | (with_reducible first | exact HB.out | apply zzA | apply zzN | apply zzD) | exact HB.out)) hb); clear HO148; clear HO151; clear HB; have HO148 := n0_; have HO151 := n1_; have HB := n2_; clear n0_ n1_ n2_; (try clear hb); (try clear hb2); (try clear hk); (try clear hi)) | ((with_reducible refine gate_dst (N := 12) rfl ?_); (try (refine gate_guard (by rfl) ?_; dsimp only)); refine Kd.R_lit (Kd.int .i64) _ 2 ?hg (N := 12) ?hd (xs := ([1, 0] : List Int)) (inner := [.int .i64 1, .int .i64 0]) (ok := fun _ => True) (okp := fun _ => True) ?hr ?hp (fun _ hk => hk) trivial (Below.refl _ _) (Nat.le_refl _) (by simp) ?_; (case hd => rfl); (case hg => rfl); (case hr => first | (go_simp; done) | (go_simp; rfl)); (case hp => exact (Reps.one (show Kd.M (Kd.int .i64) _ _ _ 1 [.int .i64 1] from rfl) (Reps.one (show Kd.M (Kd.int .i64) _ _ _ 0 [.int .i64 0] from rfl) (Reps.none _ _)))); intro v155 w14 ho15 hb hg_ hnew_; clear hg_ hnew_; (first | rw [← Ny154.out] at ho15 | (simp only [Int.reduceToNat] at ho15; rw [← Ny154.out] at ho15)); have n0_ := Aside0.mk (Kd.R_elder' (by (with_reducible repeat (first | apply rrA | apply rrN | apply rrD)); exact HO148.out) (Kd.R_base ho15) hb); have n1_ := Aside0.mk (Kd.R_elder' (by (with_reducible repeat (first | apply rrA | apply rrN | apply rrD)); exact HO151.out) (Kd.R_base ho15) hb); have n2_ := Aside0.mk (Kd.R_lower (Kd.R_new' (Kd.R_new' ho15 (Kd.R_lt (by (with_reducible repeat (first | apply rrA | apply rrN | apply rrD)); exact HO148.out))) (Kd.R_lt (by (with_reducible repeat (first | apply rrA | apply rrN | apply rrD)); exact HO151.out))) (zzS (by repeat (first | (with_reducible first | exact HB.out | apply zzA | apply zzN | apply zzD) | exact HB.out)))); have n3_ := Aside0.mk (zzT (by repeat (first | (with_reducible first | exact HB.out | apply zzA | apply zzN | apply zzD) | exact HB.out)) hb); clear HO148; clear HO151; clear HB; have HO148 := n0_; have HO151 := n1_; have HO156 := n2_; have HB := n3_; clear n0_ n1_ n2_ n3_; clear hb ho15) | ((with_reducible refine gate_dst (N := 13) rfl ?_); (try (refine gate_guard (by rfl) ?_; dsimp only)); refine Kd.R_lit (Kd.int .i64) _ 2 ?hg (N := 13) ?hd (xs := ([3] : List Int)) (inner := [.int .i64 3]) (ok := fun _ => True) (okp := fun _ => True) ?hr ?hp (fun _ hk => hk) trivial (Below.refl _ _) (Nat.le_refl _) (by simp) ?_; (case hd => rfl); (case hg => rfl); (case hr => first | (go_simp; done) | (go_simp; rfl)); (case hp => exact (Reps.one (show Kd.M (Kd.int .i64) _ _ _ 3 [.int .i64 3] from rfl) (Reps.none _ _))); intro v158 w16 ho17 hb hg_ hnew_; clear hg_ hnew_; (first | rw [← Ny157.out] at ho17 | (simp only [Int.reduceToNat] at ho17; rw [← Ny157.out] at ho17)); have n0_ := Aside0.mk (Kd.R_elder' (by (with_reducible repeat (first | apply rrA | apply rrN | apply rrD)); exact HO148.out) (Kd.R_base ho17) hb); have n1_ := Aside0.mk (Kd.R_elder' (by (with_reducible repeat (first | apply rrA | apply rrN | apply rrD)); exact HO151.out) (Kd.R_base ho17) hb); have n2_ := Aside0.mk (Kd.R_elder' (by (with_reducible repeat (first | apply rrA | apply rrN | apply rrD)); exact HO156.out) (Kd.R_base ho17) hb); have n3_ := Aside0.mk (Kd.R_lower (Kd.R_new' (Kd.R_new' (Kd.R_new' ho17 (Kd.R_lt (by (with_reducible repeat (first | apply rrA | apply rrN | apply rrD)); exact HO148.out))) (Kd.R_lt (by (with_reducible repeat (first | apply rrA | apply rrN | apply rrD)); exact HO151.out))) (Kd.R_lt (by (with_reducible repeat (first | apply rrA | apply rrN | apply rrD)); exact HO156.out))) (zzS (by repeat (first | (with_reducible first | exact HB.out | apply zzA | apply zzN | apply zzD) | exact HB.out)))); have n4_ := Aside0.mk (zzT (by repeat (first | (with_reducible first | exact HB.out | apply zzA | apply zzN | apply zzD) | exact HB.out)) hb); clear HO148; clear HO151; clear HO156; clear HB; have HO148 := n0_; have HO151 := n1_; have HO156 := n2_; have HO159 := n3_; have HB := n4_; clear n0_ n1_ n2_ n3_ n4_; clear hb ho17; obtain ⟨Ao18, co18, eo18⟩ := Kd.R_slice HO159.out; subst eo18) | ((with_reducible refine gate_dst (N := 15) rfl ?_); (try (refine gate_guard (by rfl) ?_; dsimp only)); refine Kd.N_lit k26 _ 26 ?hg (N' := 15) ?hd (xs := ([(⟨y157, 1⟩ : S26)] : List (S26))) (inner := [.slice Ao18 y157.length co18, .int .i64 1]) (ok := (fun k_ => some k_ ≠ (.slice Ao11 y146.length co11 : Value).ownBlock ∧ some k_ ≠ (.slice Ao12 y149.length co12 : Value).ownBlock ∧ some k_ ≠ (v155 : Value).ownBlock)) (okp := (fun k_ => some k_ ≠ (.slice Ao11 y146.length co11 : Value).ownBlock ∧ some k_ ≠ (.slice Ao12 y149.length co12 : Value).ownBlock ∧ some k_ ≠ (v155 : Value).ownBlock)) ?hr ?hp (fun _ hk => hk) ((show ∀ k_, w16.heap.size ≤ k_ → (fun k_ => some k_ ≠ (.slice Ao11 y146.length co11 : Value).ownBlock ∧ some k_ ≠ (.slice Ao12 y149.length co12 : Value).ownBlock ∧ some k_ ≠ (v155 : Value).ownBlock) k_ from fun k_ hk => ⟨Kd.fresh' (Kd.R_lt (by (with_reducible repeat (first | apply rrA | apply rrN | apply rrD)); exact HO148.out)) k_ hk, Kd.fresh' (Kd.R_lt (by (with_reducible repeat (first | apply rrA | apply rrN | apply rrD)); exact HO151.out)) k_ hk, Kd.fresh' (Kd.R_lt (by (with_reducible repeat (first | apply rrA | apply rrN | apply rrD)); exact HO156.out)) k_ hk⟩) _ (Nat.le_refl _)) (Below.refl _ _) (Nat.le_refl _) (by simp) ?_; (case hd => rfl); (case hg => rfl); (case hr => first | (go_simp; done) | (go_simp; rfl)); (case hp => exact (Reps.c2 (show Kd.FK k26 _ _ (⟨y157, 1⟩ : S26) [.slice Ao18 y157.length co18, .int .i64 1] from (k26_mkF _ _ (⟨y157, 1⟩ : S26) (Kd.R_reads' (Kd.R_mono (ok' := (fun k_ => some k_ ≠ (.slice Ao11 y146.length co11 : Value).ownBlock ∧ some k_ ≠ (.slice Ao12 y149.length co12 : Value).ownBlock ∧ some k_ ≠ (v155 : Value).ownBlock)) (HO159.out) (fun k_ hk => ⟨hk.1.1.2, ⟨hk.1.2, hk.2⟩⟩))).2.1 (Kd.R_F (Kd.R_mono (ok' := (fun k_ => some k_ ≠ (.slice Ao11 y146.length co11 : Value).ownBlock ∧ some k_ ≠ (.slice Ao12 y149.length co12 : Value).ownBlock ∧ some k_ ≠ (v155 : Value).ownBlock)) (HO159.out) (fun k_ hk => ⟨hk.1.1.2, ⟨hk.1.2, hk.2⟩⟩))))) (Reps.none _ _))); intro v161 w19 ho20 hb hg_ hnew_; clear hg_ hnew_; (first | rw [← Ny160.out] at ho20 | (simp only [Int.reduceToNat] at ho20; rw [← Ny160.out] at ho20)); have n0_ := Aside0.mk (Kd.R_below (by (with_reducible repeat (first | apply rrA | apply rrN | apply rrD)); exact HO148.out) hb); have n1_ := Aside0.mk (Kd.R_below (by (with_reducible repeat (first | apply rrA | apply rrN | apply rrD)); exact HO151.out) hb); have n2_ := Aside0.mk (Kd.R_below (by (with_reducible repeat (first | apply rrA | apply rrN | apply rrD)); exact HO156.out) hb); have n3_ := Aside0.mk (Kd.N_lower ho20 (zzS (by repeat (first | (with_reducible first | exact HB.out | apply zzA | apply zzN | apply zzD) | exact HB.out)))); have n4_ := Aside0.mk (zzT (by repeat (first | (with_reducible first | exact HB.out | apply zzA | apply zzN | apply zzD) | exact HB.out)) hb); clear HO148; clear HO151; clear HO156; clear HB; clear HO159; have HO148 := n0_; have HO151 := n1_; have HO156 := n2_; have HO162 := n3_; have HB := n4_; clear n0_ n1_ n2_ n3_ n4_; clear hb ho20; obtain ⟨Ao21, co21, eo21⟩ := Kd.R_slice HO156.out; subst eo21; obtain ⟨Ao22, co22, eo22⟩ := Kd.N_slice HO162.out; subst eo22) | ((with_reducible refine gate_callee (f := 71) rfl ?_); refine goesL_ (some 16) rfl rfl Try.func71 (by kernel_rfl) rfl #[.slice Ao21 y154.length co21, .int .i64 0, .slice Ao22 y160.length co22] rfl (by (try simp only [List.map_toArray, List.map_cons, List.map_nil]); first | done | rfl | (simp only [List.length_drop, List.length_take]; rfl)) ?_; (with_reducible refine (linear_Grad.calls _ _ y154 0 _ _ y160 t163 t164 _ ?side1 ?side2 ?side3 ?side4 A2.out).mono ?_); (case side1 => repeat (first | exact (Kd.R_reads' HO156.out).2.2 | (with_reducible refine ccA ?_ _) | (with_reducible refine ccN ?_ _) | (with_reducible refine ccD ?_))); (case side2 => exact (Kd.R_reads' HO156.out).2.1); (case side3 => repeat (first | exact (Kd.N_reads' HO162.out).2.2 | (with_reducible refine ccA ?_ _) | (with_reducible refine ccN ?_ _) | (with_reducible refine ccD ?_))); (case side4 => exact (Kd.N_reads' HO162.out).2.1); rintro e w23 ⟨v165, rfl, ho0, hb⟩; refine ⟨_, rfl, ?_⟩; have n0_ := Aside0.mk (Kd.R_elder' (by (with_reducible repeat (first | apply rrA | apply rrN | apply rrD)); exact HO148.out) (Kd.R_base ho0) hb); have n1_ := Aside0.mk (Kd.R_elder' (by (with_reducible repeat (first | apply rrA | apply rrN | apply rrD)); exact HO151.out) (Kd.R_base ho0) hb); have n2_ := Aside0.mk (Kd.R_elder' (by (with_reducible repeat (first | apply rrA | apply rrN | apply rrD)); exact HO156.out) (Kd.R_base ho0) hb); have n3_ := Aside0.mk (Kd.N_elder' (by (with_reducible repeat (first | apply Kd.N_alloc | apply Kd.N_drewN | apply Kd.N_drew)); exact HO162.out) (Kd.R_base ho0) hb); have n4_ := Aside0.mk (Kd.R_lower (Kd.R_new' (Kd.R_new' (Kd.R_new' ho0 (Kd.R_lt (by (with_reducible repeat (first | apply rrA | apply rrN | apply rrD)); exact HO148.out))) (Kd.R_lt (by (with_reducible repeat (first | apply rrA | apply rrN | apply rrD)); exact HO151.out))) (Kd.R_lt (by (with_reducible repeat (first | apply rrA | apply rrN | apply rrD)); exact HO156.out))) (zzS (by repeat (first | (with_reducible first | exact HB.out | apply zzA | apply zzN | apply zzD) | exact HB.out)))); have n5_ := Aside0.mk (zzT (by repeat (first | (with_reducible first | exact HB.out | apply zzA | apply zzN | apply zzD) | exact HB.out)) hb); clear HO148; clear HO151; clear HO156; clear HO162; clear HB; have HO148 := n0_; have HO151 := n1_; have HO156 := n2_; have HO162 := n3_; have HO166 := n4_; have HB := n5_; clear n0_ n1_ n2_ n3_ n4_ n5_; (try clear hb); (try clear hb2); (try clear hk); (try clear hi); (try clear ho0)) | ((with_reducible refine gate_dst (N := 31) rfl ?_); (try (refine gate_guard (by rfl) ?_; dsimp only)); refine Kd.R_lit (Kd.int .i64) _ 2 ?hg (N := 31) ?hd (xs := ([6, 2] : List Int)) (inner := [.int .i64 6, .int .i64 2]) (ok := fun _ => True) (okp := fun _ => True) ?hr ?hp (fun _ hk => hk) trivial (Below.refl _ _) (Nat.le_refl _) (by simp) ?_; (case hd => rfl); (case hg => rfl); (case hr => first | (go_simp; done) | (go_simp; rfl)); (case hp => exact (Reps.one (show Kd.M (Kd.int .i64) _ _ _ 6 [.int .i64 6] from rfl) (Reps.one (show Kd.M (Kd.int .i64) _ _ _ 2 [.int .i64 2] from rfl) (Reps.none _ _)))); intro v168 w24 ho25 hb hg_ hnew_; clear hg_ hnew_; (first | rw [← Ny167.out] at ho25 | (simp only [Int.reduceToNat] at ho25; rw [← Ny167.out] at ho25)); have n0_ := Aside0.mk (Kd.R_elder' (by (with_reducible repeat (first | apply rrA | apply rrN | apply rrD)); exact HO148.out) (Kd.R_base ho25) hb); have n1_ := Aside0.mk (Kd.R_elder' (by (with_reducible repeat (first | apply rrA | apply rrN | apply rrD)); exact HO151.out) (Kd.R_base ho25) hb); have n2_ := Aside0.mk (Kd.R_elder' (by (with_reducible repeat (first | apply rrA | apply rrN | apply rrD)); exact HO156.out) (Kd.R_base ho25) hb); have n3_ := Aside0.mk (Kd.N_elder' (by (with_reducible repeat (first | apply Kd.N_alloc | apply Kd.N_drewN | apply Kd.N_drew)); exact HO162.out) (Kd.R_base ho25) hb); have n4_ := Aside0.mk (Kd.R_elder' (by (with_reducible repeat (first | apply rrA | apply rrN | apply rrD)); exact HO166.out) (Kd.R_base ho25) hb); have n5_ := Aside0.mk (Kd.R_lower (Kd.R_new' (Kd.R_new' (Kd.R_new' (Kd.R_new' ho25 (Kd.R_lt (by (with_reducible repeat (first | apply rrA | apply rrN | apply rrD)); exact HO148.out))) (Kd.R_lt (by (with_reducible repeat (first | apply rrA | apply rrN | apply rrD)); exact HO151.out))) (Kd.R_lt (by (with_reducible repeat (first | apply rrA | apply rrN | apply rrD)); exact HO156.out))) (Kd.R_lt (by (with_reducible repeat (first | apply rrA | apply rrN | apply rrD)); exact HO166.out))) (zzS (by repeat (first | (with_reducible first | exact HB.out | apply zzA | apply zzN | apply zzD) | exact HB.out)))); have n6_ := Aside0.mk (zzT (by repeat (first | (with_reducible first | exact HB.out | apply zzA | apply zzN | apply zzD) | exact HB.out)) hb); clear HO148; clear HO151; clear HO156; clear HO162; clear HO166; clear HB; have HO148 := n0_; have HO151 := n1_; have HO156 := n2_; have HO162 := n3_; have HO166 := n4_; have HO169 := n5_; have HB := n6_; clear n0_ n1_ n2_ n3_ n4_ n5_ n6_; clear hb ho25; obtain ⟨Ao26, co26, eo26⟩ := Kd.R_slice HO166.out; subst eo26; obtain ⟨Ao27, co27, eo27⟩ := Kd.R_slice HO169.out; subst eo27) | (go_at_call 44; (with_reducible refine (thrumref02_Same.calls _ _ t163 _ _ y167 t170 _ ?side1 ?side2 ?side3 ?side4 A6.out).mono ?_); (case side1 => repeat (first | exact (Kd.R_reads' HO166.out).2.2 | (with_reducible refine ccA ?_ _) | (with_reducible refine ccN ?_ _) | (with_reducible refine ccD ?_))); (case side2 => exact (Kd.R_reads' HO166.out).2.1); (case side3 => repeat (first | exact (Kd.R_reads' HO169.out).2.2 | (with_reducible refine ccA ?_ _) | (with_reducible refine ccN ?_ _) | (with_reducible refine ccD ?_))); (case side4 => exact (Kd.R_reads' HO169.out).2.1); rintro e w' ⟨rfl, ⟨nd, rfl⟩⟩))
    go_ret
    exact ⟨by first | rfl | (simp [errW_none, errW_some] <;> rfl) | (simp [*, errW_none, errW_some] <;> rfl), by repeat (first | (with_reducible first | exact HB.out | apply zzA | apply zzN | apply zzD) | exact HB.out)⟩
   ·
    rw [if_neg c5] at H
    have c5b0 : (t164 == 0) = false := beq_eq_false_iff_ne.mpr c5
    have c5b1 : (t164 != 0) = true := bne_iff_ne.mpr c5
    obtain rfl := Option.some.inj H
    go_enter Try.func61, Try.ntmps61
    go_wp2_with (first | ((with_reducible refine gate_dst (N := 6) rfl ?_); (try (refine gate_guard (by rfl) ?_; dsimp only)); refine Kd.R_lit (Kd.int .i64) _ 2 ?hg (N := 6) ?hd (xs := ([2, 3, 1] : List Int)) (inner := [.int .i64 2, .int .i64 3, .int .i64 1]) (ok := fun _ => True) (okp := fun _ => True) ?hr ?hp (fun _ hk => hk) trivial (Below.refl _ _) (Nat.le_refl _) (by simp) ?_; (case hd => rfl); (case hg => rfl); (case hr => first | (go_simp; done) | (go_simp; rfl)); (case hp => exact (Reps.one (show Kd.M (Kd.int .i64) _ _ _ 2 [.int .i64 2] from rfl) (Reps.one (show Kd.M (Kd.int .i64) _ _ _ 3 [.int .i64 3] from rfl) (Reps.one (show Kd.M (Kd.int .i64) _ _ _ 1 [.int .i64 1] from rfl) (Reps.none _ _))))); intro v147 w28 ho29 hb hg_ hnew_; clear hg_ hnew_; (first | rw [← Ny146.out] at ho29 | (simp only [Int.reduceToNat] at ho29; rw [← Ny146.out] at ho29)); have n0_ := Aside0.mk (Kd.R_lower ho29 (zzS (by repeat (first | (with_reducible first | exact HB.out | apply zzA | apply zzN | apply zzD) | exact HB.out)))); have n1_ := Aside0.mk (zzT (by repeat (first | (with_reducible first | exact HB.out | apply zzA | apply zzN | apply zzD) | exact HB.out)) hb); clear HB; have HO148 := n0_; have HB := n1_; clear n0_ n1_; clear hb ho29) | ((with_reducible refine gate_dst (N := 7) rfl ?_); (try (refine gate_guard (by rfl) ?_; dsimp only)); refine Kd.R_lit (Kd.int .i64) _ 2 ?hg (N := 7) ?hd (xs := ([10, 100] : List Int)) (inner := [.int .i64 10, .int .i64 100]) (ok := fun _ => True) (okp := fun _ => True) ?hr ?hp (fun _ hk => hk) trivial (Below.refl _ _) (Nat.le_refl _) (by simp) ?_; (case hd => rfl); (case hg => rfl); (case hr => first | (go_simp; done) | (go_simp; rfl)); (case hp => exact (Reps.one (show Kd.M (Kd.int .i64) _ _ _ 10 [.int .i64 10] from rfl) (Reps.one (show Kd.M (Kd.int .i64) _ _ _ 100 [.int .i64 100] from rfl) (Reps.none _ _)))); intro v150 w30 ho31 hb hg_ hnew_; clear hg_ hnew_; (first | rw [← Ny149.out] at ho31 | (simp only [Int.reduceToNat] at ho31; rw [← Ny149.out] at ho31)); have n0_ := Aside0.mk (Kd.R_elder' (by (with_reducible repeat (first | apply rrA | apply rrN | apply rrD)); exact HO148.out) (Kd.R_base ho31) hb); have n1_ := Aside0.mk (Kd.R_lower (Kd.R_new' ho31 (Kd.R_lt (by (with_reducible repeat (first | apply rrA | apply rrN | apply rrD)); exact HO148.out))) (zzS (by repeat (first | (with_reducible first | exact HB.out | apply zzA | apply zzN | apply zzD) | exact HB.out)))); have n2_ := Aside0.mk (zzT (by repeat (first | (with_reducible first | exact HB.out | apply zzA | apply zzN | apply zzD) | exact HB.out)) hb); clear HO148; clear HB; have HO148 := n0_; have HO151 := n1_; have HB := n2_; clear n0_ n1_ n2_; clear hb ho31; obtain ⟨Ao32, co32, eo32⟩ := Kd.R_slice HO148.out; subst eo32; obtain ⟨Ao33, co33, eo33⟩ := Kd.R_slice HO151.out; subst eo33) | ((with_reducible refine gate_callee (f := 33) rfl ?_); refine goesL_ (some 8) rfl rfl Try.func33 (by kernel_rfl) rfl #[.slice Ao32 y146.length co32, .slice Ao33 y149.length co33, .int .i64 0] rfl (by (try simp only [List.map_toArray, List.map_cons, List.map_nil]); first | done | rfl | (simp only [List.length_drop, List.length_take]; rfl)) ?_; (with_reducible refine (linear_Tell.calls _ _ y146 (fun k_ => some k_ = (.slice Ao33 y149.length co33 : Value).ownBlock) _ _ y149 0 t152 t153 _ ?side1 ?side2 ?side3 A1.out).mono ?_); (case side1 => repeat (first | exact (Kd.R_reads' HO148.out).2.2 | (with_reducible refine ccA ?_ _) | (with_reducible refine ccN ?_ _) | (with_reducible refine ccD ?_))); (case side2 => exact (Kd.R_reads' HO148.out).2.1); (case side3 => exact Kd.R_V (Kd.R_tight rfl (HO151.out))); rintro e w34 ⟨rfl, hb⟩; refine ⟨_, rfl, ?_⟩; have n0_ := Aside0.mk (Kd.R_below (by (with_reducible repeat (first | apply rrA | apply rrN | apply rrD)); exact HO148.out) hb); have n1_ := Aside0.mk (Kd.R_below (by (with_reducible repeat (first | apply rrA | apply rrN | apply rrD)); exact HO151.out) hb); have n2_ := Aside0.mk (zzT (by repeat (first | (with_reducible first | exact HB.out | apply zzA | apply zzN | apply zzD) | exact HB.out)) hb); clear HO148; clear HO151; clear HB; have HO148 := n0_; have HO151 := n1_; have HB := n2_; clear n0_ n1_ n2_; (try clear hb); (try clear hb2); (try clear hk); (try clear hi)) | ((with_reducible refine gate_dst (N := 12) rfl ?_); (try (refine gate_guard (by rfl) ?_; dsimp only)); refine Kd.R_lit (Kd.int .i64) _ 2 ?hg (N := 12) ?hd (xs := ([1, 0] : List Int)) (inner := [.int .i64 1, .int .i64 0]) (ok := fun _ => True) (okp := fun _ => True) ?hr ?hp (fun _ hk => hk) trivial (Below.refl _ _) (Nat.le_refl _) (by simp) ?_; (case hd => rfl); (case hg => rfl); (case hr => first | (go_simp; done) | (go_simp; rfl)); (case hp => exact (Reps.one (show Kd.M (Kd.int .i64) _ _ _ 1 [.int .i64 1] from rfl) (Reps.one (show Kd.M (Kd.int .i64) _ _ _ 0 [.int .i64 0] from rfl) (Reps.none _ _)))); intro v155 w35 ho36 hb hg_ hnew_; clear hg_ hnew_; (first | rw [← Ny154.out] at ho36 | (simp only [Int.reduceToNat] at ho36; rw [← Ny154.out] at ho36)); have n0_ := Aside0.mk (Kd.R_elder' (by (with_reducible repeat (first | apply rrA | apply rrN | apply rrD)); exact HO148.out) (Kd.R_base ho36) hb); have n1_ := Aside0.mk (Kd.R_elder' (by (with_reducible repeat (first | apply rrA | apply rrN | apply rrD)); exact HO151.out) (Kd.R_base ho36) hb); have n2_ := Aside0.mk (Kd.R_lower (Kd.R_new' (Kd.R_new' ho36 (Kd.R_lt (by (with_reducible repeat (first | apply rrA | apply rrN | apply rrD)); exact HO148.out))) (Kd.R_lt (by (with_reducible repeat (first | apply rrA | apply rrN | apply rrD)); exact HO151.out))) (zzS (by repeat (first | (with_reducible first | exact HB.out | apply zzA | apply zzN | apply zzD) | exact HB.out)))); have n3_ := Aside0.mk (zzT (by repeat (first | (with_reducible first | exact HB.out | apply zzA | apply zzN | apply zzD) | exact HB.out)) hb); clear HO148; clear HO151; clear HB; have HO148 := n0_; have HO151 := n1_; have HO156 := n2_; have HB := n3_; clear n0_ n1_ n2_ n3_; clear hb ho36) | ((with_reducible refine gate_dst (N := 13) rfl ?_); (try (refine gate_guard (by rfl) ?_; dsimp only)); refine Kd.R_lit (Kd.int .i64) _ 2 ?hg (N := 13) ?hd (xs := ([3] : List Int)) (inner := [.int .i64 3]) (ok := fun _ => True) (okp := fun _ => True) ?hr ?hp (fun _ hk => hk) trivial (Below.refl _ _) (Nat.le_refl _) (by simp) ?_; (case hd => rfl); (case hg => rfl); (case hr => first | (go_simp; done) | (go_simp; rfl)); (case hp => exact (Reps.one (show Kd.M (Kd.int .i64) _ _ _ 3 [.int .i64 3] from rfl) (Reps.none _ _))); intro v158 w37 ho38 hb hg_ hnew_; clear hg_ hnew_; (first | rw [← Ny157.out] at ho38 | (simp only [Int.reduceToNat] at ho38; rw [← Ny157.out] at ho38)); have n0_ := Aside0.mk (Kd.R_elder' (by (with_reducible repeat (first | apply rrA | apply rrN | apply rrD)); exact HO148.out) (Kd.R_base ho38) hb); have n1_ := Aside0.mk (Kd.R_elder' (by (with_reducible repeat (first | apply rrA | apply rrN | apply rrD)); exact HO151.out) (Kd.R_base ho38) hb); have n2_ := Aside0.mk (Kd.R_elder' (by (with_reducible repeat (first | apply rrA | apply rrN | apply rrD)); exact HO156.out) (Kd.R_base ho38) hb); have n3_ := Aside0.mk (Kd.R_lower (Kd.R_new' (Kd.R_new' (Kd.R_new' ho38 (Kd.R_lt (by (with_reducible repeat (first | apply rrA | apply rrN | apply rrD)); exact HO148.out))) (Kd.R_lt (by (with_reducible repeat (first | apply rrA | apply rrN | apply rrD)); exact HO151.out))) (Kd.R_lt (by (with_reducible repeat (first | apply rrA | apply rrN | apply rrD)); exact HO156.out))) (zzS (by repeat (first | (with_reducible first | exact HB.out | apply zzA | apply zzN | apply zzD) | exact HB.out)))); have n4_ := Aside0.mk (zzT (by repeat (first | (with_reducible first | exact HB.out | apply zzA | apply zzN | apply zzD) | exact HB.out)) hb); clear HO148; clear HO151; clear HO156; clear HB; have HO148 := n0_; have HO151 := n1_; have HO156 := n2_; have HO159 := n3_; have HB := n4_; clear n0_ n1_ n2_ n3_ n4_; clear hb ho38; obtain ⟨Ao39, co39, eo39⟩ := Kd.R_slice HO159.out; subst eo39) | ((with_reducible refine gate_dst (N := 15) rfl ?_); (try (refine gate_guard (by rfl) ?_; dsimp only)); refine Kd.N_lit k26 _ 26 ?hg (N' := 15) ?hd (xs := ([(⟨y157, 1⟩ : S26)] : List (S26))) (inner := [.slice Ao39 y157.length co39, .int .i64 1]) (ok := (fun k_ => some k_ ≠ (.slice Ao32 y146.length co32 : Value).ownBlock ∧ some k_ ≠ (.slice Ao33 y149.length co33 : Value).ownBlock ∧ some k_ ≠ (v155 : Value).ownBlock)) (okp := (fun k_ => some k_ ≠ (.slice Ao32 y146.length co32 : Value).ownBlock ∧ some k_ ≠ (.slice Ao33 y149.length co33 : Value).ownBlock ∧ some k_ ≠ (v155 : Value).ownBlock)) ?hr ?hp (fun _ hk => hk) ((show ∀ k_, w37.heap.size ≤ k_ → (fun k_ => some k_ ≠ (.slice Ao32 y146.length co32 : Value).ownBlock ∧ some k_ ≠ (.slice Ao33 y149.length co33 : Value).ownBlock ∧ some k_ ≠ (v155 : Value).ownBlock) k_ from fun k_ hk => ⟨Kd.fresh' (Kd.R_lt (by (with_reducible repeat (first | apply rrA | apply rrN | apply rrD)); exact HO148.out)) k_ hk, Kd.fresh' (Kd.R_lt (by (with_reducible repeat (first | apply rrA | apply rrN | apply rrD)); exact HO151.out)) k_ hk, Kd.fresh' (Kd.R_lt (by (with_reducible repeat (first | apply rrA | apply rrN | apply rrD)); exact HO156.out)) k_ hk⟩) _ (Nat.le_refl _)) (Below.refl _ _) (Nat.le_refl _) (by simp) ?_; (case hd => rfl); (case hg => rfl); (case hr => first | (go_simp; done) | (go_simp; rfl)); (case hp => exact (Reps.c2 (show Kd.FK k26 _ _ (⟨y157, 1⟩ : S26) [.slice Ao39 y157.length co39, .int .i64 1] from (k26_mkF _ _ (⟨y157, 1⟩ : S26) (Kd.R_reads' (Kd.R_mono (ok' := (fun k_ => some k_ ≠ (.slice Ao32 y146.length co32 : Value).ownBlock ∧ some k_ ≠ (.slice Ao33 y149.length co33 : Value).ownBlock ∧ some k_ ≠ (v155 : Value).ownBlock)) (HO159.out) (fun k_ hk => ⟨hk.1.1.2, ⟨hk.1.2, hk.2⟩⟩))).2.1 (Kd.R_F (Kd.R_mono (ok' := (fun k_ => some k_ ≠ (.slice Ao32 y146.length co32 : Value).ownBlock ∧ some k_ ≠ (.slice Ao33 y149.length co33 : Value).ownBlock ∧ some k_ ≠ (v155 : Value).ownBlock)) (HO159.out) (fun k_ hk => ⟨hk.1.1.2, ⟨hk.1.2, hk.2⟩⟩))))) (Reps.none _ _))); intro v161 w40 ho41 hb hg_ hnew_; clear hg_ hnew_; (first | rw [← Ny160.out] at ho41 | (simp only [Int.reduceToNat] at ho41; rw [← Ny160.out] at ho41)); have n0_ := Aside0.mk (Kd.R_below (by (with_reducible repeat (first | apply rrA | apply rrN | apply rrD)); exact HO148.out) hb); have n1_ := Aside0.mk (Kd.R_below (by (with_reducible repeat (first | apply rrA | apply rrN | apply rrD)); exact HO151.out) hb); have n2_ := Aside0.mk (Kd.R_below (by (with_reducible repeat (first | apply rrA | apply rrN | apply rrD)); exact HO156.out) hb); have n3_ := Aside0.mk (Kd.N_lower ho41 (zzS (by repeat (first | (with_reducible first | exact HB.out | apply zzA | apply zzN | apply zzD) | exact HB.out)))); have n4_ := Aside0.mk (zzT (by repeat (first | (with_reducible first | exact HB.out | apply zzA | apply zzN | apply zzD) | exact HB.out)) hb); clear HO148; clear HO151; clear HO156; clear HB; clear HO159; have HO148 := n0_; have HO151 := n1_; have HO156 := n2_; have HO162 := n3_; have HB := n4_; clear n0_ n1_ n2_ n3_ n4_; clear hb ho41; obtain ⟨Ao42, co42, eo42⟩ := Kd.R_slice HO156.out; subst eo42; obtain ⟨Ao43, co43, eo43⟩ := Kd.N_slice HO162.out; subst eo43) | ((with_reducible refine gate_callee (f := 71) rfl ?_); refine goesL_ (some 16) rfl rfl Try.func71 (by kernel_rfl) rfl #[.slice Ao42 y154.length co42, .int .i64 0, .slice Ao43 y160.length co43] rfl (by (try simp only [List.map_toArray, List.map_cons, List.map_nil]); first | done | rfl | (simp only [List.length_drop, List.length_take]; rfl)) ?_; (with_reducible refine (linear_Grad.calls _ _ y154 0 _ _ y160 t163 t164 _ ?side1 ?side2 ?side3 ?side4 A2.out).mono ?_); (case side1 => repeat (first | exact (Kd.R_reads' HO156.out).2.2 | (with_reducible refine ccA ?_ _) | (with_reducible refine ccN ?_ _) | (with_reducible refine ccD ?_))); (case side2 => exact (Kd.R_reads' HO156.out).2.1); (case side3 => repeat (first | exact (Kd.N_reads' HO162.out).2.2 | (with_reducible refine ccA ?_ _) | (with_reducible refine ccN ?_ _) | (with_reducible refine ccD ?_))); (case side4 => exact (Kd.N_reads' HO162.out).2.1); rintro e w44 ⟨v165, rfl, ho0, hb⟩; refine ⟨_, rfl, ?_⟩; have n0_ := Aside0.mk (Kd.R_elder' (by (with_reducible repeat (first | apply rrA | apply rrN | apply rrD)); exact HO148.out) (Kd.R_base ho0) hb); have n1_ := Aside0.mk (Kd.R_elder' (by (with_reducible repeat (first | apply rrA | apply rrN | apply rrD)); exact HO151.out) (Kd.R_base ho0) hb); have n2_ := Aside0.mk (Kd.R_elder' (by (with_reducible repeat (first | apply rrA | apply rrN | apply rrD)); exact HO156.out) (Kd.R_base ho0) hb); have n3_ := Aside0.mk (Kd.N_elder' (by (with_reducible repeat (first | apply Kd.N_alloc | apply Kd.N_drewN | apply Kd.N_drew)); exact HO162.out) (Kd.R_base ho0) hb); have n4_ := Aside0.mk (Kd.R_lower (Kd.R_new' (Kd.R_new' (Kd.R_new' ho0 (Kd.R_lt (by (with_reducible repeat (first | apply rrA | apply rrN | apply rrD)); exact HO148.out))) (Kd.R_lt (by (with_reducible repeat (first | apply rrA | apply rrN | apply rrD)); exact HO151.out))) (Kd.R_lt (by (with_reducible repeat (first | apply rrA | apply rrN | apply rrD)); exact HO156.out))) (zzS (by repeat (first | (with_reducible first | exact HB.out | apply zzA | apply zzN | apply zzD) | exact HB.out)))); have n5_ := Aside0.mk (zzT (by repeat (first | (with_reducible first | exact HB.out | apply zzA | apply zzN | apply zzD) | exact HB.out)) hb); clear HO148; clear HO151; clear HO156; clear HO162; clear HB; have HO148 := n0_; have HO151 := n1_; have HO156 := n2_; have HO162 := n3_; have HO166 := n4_; have HB := n5_; clear n0_ n1_ n2_ n3_ n4_ n5_; (try clear hb); (try clear hb2); (try clear hk); (try clear hi); (try clear ho0)))
    go_ret
    exact ⟨by first | rfl | (simp [errW_none, errW_some] <;> rfl) | (simp [*, errW_none, errW_some] <;> rfl), by repeat (first | (with_reducible first | exact HB.out | apply zzA | apply zzN | apply zzD) | exact HB.out)⟩
  ·
   rw [if_neg c4] at H
   have c4b0 : (t153 == 0) = false := beq_eq_false_iff_ne.mpr c4
   have c4b1 : (t153 != 0) = true := bne_iff_ne.mpr c4
   obtain rfl := Option.some.inj H
   go_enter Try.func61, Try.ntmps61
   go_wp2_with (first | ((with_reducible refine gate_dst (N := 6) rfl ?_); (try (refine gate_guard (by rfl) ?_; dsimp only)); refine Kd.R_lit (Kd.int .i64) _ 2 ?hg (N := 6) ?hd (xs := ([2, 3, 1] : List Int)) (inner := [.int .i64 2, .int .i64 3, .int .i64 1]) (ok := fun _ => True) (okp := fun _ => True) ?hr ?hp (fun _ hk => hk) trivial (Below.refl _ _) (Nat.le_refl _) (by simp) ?_; (case hd => rfl); (case hg => rfl); (case hr => first | (go_simp; done) | (go_simp; rfl)); (case hp => exact (Reps.one (show Kd.M (Kd.int .i64) _ _ _ 2 [.int .i64 2] from rfl) (Reps.one (show Kd.M (Kd.int .i64) _ _ _ 3 [.int .i64 3] from rfl) (Reps.one (show Kd.M (Kd.int .i64) _ _ _ 1 [.int .i64 1] from rfl) (Reps.none _ _))))); intro v147 w45 ho46 hb hg_ hnew_; clear hg_ hnew_; (first | rw [← Ny146.out] at ho46 | (simp only [Int.reduceToNat] at ho46; rw [← Ny146.out] at ho46)); have n0_ := Aside0.mk (Kd.R_lower ho46 (zzS (by repeat (first | (with_reducible first | exact HB.out | apply zzA | apply zzN | apply zzD) | exact HB.out)))); have n1_ := Aside0.mk (zzT (by repeat (first | (with_reducible first | exact HB.out | apply zzA | apply zzN | apply zzD) | exact HB.out)) hb); clear HB; have HO148 := n0_; have HB := n1_; clear n0_ n1_; clear hb ho46) | ((with_reducible refine gate_dst (N := 7) rfl ?_); (try (refine gate_guard (by rfl) ?_; dsimp only)); refine Kd.R_lit (Kd.int .i64) _ 2 ?hg (N := 7) ?hd (xs := ([10, 100] : List Int)) (inner := [.int .i64 10, .int .i64 100]) (ok := fun _ => True) (okp := fun _ => True) ?hr ?hp (fun _ hk => hk) trivial (Below.refl _ _) (Nat.le_refl _) (by simp) ?_; (case hd => rfl); (case hg => rfl); (case hr => first | (go_simp; done) | (go_simp; rfl)); (case hp => exact (Reps.one (show Kd.M (Kd.int .i64) _ _ _ 10 [.int .i64 10] from rfl) (Reps.one (show Kd.M (Kd.int .i64) _ _ _ 100 [.int .i64 100] from rfl) (Reps.none _ _)))); intro v150 w47 ho48 hb hg_ hnew_; clear hg_ hnew_; (first | rw [← Ny149.out] at ho48 | (simp only [Int.reduceToNat] at ho48; rw [← Ny149.out] at ho48)); have n0_ := Aside0.mk (Kd.R_elder' (by (with_reducible repeat (first | apply rrA | apply rrN | apply rrD)); exact HO148.out) (Kd.R_base ho48) hb); have n1_ := Aside0.mk (Kd.R_lower (Kd.R_new' ho48 (Kd.R_lt (by (with_reducible repeat (first | apply rrA | apply rrN | apply rrD)); exact HO148.out))) (zzS (by repeat (first | (with_reducible first | exact HB.out | apply zzA | apply zzN | apply zzD) | exact HB.out)))); have n2_ := Aside0.mk (zzT (by repeat (first | (with_reducible first | exact HB.out | apply zzA | apply zzN | apply zzD) | exact HB.out)) hb); clear HO148; clear HB; have HO148 := n0_; have HO151 := n1_; have HB := n2_; clear n0_ n1_ n2_; clear hb ho48; obtain ⟨Ao49, co49, eo49⟩ := Kd.R_slice HO148.out; subst eo49; obtain ⟨Ao50, co50, eo50⟩ := Kd.R_slice HO151.out; subst eo50) | ((with_reducible refine gate_callee (f := 33) rfl ?_); refine goesL_ (some 8) rfl rfl Try.func33 (by kernel_rfl) rfl #[.slice Ao49 y146.length co49, .slice Ao50 y149.length co50, .int .i64 0] rfl (by (try simp only [List.map_toArray, List.map_cons, List.map_nil]); first | done | rfl | (simp only [List.length_drop, List.length_take]; rfl)) ?_; (with_reducible refine (linear_Tell.calls _ _ y146 (fun k_ => some k_ = (.slice Ao50 y149.length co50 : Value).ownBlock) _ _ y149 0 t152 t153 _ ?side1 ?side2 ?side3 A1.out).mono ?_); (case side1 => repeat (first | exact (Kd.R_reads' HO148.out).2.2 | (with_reducible refine ccA ?_ _) | (with_reducible refine ccN ?_ _) | (with_reducible refine ccD ?_))); (case side2 => exact (Kd.R_reads' HO148.out).2.1); (case side3 => exact Kd.R_V (Kd.R_tight rfl (HO151.out))); rintro e w51 ⟨rfl, hb⟩; refine ⟨_, rfl, ?_⟩; have n0_ := Aside0.mk (Kd.R_below (by (with_reducible repeat (first | apply rrA | apply rrN | apply rrD)); exact HO148.out) hb); have n1_ := Aside0.mk (Kd.R_below (by (with_reducible repeat (first | apply rrA | apply rrN | apply rrD)); exact HO151.out) hb); have n2_ := Aside0.mk (zzT (by repeat (first | (with_reducible first | exact HB.out | apply zzA | apply zzN | apply zzD) | exact HB.out)) hb); clear HO148; clear HO151; clear HB; have HO148 := n0_; have HO151 := n1_; have HB := n2_; clear n0_ n1_ n2_; (try clear hb); (try clear hb2); (try clear hk); (try clear hi)) | ((with_reducible refine gate_dst (N := 12) rfl ?_); (try (refine gate_guard (by rfl) ?_; dsimp only)); refine Kd.R_lit (Kd.int .i64) _ 2 ?hg (N := 12) ?hd (xs := ([1, 0] : List Int)) (inner := [.int .i64 1, .int .i64 0]) (ok := fun _ => True) (okp := fun _ => True) ?hr ?hp (fun _ hk => hk) trivial (Below.refl _ _) (Nat.le_refl _) (by simp) ?_; (case hd => rfl); (case hg => rfl); (case hr => first | (go_simp; done) | (go_simp; rfl)); (case hp => exact (Reps.one (show Kd.M (Kd.int .i64) _ _ _ 1 [.int .i64 1] from rfl) (Reps.one (show Kd.M (Kd.int .i64) _ _ _ 0 [.int .i64 0] from rfl) (Reps.none _ _)))); intro v155 w52 ho53 hb hg_ hnew_; clear hg_ hnew_; (first | rw [← Ny154.out] at ho53 | (simp only [Int.reduceToNat] at ho53; rw [← Ny154.out] at ho53)); have n0_ := Aside0.mk (Kd.R_elder' (by (with_reducible repeat (first | apply rrA | apply rrN | apply rrD)); exact HO148.out) (Kd.R_base ho53) hb); have n1_ := Aside0.mk (Kd.R_elder' (by (with_reducible repeat (first | apply rrA | apply rrN | apply rrD)); exact HO151.out) (Kd.R_base ho53) hb); have n2_ := Aside0.mk (Kd.R_lower (Kd.R_new' (Kd.R_new' ho53 (Kd.R_lt (by (with_reducible repeat (first | apply rrA | apply rrN | apply rrD)); exact HO148.out))) (Kd.R_lt (by (with_reducible repeat (first | apply rrA | apply rrN | apply rrD)); exact HO151.out))) (zzS (by repeat (first | (with_reducible first | exact HB.out | apply zzA | apply zzN | apply zzD) | exact HB.out)))); have n3_ := Aside0.mk (zzT (by repeat (first | (with_reducible first | exact HB.out | apply zzA | apply zzN | apply zzD) | exact HB.out)) hb); clear HO148; clear HO151; clear HB; have HO148 := n0_; have HO151 := n1_; have HO156 := n2_; have HB := n3_; clear n0_ n1_ n2_ n3_; clear hb ho53) | ((with_reducible refine gate_dst (N := 13) rfl ?_); (try (refine gate_guard (by rfl) ?_; dsimp only)); refine Kd.R_lit (Kd.int .i64) _ 2 ?hg (N := 13) ?hd (xs := ([3] : List Int)) (inner := [.int .i64 3]) (ok := fun _ => True) (okp := fun _ => True) ?hr ?hp (fun _ hk => hk) trivial (Below.refl _ _) (Nat.le_refl _) (by simp) ?_; (case hd => rfl); (case hg => rfl); (case hr => first | (go_simp; done) | (go_simp; rfl)); (case hp => exact (Reps.one (show Kd.M (Kd.int .i64) _ _ _ 3 [.int .i64 3] from rfl) (Reps.none _ _))); intro v158 w54 ho55 hb hg_ hnew_; clear hg_ hnew_; (first | rw [← Ny157.out] at ho55 | (simp only [Int.reduceToNat] at ho55; rw [← Ny157.out] at ho55)); have n0_ := Aside0.mk (Kd.R_elder' (by (with_reducible repeat (first | apply rrA | apply rrN | apply rrD)); exact HO148.out) (Kd.R_base ho55) hb); have n1_ := Aside0.mk (Kd.R_elder' (by (with_reducible repeat (first | apply rrA | apply rrN | apply rrD)); exact HO151.out) (Kd.R_base ho55) hb); have n2_ := Aside0.mk (Kd.R_elder' (by (with_reducible repeat (first | apply rrA | apply rrN | apply rrD)); exact HO156.out) (Kd.R_base ho55) hb); have n3_ := Aside0.mk (Kd.R_lower (Kd.R_new' (Kd.R_new' (Kd.R_new' ho55 (Kd.R_lt (by (with_reducible repeat (first | apply rrA | apply rrN | apply rrD)); exact HO148.out))) (Kd.R_lt (by (with_reducible repeat (first | apply rrA | apply rrN | apply rrD)); exact HO151.out))) (Kd.R_lt (by (with_reducible repeat (first | apply rrA | apply rrN | apply rrD)); exact HO156.out))) (zzS (by repeat (first | (with_reducible first | exact HB.out | apply zzA | apply zzN | apply zzD) | exact HB.out)))); have n4_ := Aside0.mk (zzT (by repeat (first | (with_reducible first | exact HB.out | apply zzA | apply zzN | apply zzD) | exact HB.out)) hb); clear HO148; clear HO151; clear HO156; clear HB; have HO148 := n0_; have HO151 := n1_; have HO156 := n2_; have HO159 := n3_; have HB := n4_; clear n0_ n1_ n2_ n3_ n4_; clear hb ho55; obtain ⟨Ao56, co56, eo56⟩ := Kd.R_slice HO159.out; subst eo56) | ((with_reducible refine gate_dst (N := 15) rfl ?_); (try (refine gate_guard (by rfl) ?_; dsimp only)); refine Kd.N_lit k26 _ 26 ?hg (N' := 15) ?hd (xs := ([(⟨y157, 1⟩ : S26)] : List (S26))) (inner := [.slice Ao56 y157.length co56, .int .i64 1]) (ok := (fun k_ => some k_ ≠ (.slice Ao49 y146.length co49 : Value).ownBlock ∧ some k_ ≠ (.slice Ao50 y149.length co50 : Value).ownBlock ∧ some k_ ≠ (v155 : Value).ownBlock)) (okp := (fun k_ => some k_ ≠ (.slice Ao49 y146.length co49 : Value).ownBlock ∧ some k_ ≠ (.slice Ao50 y149.length co50 : Value).ownBlock ∧ some k_ ≠ (v155 : Value).ownBlock)) ?hr ?hp (fun _ hk => hk) ((show ∀ k_, w54.heap.size ≤ k_ → (fun k_ => some k_ ≠ (.slice Ao49 y146.length co49 : Value).ownBlock ∧ some k_ ≠ (.slice Ao50 y149.length co50 : Value).ownBlock ∧ some k_ ≠ (v155 : Value).ownBlock) k_ from fun k_ hk => ⟨Kd.fresh' (Kd.R_lt (by (with_reducible repeat (first | apply rrA | apply rrN | apply rrD)); exact HO148.out)) k_ hk, Kd.fresh' (Kd.R_lt (by (with_reducible repeat (first | apply rrA | apply rrN | apply rrD)); exact HO151.out)) k_ hk, Kd.fresh' (Kd.R_lt (by (with_reducible repeat (first | apply rrA | apply rrN | apply rrD)); exact HO156.out)) k_ hk⟩) _ (Nat.le_refl _)) (Below.refl _ _) (Nat.le_refl _) (by simp) ?_; (case hd => rfl); (case hg => rfl); (case hr => first | (go_simp; done) | (go_simp; rfl)); (case hp => exact (Reps.c2 (show Kd.FK k26 _ _ (⟨y157, 1⟩ : S26) [.slice Ao56 y157.length co56, .int .i64 1] from (k26_mkF _ _ (⟨y157, 1⟩ : S26) (Kd.R_reads' (Kd.R_mono (ok' := (fun k_ => some k_ ≠ (.slice Ao49 y146.length co49 : Value).ownBlock ∧ some k_ ≠ (.slice Ao50 y149.length co50 : Value).ownBlock ∧ some k_ ≠ (v155 : Value).ownBlock)) (HO159.out) (fun k_ hk => ⟨hk.1.1.2, ⟨hk.1.2, hk.2⟩⟩))).2.1 (Kd.R_F (Kd.R_mono (ok' := (fun k_ => some k_ ≠ (.slice Ao49 y146.length co49 : Value).ownBlock ∧ some k_ ≠ (.slice Ao50 y149.length co50 : Value).ownBlock ∧ some k_ ≠ (v155 : Value).ownBlock)) (HO159.out) (fun k_ hk => ⟨hk.1.1.2, ⟨hk.1.2, hk.2⟩⟩))))) (Reps.none _ _))); intro v161 w57 ho58 hb hg_ hnew_; clear hg_ hnew_; (first | rw [← Ny160.out] at ho58 | (simp only [Int.reduceToNat] at ho58; rw [← Ny160.out] at ho58)); have n0_ := Aside0.mk (Kd.R_below (by (with_reducible repeat (first | apply rrA | apply rrN | apply rrD)); exact HO148.out) hb); have n1_ := Aside0.mk (Kd.R_below (by (with_reducible repeat (first | apply rrA | apply rrN | apply rrD)); exact HO151.out) hb); have n2_ := Aside0.mk (Kd.R_below (by (with_reducible repeat (first | apply rrA | apply rrN | apply rrD)); exact HO156.out) hb); have n3_ := Aside0.mk (Kd.N_lower ho58 (zzS (by repeat (first | (with_reducible first | exact HB.out | apply zzA | apply zzN | apply zzD) | exact HB.out)))); have n4_ := Aside0.mk (zzT (by repeat (first | (with_reducible first | exact HB.out | apply zzA | apply zzN | apply zzD) | exact HB.out)) hb); clear HO148; clear HO151; clear HO156; clear HB; clear HO159; have HO148 := n0_; have HO151 := n1_; have HO156 := n2_; have HO162 := n3_; have HB := n4_; clear n0_ n1_ n2_ n3_ n4_; clear hb ho58; obtain ⟨Ao59, co59, eo59⟩ := Kd.R_slice HO156.out; subst eo59; obtain ⟨Ao60, co60, eo60⟩ := Kd.N_slice HO162.out; subst eo60) | ((with_reducible refine gate_callee (f := 71) rfl ?_); refine goesL_ (some 16) rfl rfl Try.func71 (by kernel_rfl) rfl #[.slice Ao59 y154.length co59, .int .i64 0, .slice Ao60 y160.length co60] rfl (by (try simp only [List.map_toArray, List.map_cons, List.map_nil]); first | done | rfl | (simp only [List.length_drop, List.length_take]; rfl)) ?_; (with_reducible refine (linear_Grad.calls _ _ y154 0 _ _ y160 t163 t164 _ ?side1 ?side2 ?side3 ?side4 A2.out).mono ?_); (case side1 => repeat (first | exact (Kd.R_reads' HO156.out).2.2 | (with_reducible refine ccA ?_ _) | (with_reducible refine ccN ?_ _) | (with_reducible refine ccD ?_))); (case side2 => exact (Kd.R_reads' HO156.out).2.1); (case side3 => repeat (first | exact (Kd.N_reads' HO162.out).2.2 | (with_reducible refine ccA ?_ _) | (with_reducible refine ccN ?_ _) | (with_reducible refine ccD ?_))); (case side4 => exact (Kd.N_reads' HO162.out).2.1); rintro e w61 ⟨v165, rfl, ho0, hb⟩; refine ⟨_, rfl, ?_⟩; have n0_ := Aside0.mk (Kd.R_elder' (by (with_reducible repeat (first | apply rrA | apply rrN | apply rrD)); exact HO148.out) (Kd.R_base ho0) hb); have n1_ := Aside0.mk (Kd.R_elder' (by (with_reducible repeat (first | apply rrA | apply rrN | apply rrD)); exact HO151.out) (Kd.R_base ho0) hb); have n2_ := Aside0.mk (Kd.R_elder' (by (with_reducible repeat (first | apply rrA | apply rrN | apply rrD)); exact HO156.out) (Kd.R_base ho0) hb); have n3_ := Aside0.mk (Kd.N_elder' (by (with_reducible repeat (first | apply Kd.N_alloc | apply Kd.N_drewN | apply Kd.N_drew)); exact HO162.out) (Kd.R_base ho0) hb); have n4_ := Aside0.mk (Kd.R_lower (Kd.R_new' (Kd.R_new' (Kd.R_new' ho0 (Kd.R_lt (by (with_reducible repeat (first | apply rrA | apply rrN | apply rrD)); exact HO148.out))) (Kd.R_lt (by (with_reducible repeat (first | apply rrA | apply rrN | apply rrD)); exact HO151.out))) (Kd.R_lt (by (with_reducible repeat (first | apply rrA | apply rrN | apply rrD)); exact HO156.out))) (zzS (by repeat (first | (with_reducible first | exact HB.out | apply zzA | apply zzN | apply zzD) | exact HB.out)))); have n5_ := Aside0.mk (zzT (by repeat (first | (with_reducible first | exact HB.out | apply zzA | apply zzN | apply zzD) | exact HB.out)) hb); clear HO148; clear HO151; clear HO156; clear HO162; clear HB; have HO148 := n0_; have HO151 := n1_; have HO156 := n2_; have HO162 := n3_; have HO166 := n4_; have HB := n5_; clear n0_ n1_ n2_ n3_ n4_ n5_; (try clear hb); (try clear hb2); (try clear hk); (try clear hi); (try clear ho0)))
   go_ret
   exact ⟨by first | rfl | (simp [errW_none, errW_some] <;> rfl) | (simp [*, errW_none, errW_some] <;> rfl), by repeat (first | (with_reducible first | exact HB.out | apply zzA | apply zzN | apply zzD) | exact HB.out)⟩
 ·
  rw [if_neg c3] at H
  have c3b0 : (t152 == 321) = false := beq_eq_false_iff_ne.mpr c3
  have c3b1 : (t152 != 321) = true := bne_iff_ne.mpr c3
  obtain rfl := Option.some.inj H
  go_enter Try.func61, Try.ntmps61
  go_wp2_with (first | ((with_reducible refine gate_dst (N := 6) rfl ?_); (try (refine gate_guard (by rfl) ?_; dsimp only)); refine Kd.R_lit (Kd.int .i64) _ 2 ?hg (N := 6) ?hd (xs := ([2, 3, 1] : List Int)) (inner := [.int .i64 2, .int .i64 3, .int .i64 1]) (ok := fun _ => True) (okp := fun _ => True) ?hr ?hp (fun _ hk => hk) trivial (Below.refl _ _) (Nat.le_refl _) (by simp) ?_; (case hd => rfl); (case hg => rfl); (case hr => first | (go_simp; done) | (go_simp; rfl)); (case hp => exact (Reps.one (show Kd.M (Kd.int .i64) _ _ _ 2 [.int .i64 2] from rfl) (Reps.one (show Kd.M (Kd.int .i64) _ _ _ 3 [.int .i64 3] from rfl) (Reps.one (show Kd.M (Kd.int .i64) _ _ _ 1 [.int .i64 1] from rfl) (Reps.none _ _))))); intro v147 w62 ho63 hb hg_ hnew_; clear hg_ hnew_; (first | rw [← Ny146.out] at ho63 | (simp only [Int.reduceToNat] at ho63; rw [← Ny146.out] at ho63)); have n0_ := Aside0.mk (Kd.R_lower ho63 (zzS (by repeat (first | (with_reducible first | exact HB.out | apply zzA | apply zzN | apply zzD) | exact HB.out)))); have n1_ := Aside0.mk (zzT (by repeat (first | (with_reducible first | exact HB.out | apply zzA | apply zzN | apply zzD) | exact HB.out)) hb); clear HB; have HO148 := n0_; have HB := n1_; clear n0_ n1_; clear hb ho63) | ((with_reducible refine gate_dst (N := 7) rfl ?_); (try (refine gate_guard (by rfl) ?_; dsimp only)); refine Kd.R_lit (Kd.int .i64) _ 2 ?hg (N := 7) ?hd (xs := ([10, 100] : List Int)) (inner := [.int .i64 10, .int .i64 100]) (ok := fun _ => True) (okp := fun _ => True) ?hr ?hp (fun _ hk => hk) trivial (Below.refl _ _) (Nat.le_refl _) (by simp) ?_; (case hd => rfl); (case hg => rfl); (case hr => first | (go_simp; done) | (go_simp; rfl)); (case hp => exact (Reps.one (show Kd.M (Kd.int .i64) _ _ _ 10 [.int .i64 10] from rfl) (Reps.one (show Kd.M (Kd.int .i64) _ _ _ 100 [.int .i64 100] from rfl) (Reps.none _ _)))); intro v150 w64 ho65 hb hg_ hnew_; clear hg_ hnew_; (first | rw [← Ny149.out] at ho65 | (simp only [Int.reduceToNat] at ho65; rw [← Ny149.out] at ho65)); have n0_ := Aside0.mk (Kd.R_elder' (by (with_reducible repeat (first | apply rrA | apply rrN | apply rrD)); exact HO148.out) (Kd.R_base ho65) hb); have n1_ := Aside0.mk (Kd.R_lower (Kd.R_new' ho65 (Kd.R_lt (by (with_reducible repeat (first | apply rrA | apply rrN | apply rrD)); exact HO148.out))) (zzS (by repeat (first | (with_reducible first | exact HB.out | apply zzA | apply zzN | apply zzD) | exact HB.out)))); have n2_ := Aside0.mk (zzT (by repeat (first | (with_reducible first | exact HB.out | apply zzA | apply zzN | apply zzD) | exact HB.out)) hb); clear HO148; clear HB; have HO148 := n0_; have HO151 := n1_; have HB := n2_; clear n0_ n1_ n2_; clear hb ho65; obtain ⟨Ao66, co66, eo66⟩ := Kd.R_slice HO148.out; subst eo66; obtain ⟨Ao67, co67, eo67⟩ := Kd.R_slice HO151.out; subst eo67) | ((with_reducible refine gate_callee (f := 33) rfl ?_); refine goesL_ (some 8) rfl rfl Try.func33 (by kernel_rfl) rfl #[.slice Ao66 y146.length co66, .slice Ao67 y149.length co67, .int .i64 0] rfl (by (try simp only [List.map_toArray, List.map_cons, List.map_nil]); first | done | rfl | (simp only [List.length_drop, List.length_take]; rfl)) ?_; (with_reducible refine (linear_Tell.calls _ _ y146 (fun k_ => some k_ = (.slice Ao67 y149.length co67 : Value).ownBlock) _ _ y149 0 t152 t153 _ ?side1 ?side2 ?side3 A1.out).mono ?_); (case side1 => repeat (first | exact (Kd.R_reads' HO148.out).2.2 | (with_reducible refine ccA ?_ _) | (with_reducible refine ccN ?_ _) | (with_reducible refine ccD ?_))); (case side2 => exact (Kd.R_reads' HO148.out).2.1); (case side3 => exact Kd.R_V (Kd.R_tight rfl (HO151.out))); rintro e w68 ⟨rfl, hb⟩; refine ⟨_, rfl, ?_⟩; have n0_ := Aside0.mk (Kd.R_below (by (with_reducible repeat (first | apply rrA | apply rrN | apply rrD)); exact HO148.out) hb); have n1_ := Aside0.mk (Kd.R_below (by (with_reducible repeat (first | apply rrA | apply rrN | apply rrD)); exact HO151.out) hb); have n2_ := Aside0.mk (zzT (by repeat (first | (with_reducible first | exact HB.out | apply zzA | apply zzN | apply zzD) | exact HB.out)) hb); clear HO148; clear HO151; clear HB; have HO148 := n0_; have HO151 := n1_; have HB := n2_; clear n0_ n1_ n2_; (try clear hb); (try clear hb2); (try clear hk); (try clear hi)) | ((with_reducible refine gate_dst (N := 12) rfl ?_); (try (refine gate_guard (by rfl) ?_; dsimp only)); refine Kd.R_lit (Kd.int .i64) _ 2 ?hg (N := 12) ?hd (xs := ([1, 0] : List Int)) (inner := [.int .i64 1, .int .i64 0]) (ok := fun _ => True) (okp := fun _ => True) ?hr ?hp (fun _ hk => hk) trivial (Below.refl _ _) (Nat.le_refl _) (by simp) ?_; (case hd => rfl); (case hg => rfl); (case hr => first | (go_simp; done) | (go_simp; rfl)); (case hp => exact (Reps.one (show Kd.M (Kd.int .i64) _ _ _ 1 [.int .i64 1] from rfl) (Reps.one (show Kd.M (Kd.int .i64) _ _ _ 0 [.int .i64 0] from rfl) (Reps.none _ _)))); intro v155 w69 ho70 hb hg_ hnew_; clear hg_ hnew_; (first | rw [← Ny154.out] at ho70 | (simp only [Int.reduceToNat] at ho70; rw [← Ny154.out] at ho70)); have n0_ := Aside0.mk (Kd.R_elder' (by (with_reducible repeat (first | apply rrA | apply rrN | apply rrD)); exact HO148.out) (Kd.R_base ho70) hb); have n1_ := Aside0.mk (Kd.R_elder' (by (with_reducible repeat (first | apply rrA | apply rrN | apply rrD)); exact HO151.out) (Kd.R_base ho70) hb); have n2_ := Aside0.mk (Kd.R_lower (Kd.R_new' (Kd.R_new' ho70 (Kd.R_lt (by (with_reducible repeat (first | apply rrA | apply rrN | apply rrD)); exact HO148.out))) (Kd.R_lt (by (with_reducible repeat (first | apply rrA | apply rrN | apply rrD)); exact HO151.out))) (zzS (by repeat (first | (with_reducible first | exact HB.out | apply zzA | apply zzN | apply zzD) | exact HB.out)))); have n3_ := Aside0.mk (zzT (by repeat (first | (with_reducible first | exact HB.out | apply zzA | apply zzN | apply zzD) | exact HB.out)) hb); clear HO148; clear HO151; clear HB; have HO148 := n0_; have HO151 := n1_; have HO156 := n2_; have HB := n3_; clear n0_ n1_ n2_ n3_; clear hb ho70) | ((with_reducible refine gate_dst (N := 13) rfl ?_); (try (refine gate_guard (by rfl) ?_; dsimp only)); refine Kd.R_lit (Kd.int .i64) _ 2 ?hg (N := 13) ?hd (xs := ([3] : List Int)) (inner := [.int .i64 3]) (ok := fun _ => True) (okp := fun _ => True) ?hr ?hp (fun _ hk => hk) trivial (Below.refl _ _) (Nat.le_refl _) (by simp) ?_; (case hd => rfl); (case hg => rfl); (case hr => first | (go_simp; done) | (go_simp; rfl)); (case hp => exact (Reps.one (show Kd.M (Kd.int .i64) _ _ _ 3 [.int .i64 3] from rfl) (Reps.none _ _))); intro v158 w71 ho72 hb hg_ hnew_; clear hg_ hnew_; (first | rw [← Ny157.out] at ho72 | (simp only [Int.reduceToNat] at ho72; rw [← Ny157.out] at ho72)); have n0_ := Aside0.mk (Kd.R_elder' (by (with_reducible repeat (first | apply rrA | apply rrN | apply rrD)); exact HO148.out) (Kd.R_base ho72) hb); have n1_ := Aside0.mk (Kd.R_elder' (by (with_reducible repeat (first | apply rrA | apply rrN | apply rrD)); exact HO151.out) (Kd.R_base ho72) hb); have n2_ := Aside0.mk (Kd.R_elder' (by (with_reducible repeat (first | apply rrA | apply rrN | apply rrD)); exact HO156.out) (Kd.R_base ho72) hb); have n3_ := Aside0.mk (Kd.R_lower (Kd.R_new' (Kd.R_new' (Kd.R_new' ho72 (Kd.R_lt (by (with_reducible repeat (first | apply rrA | apply rrN | apply rrD)); exact HO148.out))) (Kd.R_lt (by (with_reducible repeat (first | apply rrA | apply rrN | apply rrD)); exact HO151.out))) (Kd.R_lt (by (with_reducible repeat (first | apply rrA | apply rrN | apply rrD)); exact HO156.out))) (zzS (by repeat (first | (with_reducible first | exact HB.out | apply zzA | apply zzN | apply zzD) | exact HB.out)))); have n4_ := Aside0.mk (zzT (by repeat (first | (with_reducible first | exact HB.out | apply zzA | apply zzN | apply zzD) | exact HB.out)) hb); clear HO148; clear HO151; clear HO156; clear HB; have HO148 := n0_; have HO151 := n1_; have HO156 := n2_; have HO159 := n3_; have HB := n4_; clear n0_ n1_ n2_ n3_ n4_; clear hb ho72; obtain ⟨Ao73, co73, eo73⟩ := Kd.R_slice HO159.out; subst eo73) | ((with_reducible refine gate_dst (N := 15) rfl ?_); (try (refine gate_guard (by rfl) ?_; dsimp only)); refine Kd.N_lit k26 _ 26 ?hg (N' := 15) ?hd (xs := ([(⟨y157, 1⟩ : S26)] : List (S26))) (inner := [.slice Ao73 y157.length co73, .int .i64 1]) (ok := (fun k_ => some k_ ≠ (.slice Ao66 y146.length co66 : Value).ownBlock ∧ some k_ ≠ (.slice Ao67 y149.length co67 : Value).ownBlock ∧ some k_ ≠ (v155 : Value).ownBlock)) (okp := (fun k_ => some k_ ≠ (.slice Ao66 y146.length co66 : Value).ownBlock ∧ some k_ ≠ (.slice Ao67 y149.length co67 : Value).ownBlock ∧ some k_ ≠ (v155 : Value).ownBlock)) ?hr ?hp (fun _ hk => hk) ((show ∀ k_, w71.heap.size ≤ k_ → (fun k_ => some k_ ≠ (.slice Ao66 y146.length co66 : Value).ownBlock ∧ some k_ ≠ (.slice Ao67 y149.length co67 : Value).ownBlock ∧ some k_ ≠ (v155 : Value).ownBlock) k_ from fun k_ hk => ⟨Kd.fresh' (Kd.R_lt (by (with_reducible repeat (first | apply rrA | apply rrN | apply rrD)); exact HO148.out)) k_ hk, Kd.fresh' (Kd.R_lt (by (with_reducible repeat (first | apply rrA | apply rrN | apply rrD)); exact HO151.out)) k_ hk, Kd.fresh' (Kd.R_lt (by (with_reducible repeat (first | apply rrA | apply rrN | apply rrD)); exact HO156.out)) k_ hk⟩) _ (Nat.le_refl _)) (Below.refl _ _) (Nat.le_refl _) (by simp) ?_; (case hd => rfl); (case hg => rfl); (case hr => first | (go_simp; done) | (go_simp; rfl)); (case hp => exact (Reps.c2 (show Kd.FK k26 _ _ (⟨y157, 1⟩ : S26) [.slice Ao73 y157.length co73, .int .i64 1] from (k26_mkF _ _ (⟨y157, 1⟩ : S26) (Kd.R_reads' (Kd.R_mono (ok' := (fun k_ => some k_ ≠ (.slice Ao66 y146.length co66 : Value).ownBlock ∧ some k_ ≠ (.slice Ao67 y149.length co67 : Value).ownBlock ∧ some k_ ≠ (v155 : Value).ownBlock)) (HO159.out) (fun k_ hk => ⟨hk.1.1.2, ⟨hk.1.2, hk.2⟩⟩))).2.1 (Kd.R_F (Kd.R_mono (ok' := (fun k_ => some k_ ≠ (.slice Ao66 y146.length co66 : Value).ownBlock ∧ some k_ ≠ (.slice Ao67 y149.length co67 : Value).ownBlock ∧ some k_ ≠ (v155 : Value).ownBlock)) (HO159.out) (fun k_ hk => ⟨hk.1.1.2, ⟨hk.1.2, hk.2⟩⟩))))) (Reps.none _ _))); intro v161 w74 ho75 hb hg_ hnew_; clear hg_ hnew_; (first | rw [← Ny160.out] at ho75 | (simp only [Int.reduceToNat] at ho75; rw [← Ny160.out] at ho75)); have n0_ := Aside0.mk (Kd.R_below (by (with_reducible repeat (first | apply rrA | apply rrN | apply rrD)); exact HO148.out) hb); have n1_ := Aside0.mk (Kd.R_below (by (with_reducible repeat (first | apply rrA | apply rrN | apply rrD)); exact HO151.out) hb); have n2_ := Aside0.mk (Kd.R_below (by (with_reducible repeat (first | apply rrA | apply rrN | apply rrD)); exact HO156.out) hb); have n3_ := Aside0.mk (Kd.N_lower ho75 (zzS (by repeat (first | (with_reducible first | exact HB.out | apply zzA | apply zzN | apply zzD) | exact HB.out)))); have n4_ := Aside0.mk (zzT (by repeat (first | (with_reducible first | exact HB.out | apply zzA | apply zzN | apply zzD) | exact HB.out)) hb); clear HO148; clear HO151; clear HO156; clear HB; clear HO159; have HO148 := n0_; have HO151 := n1_; have HO156 := n2_; have HO162 := n3_; have HB := n4_; clear n0_ n1_ n2_ n3_ n4_; clear hb ho75; obtain ⟨Ao76, co76, eo76⟩ := Kd.R_slice HO156.out; subst eo76; obtain ⟨Ao77, co77, eo77⟩ := Kd.N_slice HO162.out; subst eo77) | ((with_reducible refine gate_callee (f := 71) rfl ?_); refine goesL_ (some 16) rfl rfl Try.func71 (by kernel_rfl) rfl #[.slice Ao76 y154.length co76, .int .i64 0, .slice Ao77 y160.length co77] rfl (by (try simp only [List.map_toArray, List.map_cons, List.map_nil]); first | done | rfl | (simp only [List.length_drop, List.length_take]; rfl)) ?_; (with_reducible refine (linear_Grad.calls _ _ y154 0 _ _ y160 t163 t164 _ ?side1 ?side2 ?side3 ?side4 A2.out).mono ?_); (case side1 => repeat (first | exact (Kd.R_reads' HO156.out).2.2 | (with_reducible refine ccA ?_ _) | (with_reducible refine ccN ?_ _) | (with_reducible refine ccD ?_))); (case side2 => exact (Kd.R_reads' HO156.out).2.1); (case side3 => repeat (first | exact (Kd.N_reads' HO162.out).2.2 | (with_reducible refine ccA ?_ _) | (with_reducible refine ccN ?_ _) | (with_reducible refine ccD ?_))); (case side4 => exact (Kd.N_reads' HO162.out).2.1); rintro e w78 ⟨v165, rfl, ho0, hb⟩; refine ⟨_, rfl, ?_⟩; have n0_ := Aside0.mk (Kd.R_elder' (by (with_reducible repeat (first | apply rrA | apply rrN | apply rrD)); exact HO148.out) (Kd.R_base ho0) hb); have n1_ := Aside0.mk (Kd.R_elder' (by (with_reducible repeat (first | apply rrA | apply rrN | apply rrD)); exact HO151.out) (Kd.R_base ho0) hb); have n2_ := Aside0.mk (Kd.R_elder' (by (with_reducible repeat (first | apply rrA | apply rrN | apply rrD)); exact HO156.out) (Kd.R_base ho0) hb); have n3_ := Aside0.mk (Kd.N_elder' (by (with_reducible repeat (first | apply Kd.N_alloc | apply Kd.N_drewN | apply Kd.N_drew)); exact HO162.out) (Kd.R_base ho0) hb); have n4_ := Aside0.mk (Kd.R_lower (Kd.R_new' (Kd.R_new' (Kd.R_new' ho0 (Kd.R_lt (by (with_reducible repeat (first | apply rrA | apply rrN | apply rrD)); exact HO148.out))) (Kd.R_lt (by (with_reducible repeat (first | apply rrA | apply rrN | apply rrD)); exact HO151.out))) (Kd.R_lt (by (with_reducible repeat (first | apply rrA | apply rrN | apply rrD)); exact HO156.out))) (zzS (by repeat (first | (with_reducible first | exact HB.out | apply zzA | apply zzN | apply zzD) | exact HB.out)))); have n5_ := Aside0.mk (zzT (by repeat (first | (with_reducible first | exact HB.out | apply zzA | apply zzN | apply zzD) | exact HB.out)) hb); clear HO148; clear HO151; clear HO156; clear HO162; clear HB; have HO148 := n0_; have HO151 := n1_; have HO156 := n2_; have HO162 := n3_; have HO166 := n4_; have HB := n5_; clear n0_ n1_ n2_ n3_ n4_ n5_; (try clear hb); (try clear hb2); (try clear hk); (try clear hi); (try clear ho0)))
  go_ret
  exact ⟨by first | rfl | (simp [errW_none, errW_some] <;> rfl) | (simp [*, errW_none, errW_some] <;> rfl), by repeat (first | (with_reducible first | exact HB.out | apply zzA | apply zzN | apply zzD) | exact HB.out)⟩

def thrumlaw14_live.f : Option Bool := some true
theorem thrumlaw14_live.calls  (r : Bool) (w : World) (h : thrumlaw14_live.f  = some r) :
    Calls Try.prog 61 #[] w fun e w' => e = .returned (.bool r) ∧ Below w.heap.size w w' := by
  refine thrumlaw14_liveP.calls r w (Eq.trans ?_ h)
  unfold thrumlaw14_liveP.f thrumlaw14_live.f
  rw [linear_Tell.of _ _ _ (by decide +kernel), show tellL [2, 3, 1] [10, 100] 0 = (321, 0) by decide +kernel]
  simp only [Option.bind_some]
  rw [linear_Grad.of _ _ _ (by decide +kernel), show gradL [1, 0] 0 ([(⟨[3], 1⟩ : S26)].map sm) = ([6, 2], 0) by decide +kernel]
  rfl


/-! ### thrumref14_Dim: function 68 -/
def thrumref14_Dim.f (a0 : Int) : Option (Int × Int) := if a0 < 1 then (some (0, 1)) else (if a0 > 16 then (some (0, 1)) else (some (wrap64 (a0 + 1), 0)))
set_option maxHeartbeats 8000000 in
set_option maxRecDepth 100000 in
theorem thrumref14_Dim.calls (a0 : Int) (r1 : Int) (r2 : Int) (w : World) (h : thrumref14_Dim.f a0 = some (r1, r2)) :
  Calls Try.prog 68 #[.int .i64 a0] w fun e w' => e = .returned (.tuple #[.int .i64 r1, .int .i64 r2]) ∧ Drawn0 w w' := by
 have H : (if a0 < 1 then (some (0, 1)) else (if a0 > 16 then (some (0, 1)) else (some (wrap64 (a0 + 1), 0)))) = some (r1, r2) := h
 clear h
 by_cases c2 : a0 < 1
 ·
  rw [if_pos c2] at H
  have c2b0 : decide (a0 < 1) = true := decide_eq_true c2
  clear c2
  simp only [Option.some.injEq, Prod.mk.injEq] at H
  obtain ⟨rfl, rfl⟩ := H
  go_enter Try.func68, Try.ntmps68
  go_wp2
  go_ret2
  exact ⟨by first | rfl | (simp; done) | (simp [*]; done), by repeat (first | exact ddR _ | apply ddS)⟩
 ·
  rw [if_neg c2] at H
  have c2b0 : decide (a0 < 1) = false := decide_eq_false c2
  clear c2
  by_cases c3 : a0 > 16
  ·
   rw [if_pos c3] at H
   have c3b0 : decide (16 < a0) = true := decide_eq_true c3
   clear c3
   simp only [Option.some.injEq, Prod.mk.injEq] at H
   obtain ⟨rfl, rfl⟩ := H
   go_enter Try.func68, Try.ntmps68
   go_wp2
   go_ret2
   exact ⟨by first | rfl | (simp; done) | (simp [*]; done), by repeat (first | exact ddR _ | apply ddS)⟩
  ·
   rw [if_neg c3] at H
   have c3b0 : decide (16 < a0) = false := decide_eq_false c3
   clear c3
   simp only [Option.some.injEq, Prod.mk.injEq] at H
   obtain ⟨rfl, rfl⟩ := H
   go_enter Try.func68, Try.ntmps68
   go_wp2
   go_ret2
   exact ⟨by first | rfl | (simp; done) | (simp [*]; done), by repeat (first | exact ddR _ | apply ddS)⟩

end Go.Proofs.Ytfbdalnjijdknaa.HL
