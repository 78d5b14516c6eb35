/- What Go functions do, each as a plain Lean function with the same answers, and the proof of it, in every world: printed by the session's driver over the kit's print, with texts by hand. -/
import Derived.Test.YtfbdalnjijdknaaHLx0
import Derived.Test.YtfbdalnjijdknaaHLx1
import Derived.Test.YtfbdalnjijdknaaHLx11
import Derived.Test.YtfbdalnjijdknaaHLx12
namespace Go.Proofs.Ytfbdalnjijdknaa.HL
open Go.RowKit Go.Proofs.YtfbdalnjijdknaaW.PrintWords Go.Proofs.YtfbdalnjijdknaaW.PrintLast Go.Proofs.YtfbdalnjijdknaaW.PrintMore
attribute [local go_sem] max2_int min2_int max_two min_two max_three min_three max_four min_four   -- for this text's walks alone
open Go.Proofs.Ytfbdalnjijdknaa.Sp
attribute [local go_sem] Go.Proofs.Ytfbdalnjijdknaa.Sp.u64_not
set_option linter.unusedVariables false
set_option linter.unusedSimpArgs false

/-! ### linear_Grad: function 71 -/
set_option maxHeartbeats 4000000 in
set_option maxRecDepth 100000 in
theorem linear_Grad_1.calls (n0 b1 b2 : Nat) (A0 : Option Addr) (c0 : Nat) (x : List Int) (y off a1 : Int) (W : World) (v : Value) (xs : List (List Int))
    (hb1 : W.heap[b1]? = some (.cells #[.int .i64 a1] 3 (0, 0))) (hb2 : W.heap[b2]? = some (.cells #[v] 30 (0, 0))) (hne : b1 ≠ b2) (h2 : n0 ≤ b2) (hn : n0 ≤ W.heap.size)
    (hS : Kd.S (Kd.slice 2 (Kd.int .i64)) 22 W n0 (fun _ => True) v xs) (hr : Kd.C (Kd.int .i64) W A0 x.length x) (hc : x.length ≤ c0) (hv : V64 x ∧ I64 off) (hl : xs.length ≤ 64) :
    Calls Try.prog 128 #[.agg #[.slice A0 x.length c0, .int .i64 y], .int .i64 off, .pointer (some ⟨b1, 0, none⟩), .pointer (some ⟨b2, 0, none⟩)] W fun ed W' => ed = .returned (.int .i64 (scaleV x off a1).2) ∧ Below n0 W W' ∧
      ∃ v', W'.heap[b1]? = some (.cells #[.int .i64 a1] 3 (0, 0)) ∧ W'.heap[b2]? = some (.cells #[v'] 30 (0, 0)) ∧ Kd.S (Kd.slice 2 (Kd.int .i64)) 22 W' n0 (fun _ => True) v' (xs ++ [(scaleV x off a1).1 ++ [off]]) := by
  have hu := Try.underlying26
  obtain ⟨⟨t, e⟩, ht⟩ : ∃ p, scaleV x off a1 = p := ⟨_, rfl⟩
  have hlt := scaleV_lle x off a1
  rw [ht] at hlt ⊢
  simp only [] at hlt ⊢
  have A4 : Aside0 (vec_Scale.f x off a1 = some (t, e)) := ⟨(vec_Scale.of _ _ _ hv).trans (congrArg some ht)⟩
  have LT := Aside0.mk hlt
  have LX := Aside0.mk hl
  have HR := Aside0.mk hr
  have HC := Aside0.mk hc
  have BK1 := Aside0.mk hb1
  have BK2 := Aside0.mk hb2
  have HNE := Aside0.mk hne
  have H2 := Aside0.mk h2
  have HN := Aside0.mk hn
  have HS := Aside0.mk hS
  have HB := Aside0.mk (Below.refl n0 W)
  have HBW0 := Aside0.mk (Below.refl W.heap.size W)
  obtain ⟨row, hrow⟩ : ∃ y_ : List Int, y_ = t ++ [off] := ⟨_, rfl⟩
  rw [← hrow]
  have NY := Aside0.mk hrow
  clear hrow
  clear hlt hl hr hc hb1 hb2 hne h2 hn hS hv ht
  go_enter Try.func128, Try.ntmps128
  go_wp2_with (first | ((with_reducible refine gate_dst (N := 4) rfl ?_); refine box_event ?hg (N := 4) ?hd (cs := #[.slice A0 x.length c0, .int .i64 y]) (t := 26) ?hr ?_; (case hd => rfl); (case hg => rfl); (case hr => first | (go_simp; done) | (go_simp; rfl)); intro gb hg w1 hbox hb; have n0 := Aside0.mk (below_then HB.out (Nat.le_trans HN.out HB.out.size) hb); have n1 := Aside0.mk (Kd.S_below HS.out hb); have n2 := Aside0.mk (blk_below BK1.out hb); have n3 := Aside0.mk (blk_below BK2.out hb); have BK := Aside0.mk hbox; have HBW := Aside0.mk (below_then HBW0.out (Nat.le_refl _) hb); clear HB HS BK1 BK2 hb hbox hg; have HB := n0; have HS := n1; have BK1 := n2; have BK2 := n3; clear n0 n1 n2 n3; have hx0 : w1.cell? ⟨gb, 0, none⟩ = some (.slice A0 x.length c0) := (blk_cell BK.out 0).trans rfl; have hx1 : w1.cell? ⟨gb, 1, none⟩ = some (.int .i64 y) := (blk_cell BK.out 1).trans rfl; have hx2 : w1.cell? ⟨b1, 0, none⟩ = some (.int .i64 a1) := (blk_cell BK1.out 0).trans rfl) | (go_at_call 75; (with_reducible refine (vec_Scale.calls A0 c0 x off a1 t e _ (Kd.C_below HR.out HBW.out) HC.out A4.out).mono ?_); rintro ed W2 ⟨v_, rfl, hR, hb⟩; have n4 := Aside0.mk (Kd.R_lower hR (Nat.le_trans HN.out HB.out.size)); have n0 := Aside0.mk (below_then HB.out (Nat.le_trans HN.out HB.out.size) hb); have n1 := Aside0.mk (Kd.S_elder' HS.out (Kd.R_base hR) hb); have n2 := Aside0.mk (blk_below BK1.out hb); have n3 := Aside0.mk (blk_below BK2.out hb); clear HB HS BK1 BK2 hb hR; have HO := n4; clear n4; have HB := n0; have HS := n1; have BK1 := n2; have BK2 := n3; clear n0 n1 n2 n3; have hx3 : W2.cell? ⟨b2, 0, none⟩ = some v := (blk_cell BK2.out 0).trans rfl; have hf3 := blk_frozen BK2.out 0))
  have n0 := Aside0.mk (below_drew HB.out)
  have n1 := Aside0.mk (Kd.S_drew HS.out)
  have n2 := Aside0.mk (blk_drew BK1.out)
  have n3 := Aside0.mk (blk_drew BK2.out)
  have nO := Aside0.mk (Kd.R_drew HO.out)
  refine start_ (n := 8) (S := fun w' => w'.cell? ⟨b2, 0, none⟩ = some v) (ds := [7]) #[false, false, false, false, false, false, false, false] (by kernel_rfl) rfl rfl ((blk_cell (blk_drew BK2.out) 0).trans rfl) (fun hHeld => ?_)
  clear HB HS HO BK1 BK2
  have HB := n0
  have HS := n1
  have BK1 := n2
  have BK2 := n3
  have HO := nO
  clear nO n0 n1 n2 n3
  generalize W2.drew = wd at HB HS HO BK1 BK2 hHeld ⊢
  refine pure_ (i := 1) (N := some 18) (v := ?_) (a' := ?_) #[false, true, false, false, false, false, false, false] rfl rfl (by kernel_rfl) (fun _ _ _ h => h) (Or.inl ⟨by rfl, ?_⟩) ?_ ?_
  rotate_left
  · intro w'
    go_simp
    with_reducible rfl
  rotate_left
  · simp only [Act.put, List.setIfInBounds_toArray, List.set_cons_zero, List.set_cons_succ, i64_w, i32_w]
    rfl
  refine pure_ (i := 2) (N := some 19) (v := ?_) (a' := ?_) #[false, true, true, false, false, false, false, false] rfl rfl (by kernel_rfl) (fun _ _ _ h => h) (Or.inl ⟨by rfl, ?_⟩) ?_ ?_
  rotate_left
  · intro w'
    go_simp
    with_reducible rfl
  rotate_left
  · simp only [Act.put, List.setIfInBounds_toArray, List.set_cons_zero, List.set_cons_succ, i64_w, i32_w]
    rfl
  refine take_ (i := 0) (N := some 17) (v := ?_) (a' := ?_) #[true, true, true, false, false, false, false, false] rfl rfl (by kernel_rfl) (fun _ _ _ h => h) (Or.inl ⟨by rfl, ?_⟩) hHeld ?_ ?_
  rotate_left
  · intro w' s0
    go_simp
    with_reducible rfl
  rotate_left
  · simp only [Act.put, List.setIfInBounds_toArray, List.set_cons_zero, List.set_cons_succ, i64_w, i32_w]
    rfl
  refine one_ (i := 3) (N := some 20) #[true, true, true, true, false, false, false, false] rfl rfl (by kernel_rfl) (by decide) (fun K hK => ?_)
  refine value_ (w1 := ?_) (v := ?_) (by rfl) rfl ?_ ?_
  rotate_left 2
  · go_simp
    constructor
    · rfl
    · rfl
  refine hK.out _ _ ((World.cell?_alloc_lt _ _ _ (World.block_lt_of_cell? _ _ (hHeld))).trans (hHeld)) (fun hHeld => ?_)
  clear hK K
  refine norm_ (a' := ?_) ?_ ?_
  rotate_left
  · show Act.put _ (some 20) _ = _
    simp only [Act.put, List.setIfInBounds_toArray, List.set_cons_zero, List.set_cons_succ, i64_w, i32_w]
    rfl
  refine one_ (i := 4) (N := some 21) #[true, true, true, true, true, false, false, false] rfl rfl (by kernel_rfl) (by decide) (fun K hK => ?_)
  refine Kd.R_append_step (Kd.int .i64) (w0 := W) n0 (by rfl) (.tmp 18) (.tmp 20) 22 2 (.int .i64 0) 8 rfl Try.underlying22 info2 rfl (by decide) (by omega) v_ t off [.int .i64 off] (fun _ => True) (fun _ => False) rfl rfl ?aP (fun _ hk => hk.elim) ?aF ?aO ?aB ?aS ?aL ?_
  (case aP => exact rfl)
  (case aB => exact HB.out)
  (case aF => exact (fun _ _ => trivial))
  (case aO => exact HO.out)
  (case aS => exact Nat.le_trans HN.out HB.out.size)
  (case aL => have := LT.out; omega)
  intro v2 w3 ho hb hg hat
  rw [← NY.out] at ho
  have n0 := Aside0.mk hb
  have n1 := Aside0.mk (Kd.S_after (ok := (fun _ => True)) HS.out hg hat)
  have n2 := Aside0.mk (blk_grown BK1.out hg (Kd.R_ne HO.out BK1.out (by decide)))
  have n3 := Aside0.mk (blk_grown BK2.out hg (Kd.R_ne HO.out BK2.out (by decide)))
  clear HB HS BK1 BK2 HO
  have HB := n0
  have HS := n1
  have BK1 := n2
  have BK2 := n3
  clear n0 n1 n2 n3
  have HO := Aside0.mk ho
  clear ho hb hg hat
  obtain ⟨Ao, co, eo⟩ := Kd.R_slice HO.out
  subst eo
  refine hK.out _ _ ((blk_cell BK2.out 0).trans rfl) (fun hHeld => ?_)
  clear hK K
  refine norm_ (a' := ?_) ?_ ?_
  rotate_left
  · show Act.put _ (some 21) _ = _
    simp only [Act.put, List.setIfInBounds_toArray, List.set_cons_zero, List.set_cons_succ, i64_w, i32_w]
    rfl
  refine one_ (i := 5) (N := some 22) #[true, true, true, true, true, true, false, false] rfl rfl (by kernel_rfl) (by decide) (fun K hK => ?_)
  refine value_ (w1 := ?_) (v := ?_) (by rfl) rfl ?_ ?_
  rotate_left 2
  · go_simp
    constructor
    · rfl
    · rfl
  refine hK.out _ _ ((World.cell?_alloc_lt _ _ _ (World.block_lt_of_cell? _ _ (hHeld))).trans (hHeld)) (fun hHeld => ?_)
  clear hK K
  refine norm_ (a' := ?_) ?_ ?_
  rotate_left
  · show Act.put _ (some 22) _ = _
    simp only [Act.put, List.setIfInBounds_toArray, List.set_cons_zero, List.set_cons_succ, i64_w, i32_w]
    rfl
  refine one_ (i := 6) (N := some 23) #[true, true, true, true, true, true, true, false] rfl rfl (by kernel_rfl) (by decide) (fun K hK => ?_)
  refine Kd.S_append_step (Kd.slice 2 (Kd.int .i64)) (w0 := W) n0 (by rfl) (.tmp 17) (.tmp 22) 30 22 (.slice none 0 0) 24 rfl Try.underlying30 info22 rfl (by decide) (by omega) v xs row [.slice Ao row.length co] (fun _ => True) (fun k_ => some k_ = (.slice Ao row.length co : Value).ownBlock) rfl rfl ?aP (fun k_ hk_ => ((Kd.R_mono (ok' := fun k_ => ((fun _ => True)) k_ ∧ some k_ ≠ (v : Value).ownBlock) (Kd.R_apart' (HO.out) (Kd.S_typed HS.out) (by decide)) (fun k_ hk => ⟨trivial, hk.2⟩))).1 k_ hk_.symm) ?aF ?aO ?aB ?aS ?aL ?_
  (case aP => exact Kd.M_row (Kd.R_mono (Kd.R_tight rfl (Kd.R_mono (ok' := fun k_ => ((fun _ => True)) k_ ∧ some k_ ≠ (v : Value).ownBlock) (Kd.R_apart' (HO.out) (Kd.S_typed HS.out) (by decide)) (fun k_ hk => ⟨trivial, hk.2⟩))) (fun _ h_ => h_)))
  (case aB => exact HB.out)
  (case aF => exact (fun _ _ => trivial))
  (case aO => exact Kd.S_mono HS.out (fun k_ hk => ⟨trivial, fun e_ => hk.2 e_⟩))
  (case aS => exact Nat.le_trans HN.out HB.out.size)
  (case aL => have := LX.out; omega)
  intro v3 w4 ho hb hg hat
  have n0 := Aside0.mk hb
  have n1 := Aside0.mk ho
  have n2 := Aside0.mk (blk_grown BK1.out hg (Kd.S_ne HS.out BK1.out (by decide)))
  have n3 := Aside0.mk (blk_grown BK2.out hg (Kd.S_ne HS.out BK2.out (by decide)))
  clear HB HS BK1 BK2 HO
  have HB := n0
  have HS := n1
  have BK1 := n2
  have BK2 := n3
  clear n0 n1 n2 n3
  clear ho hb hg hat
  obtain ⟨As, cs, es⟩ := Kd.S_slice HS.out
  obtain ⟨nS, hnS⟩ : ∃ n_ : Nat, n_ = (xs ++ [row]).length := ⟨_, rfl⟩
  rw [← hnS] at es
  subst es
  clear hnS
  have hc4 : w4.cell? ⟨b2, 0, none⟩ = some v := (blk_cell BK2.out 0).trans rfl
  have hf4 : w4.frozen? ⟨b2, 0, none⟩ = false := blk_frozen BK2.out 0
  refine hK.out _ _ ((blk_cell BK2.out 0).trans rfl) (fun hHeld => ?_)
  clear hK K
  refine norm_ (a' := ?_) ?_ ?_
  rotate_left
  · show Act.put _ (some 23) _ = _
    simp only [Act.put, List.setIfInBounds_toArray, List.set_cons_zero, List.set_cons_succ, i64_w, i32_w]
    rfl
  refine last_ (i := 7) (N := none) #[true, true, true, true, true, true, true, true] rfl rfl (by kernel_rfl) (by decide) (fun K hK => ?_)
  refine skip_ (w1 := ?_) (by rfl) rfl ?_ ?_
  rotate_left
  · go_simp
    rfl
  refine hK.out _ _ ?_
  clear hK K
  refine done_ (by kernel_rfl) ?_
  go_wp2
  go_ret
  refine ⟨rfl, HB.out.setCell H2.out _, _, (Below.heap_setCell _ ⟨b2, 0, none⟩ _ b1 HNE.out).trans BK1.out, blk_put BK2.out 0 _ rfl, Kd.S_mono (Kd.S_far (p := ⟨b2, 0, none⟩) (Kd.S_types HS.out BK2.out (by decide)) (fun _ hk => hk.2) _) (fun _ h => h.1)⟩
def gradStp (f : Int) (s : List (List Int)) (x : S26) (o : Int) : List (List Int) × Int := (s ++ [(scaleV x.f0 o f).1 ++ [o]], (scaleV x.f0 o f).2)
def gradI (n0 b1 b2 : Nat) (f : Int) (k : Nat) (W : World) (s : List (List Int)) : Prop :=
  s.length = k ∧ n0 ≤ W.heap.size ∧ ∃ v, W.heap[b1]? = some (.cells #[.int .i64 f] 3 (0, 0)) ∧ W.heap[b2]? = some (.cells #[v] 30 (0, 0)) ∧ Kd.S (Kd.slice 2 (Kd.int .i64)) 22 W n0 (fun _ => True) v s
theorem gradI.keep {n0 b1 b2 : Nat} {f : Int} (k : Nat) (W W' : World) (s : List (List Int)) (h : gradI n0 b1 b2 f k W s) (hb : Below W.heap.size W W') : gradI n0 b1 b2 f k W' s := by
  obtain ⟨h1, h2, v, h3, h4, h5⟩ := h
  exact ⟨h1, Nat.le_trans h2 hb.size, v, blk_below h3 hb, blk_below h4 hb, Kd.S_below h5 hb⟩
theorem walk_rows (w : List Int) (f : Int) : ∀ (l : List S26) (acc : List (List Int)),
    (walkGo (fun x : S26 => offL w x.f0 x.f1 f) (gradStp f) l acc).2 = (rowsFrom (fun s : S26 => bendL w f (sm s)) l acc).2 ∧ ((rowsFrom (fun s : S26 => bendL w f (sm s)) l acc).2 = 0 → (walkGo (fun x : S26 => offL w x.f0 x.f1 f) (gradStp f) l acc).1 = (rowsFrom (fun s : S26 => bendL w f (sm s)) l acc).1)
  | [], acc => by rw [rowsFrom_nil]; exact ⟨rfl, fun _ => rfl⟩
  | x :: l, acc => by
    have hbd : bendL w f (sm x) = if (offL w x.f0 x.f1 f).2 = 0 then (if (scaleV x.f0 (offL w x.f0 x.f1 f).1 f).2 = 0 then ((scaleV x.f0 (offL w x.f0 x.f1 f).1 f).1 ++ [(offL w x.f0 x.f1 f).1], 0) else ([], (scaleV x.f0 (offL w x.f0 x.f1 f).1 f).2)) else ([], (offL w x.f0 x.f1 f).2) := rfl
    simp only [walkGo]
    by_cases c : (offL w x.f0 x.f1 f).2 = 0
    · rw [if_pos c] at hbd
      rw [if_pos c]
      have hst : (gradStp f acc x (offL w x.f0 x.f1 f).1).2 = (scaleV x.f0 (offL w x.f0 x.f1 f).1 f).2 := rfl
      by_cases c2 : (scaleV x.f0 (offL w x.f0 x.f1 f).1 f).2 = 0
      · rw [if_pos c2] at hbd
        rw [if_pos (hst.trans c2), rowsFrom_ok (g := fun s : S26 => bendL w f (sm s)) (by simp only [hbd])]
        simp only [hbd]
        exact walk_rows w f l _
      · rw [if_neg c2] at hbd
        rw [if_neg (fun h => c2 (hst.symm.trans h)), rowsFrom_bad (g := fun s : S26 => bendL w f (sm s)) (by simp only [hbd]; exact c2)]
        simp only [hbd]
        exact ⟨rfl, fun h => absurd h c2⟩
    · rw [if_neg c] at hbd
      rw [if_neg c, rowsFrom_bad (g := fun s : S26 => bendL w f (sm s)) (by simp only [hbd]; exact c)]
      simp only [hbd]
      exact ⟨trivial, fun h => absurd h c⟩
theorem rowsG_sm (w : List Int) (f : Int) : ∀ l : List S26, rowsL (bendL w f) (l.map sm) = rowsL (fun s => bendL w f (sm s)) l
  | [] => rfl
  | x :: l => by simp only [List.map_cons, rowsL, rowsG_sm w f l]
theorem gradL_walk (w : List Int) (f : Int) (l : List S26) : gradL w f (l.map sm) = if (walkF w f l (gradStp f) []).2 = 0 then meanL l.length (walkF w f l (gradStp f) []).1 else ([], (walkF w f l (gradStp f) []).2) := by
  unfold gradL walkF
  by_cases c : checkL (wrap64 ((w.length : Int) - 1)) w (l.map sm) = 0
  · rw [if_pos c, if_pos c, List.length_map, rowsG_sm]
    obtain ⟨h1, h2⟩ := walk_rows w f l []
    rw [rowsFrom_start] at h1 h2
    simp only [] at h1 h2
    rw [h1]
    by_cases d : (rowsL (fun s : S26 => bendL w f (sm s)) l).2 = 0
    · rw [if_pos d, if_pos d, h2 d]
    · rw [if_neg d, if_neg d]
  · rw [if_neg c, if_neg c, if_neg c]
theorem rowsL_few {α : Type} {g : α → List Int × Int} (hg : ∀ x, V64 (g x).1 ∧ (g x).1.length ≤ 5000) : ∀ l : List α, (∀ v ∈ (rowsL g l).1, V64 v) ∧ fewV (rowsL g l).1 = true
  | [] => ⟨fun v hv => by simp [rowsL] at hv, rfl⟩
  | x :: l => by
    obtain ⟨h1, h2⟩ := rowsL_few hg l
    simp only [rowsL]
    split
    · split
      · refine ⟨fun v hv => ?_, ?_⟩
        · rcases List.mem_cons.1 hv with e | e
          · rw [e]; exact (hg x).1
          · exact h1 v e
        · simp only [fewV, List.all_cons, Bool.and_eq_true, decide_eq_true_eq] at h2 ⊢; exact ⟨(hg x).2, h2⟩
      · exact ⟨fun v hv => (by cases hv), rfl⟩
    · exact ⟨fun v hv => (by cases hv), rfl⟩
theorem bendL_lle (w : List Int) (f : Int) (s : List Int × Int) : (bendL w f s).1.length ≤ 5000 := by
  unfold bendL
  split
  · split
    · have := scaleV_lle s.1 (offL w s.1 s.2 f).1 f; simp; omega
    · simp
  · simp
theorem walkF_few (w : List Int) (f : Int) (l : List S26) (h : (walkF w f l (gradStp f) []).2 = 0) : (∀ v ∈ (walkF w f l (gradStp f) []).1, V64 v) ∧ fewV (walkF w f l (gradStp f) []).1 = true ∧ l.length ≤ 64 := by
  unfold walkF at h ⊢
  by_cases c : checkL (wrap64 ((w.length : Int) - 1)) w (l.map sm) = 0
  · rw [if_pos c] at h ⊢
    have hl := (checkL_len c).2.2.2.2.2
    rw [List.length_map] at hl
    obtain ⟨h1, h2⟩ := walk_rows w f l []
    rw [rowsFrom_start] at h1 h2
    simp only [] at h1 h2
    rw [h1] at h
    rw [h2 h]
    obtain ⟨k1, k2⟩ := rowsL_few (g := fun s : S26 => bendL w f (sm s)) (fun x => ⟨bendL_v64 _ _ _, bendL_lle _ _ _⟩) l
    exact ⟨k1, k2, hl⟩
  · rw [if_neg c] at h; exact absurd h c
def linear_Grad.f (l0 : List Int) (a1 : Int) (l2 : List S26) : Option (List Int × Int) := if V64 l0 ∧ ∀ s ∈ l2, Sm64 s then some (gradL l0 a1 (l2.map sm)) else none
theorem linear_Grad.of (l0 : List Int) (a1 : Int) (l2 : List S26)  (h_ : V64 l0 ∧ ∀ s ∈ l2, Sm64 s) : linear_Grad.f l0 a1 l2 = some (gradL l0 a1 (l2.map sm)) := if_pos h_
set_option maxHeartbeats 4000000 in
set_option maxRecDepth 100000 in
theorem linear_Grad.calls (A0 : Option Addr) (c0 : Nat) (l0 : List Int) (a1 : Int) (A2 : Option Addr) (c2 : Nat) (l2 : List (S26)) (r1 : List Int) (r2 : Int) (w : World) (hr0 : Kd.C (Kd.int .i64) w A0 l0.length l0) (hc0 : l0.length ≤ c0) (hr2 : Kd.C k26 w A2 l2.length l2) (hc2 : l2.length ≤ c2) (h : linear_Grad.f l0 a1 l2 = some (r1, r2)) :
    Calls Try.prog 71 #[.slice A0 l0.length c0, .int .i64 a1, .slice A2 l2.length c2] w fun e w' => ∃ v0_ : Value, e = .returned (.tuple #[v0_, .int .i64 r2]) ∧ Kd.R (Kd.int .i64) 2 w' w.heap.size (fun _ => True) v0_ r1 ∧ Below w.heap.size w w' := by
  unfold linear_Grad.f at h
  split at h
  case isFalse => cases h
  rename_i hv
  have h := Option.some.inj h
  rw [gradL_walk] at h
  obtain ⟨⟨sf, ef⟩, hw⟩ : ∃ p, walkF l0 a1 l2 (gradStp a1) [] = p := ⟨_, rfl⟩
  have hfew := walkF_few l0 a1 l2
  rw [hw] at h hfew
  simp only [] at h hfew
  have HF := Aside0.mk hfew
  have HW := Aside0.mk hw
  have HR0 := Aside0.mk hr0
  have HC0 := Aside0.mk hc0
  have HR2 := Aside0.mk hr2
  have HC2 := Aside0.mk hc2
  have HV := Aside0.mk hv
  have HB := Aside0.mk (Below.refl w.heap.size w)
  have HG := Aside0.mk h
  have hu := Try.underlying30
  have hu3 := Try.underlying3
  clear hfew hw hr0 hc0 hr2 hc2 hv h
  by_cases hef : ef = 0
  · subst hef
    have hG := HG.out
    rw [if_pos rfl] at hG
    have AM : Aside0 (linear_Mean.f (l2.length : Int) sf = some (r1, r2)) := ⟨(linear_Mean.of _ _ ⟨by have := (HF.out rfl).2.2; unfold I64; omega, (HF.out rfl).1, (HF.out rfl).2.1⟩).trans (congrArg some hG)⟩
    clear hG HG HF
    go_enter Try.func71, Try.ntmps71
    go_wp2_with (first | ((with_reducible refine gate_dst (N := 4) rfl ?_); refine box_event ?hg (N := 4) ?hd (cs := #[.int .i64 a1]) (t := 3) ?hr ?_; (case hd => rfl); (case hg => rfl); (case hr => first | (go_simp; done) | (go_simp; rfl)); intro b1 hg w1 hbox hb; have n0 := Aside0.mk (below_then HB.out (Nat.le_refl _) hb); have BK1 := Aside0.mk hbox; have G1 : Aside0 (w.heap.size ≤ b1) := ⟨by rw [hg]; exact Nat.le_refl _⟩; have L1 := Aside0.mk (blk_lt hbox); clear HB hbox hb hg; have HB := n0; clear n0; have hz1 : w1.cell? ⟨b1, 0, none⟩ = some (.int .i64 a1) := (blk_cell BK1.out 0).trans rfl) | ((with_reducible refine gate_dst (N := 8) rfl ?_); refine box_event ?hg (N := 8) ?hd (cs := #[.slice none 0 0]) (t := 30) ?hr ?_; (case hd => rfl); (case hg => rfl); (case hr => first | (go_simp; done) | (go_simp; rfl)); intro b2 hg w2 hbox hb; have n0 := Aside0.mk (below_then HB.out HB.out.size hb); have BK2 := Aside0.mk hbox; have n1 := Aside0.mk (blk_below BK1.out hb); have G2 : Aside0 (w.heap.size ≤ b2) := ⟨by rw [hg]; exact HB.out.size⟩; have HNE : Aside0 (b1 ≠ b2) := ⟨by have := L1.out; omega⟩; clear HB BK1 hbox hb hg; have HB := n0; have BK1 := n1; clear n0 n1; have hz1 : w2.cell? ⟨b1, 0, none⟩ = some (.int .i64 a1) := (blk_cell BK1.out 0).trans rfl) | (go_at_call 127; (with_reducible refine (linear_walk.calls (σ := List (List Int)) 128 #[.pointer (some ⟨b1, 0, none⟩), .pointer (some ⟨b2, 0, none⟩)] (gradI w.heap.size b1 b2 a1) (gradStp a1) A0 c0 l0 a1 A2 c2 l2 w _ [] sf 0 ?ent HR0.out HC0.out HR2.out HC2.out HV.out HB.out ?I0 ?st ?K HW.out).mono ?_); (case ent => exact enters_of Try.func128 rfl rfl); (case I0 => exact ⟨rfl, HB.out.size, _, BK1.out, BK2.out, Kd.S_nil _ _ _ _ _⟩); (case st => exact gradI.keep); (case K => intro k W s x A c o hk hl hx ho hB hI hC hc; obtain ⟨q1, q2, v, q3, q4, q5⟩ := hI; refine (linear_Grad_1.calls w.heap.size b1 b2 A c x.f0 x.f1 o a1 W v s q3 q4 HNE.out G2.out q2 q5 hC hc ⟨hx.1, ho⟩ (by omega)).mono ?_; rintro ed W' ⟨rfl, hb, v', k1, k2, k3⟩; exact ⟨rfl, ⟨by simp [gradStp, q1], Nat.le_trans q2 hb.size, v', k1, k2, k3⟩, hB.trans hb⟩); rintro ed W3 ⟨rfl, ⟨k, hI⟩, hb⟩; obtain ⟨-, -, vS, k1, k2, k3⟩ := hI; have HS := Aside0.mk k3; clear HB; have HB := Aside0.mk hb; obtain ⟨As, cs, es⟩ := Kd.S_slice HS.out; subst es; have hzS : W3.cell? ⟨b2, 0, none⟩ = some (.slice As sf.length cs) := (blk_cell k2 0).trans rfl; clear k1 k2 k3 hb) | (go_at_call 65; (with_reducible refine (linear_Mean.calls (l2.length : Int) As cs sf r1 r2 _ (Kd.S_reads' HS.out).2.2 (Kd.S_reads' HS.out).2.1 AM.out).mono ?_); rintro ed W4 ⟨v_, rfl, hR, hb⟩; have HO := Aside0.mk (Kd.R_lower hR HB.out.size); have n0 := Aside0.mk (below_then HB.out HB.out.size hb); clear HB hR hb; have HB := n0; clear n0))
    go_ret2
    exact ⟨_, rfl, HO.out, HB.out⟩
  · have hG := HG.out
    rw [if_neg hef] at hG
    obtain ⟨h1, h2⟩ : [] = r1 ∧ ef = r2 := by cases hG; exact ⟨rfl, rfl⟩
    have he0 : (ef == 0) = false := beq_eq_false_iff_ne.2 hef
    have he1 : (ef != 0) = true := bne_iff_ne.2 hef
    subst h1
    subst h2
    clear hG HG HF hef
    go_enter Try.func71, Try.ntmps71
    go_wp2_with (first | ((with_reducible refine gate_dst (N := 4) rfl ?_); refine box_event ?hg (N := 4) ?hd (cs := #[.int .i64 a1]) (t := 3) ?hr ?_; (case hd => rfl); (case hg => rfl); (case hr => first | (go_simp; done) | (go_simp; rfl)); intro b1 hg w1 hbox hb; have n0 := Aside0.mk (below_then HB.out (Nat.le_refl _) hb); have BK1 := Aside0.mk hbox; have G1 : Aside0 (w.heap.size ≤ b1) := ⟨by rw [hg]; exact Nat.le_refl _⟩; have L1 := Aside0.mk (blk_lt hbox); clear HB hbox hb hg; have HB := n0; clear n0; have hz1 : w1.cell? ⟨b1, 0, none⟩ = some (.int .i64 a1) := (blk_cell BK1.out 0).trans rfl) | ((with_reducible refine gate_dst (N := 8) rfl ?_); refine box_event ?hg (N := 8) ?hd (cs := #[.slice none 0 0]) (t := 30) ?hr ?_; (case hd => rfl); (case hg => rfl); (case hr => first | (go_simp; done) | (go_simp; rfl)); intro b2 hg w2 hbox hb; have n0 := Aside0.mk (below_then HB.out HB.out.size hb); have BK2 := Aside0.mk hbox; have n1 := Aside0.mk (blk_below BK1.out hb); have G2 : Aside0 (w.heap.size ≤ b2) := ⟨by rw [hg]; exact HB.out.size⟩; have HNE : Aside0 (b1 ≠ b2) := ⟨by have := L1.out; omega⟩; clear HB BK1 hbox hb hg; have HB := n0; have BK1 := n1; clear n0 n1; have hz1 : w2.cell? ⟨b1, 0, none⟩ = some (.int .i64 a1) := (blk_cell BK1.out 0).trans rfl) | (go_at_call 127; (with_reducible refine (linear_walk.calls (σ := List (List Int)) 128 #[.pointer (some ⟨b1, 0, none⟩), .pointer (some ⟨b2, 0, none⟩)] (gradI w.heap.size b1 b2 a1) (gradStp a1) A0 c0 l0 a1 A2 c2 l2 w _ [] sf ef ?ent HR0.out HC0.out HR2.out HC2.out HV.out HB.out ?I0 ?st ?K HW.out).mono ?_); (case ent => exact enters_of Try.func128 rfl rfl); (case I0 => exact ⟨rfl, HB.out.size, _, BK1.out, BK2.out, Kd.S_nil _ _ _ _ _⟩); (case st => exact gradI.keep); (case K => intro k W s x A c o hk hl hx ho hB hI hC hc; obtain ⟨q1, q2, v, q3, q4, q5⟩ := hI; refine (linear_Grad_1.calls w.heap.size b1 b2 A c x.f0 x.f1 o a1 W v s q3 q4 HNE.out G2.out q2 q5 hC hc ⟨hx.1, ho⟩ (by omega)).mono ?_; rintro ed W' ⟨rfl, hb, v', k1, k2, k3⟩; exact ⟨rfl, ⟨by simp [gradStp, q1], Nat.le_trans q2 hb.size, v', k1, k2, k3⟩, hB.trans hb⟩); rintro ed W3 ⟨rfl, ⟨k, hI⟩, hb⟩; obtain ⟨-, -, vS, k1, k2, k3⟩ := hI; have HS := Aside0.mk k3; clear HB; have HB := Aside0.mk hb; obtain ⟨As, cs, es⟩ := Kd.S_slice HS.out; subst es; have hzS : W3.cell? ⟨b2, 0, none⟩ = some (.slice As sf.length cs) := (blk_cell k2 0).trans rfl; clear k1 k2 k3 hb))
    go_ret2
    exact ⟨_, rfl, Kd.R_nil _ _ _ _ _, HB.out⟩


end Go.Proofs.Ytfbdalnjijdknaa.HL
