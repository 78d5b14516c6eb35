/- What Go functions do, each as a plain Lean function with the same answers, and the proof of it, in every world: printed by the session's driver over the kit's print, with texts by hand. -/
import Derived.Test.YtalamamjodihaaaHPx0
import Derived.Test.YtalamamjodihaaaHPx1
import Derived.Test.YtalamamjodihaaaHPx2
import Derived.Test.YtalamamjodihaaaHPx3
namespace Go.Proofs.Ytalamamjodihaaa.HP
open Go.RowKit Go.Proofs.YtalamamjodihaaaW.PrintWords Go.Proofs.YtalamamjodihaaaW.PrintLast Go.Proofs.YtalamamjodihaaaW.PrintMore
attribute [local go_sem] max2_int min2_int max_two min_two max_three min_three max_four min_four   -- for this text's walks alone
open Go.Proofs.Ytalamamjodihaaa.Sp
attribute [local go_sem] Go.Proofs.Ytalamamjodihaaa.Sp.u64_not
set_option linter.unusedVariables false
set_option linter.unusedSimpArgs false

/-! ### vec_Scale: function 60 -/
set_option maxHeartbeats 2000000 in
set_option maxRecDepth 100000 in
theorem vec_Scale_1.calls (b1 b2 b3 : Nat) (A0 : Option Addr) (c0 : Nat) (l0 : List Int) (a1 : Int) (a2 : Int) (i : Nat) (W : World) (x e : Int)
    (hb1 : W.cell? ⟨b1, 0, none⟩ = some (.slice A0 l0.length c0)) (hb2 : W.cell? ⟨b2, 0, none⟩ = some (.int .i64 a1)) (hb3 : W.cell? ⟨b3, 0, none⟩ = some (.int .i64 a2))
    (hr0 : Kd.C (Kd.int .i64) W A0 l0.length l0) (h0 : i < l0.length)
    (h : fix_Mul.f (rd l0 i) a1 a2 = some (x, e)) :
    Calls Try.prog 75 #[.int .i64 i, .pointer (some ⟨b1, 0, none⟩), .pointer (some ⟨b2, 0, none⟩), .pointer (some ⟨b3, 0, none⟩)] W fun ed W' => ed = .returned (.tuple #[.int .i64 x, .int .i64 e]) ∧ Below W.heap.size W W' := by
  obtain ⟨ad0, rfl, hc0⟩ := Kd.at_int hr0 (i : Int) (by omega) (by omega)
  simp only [Int.toNat_natCast] at hc0
  have HC := Aside0.mk h
  clear hr0 h
  go_enter Try.func75, Try.ntmps75
  go_wp2
  go_region_held3 (fun w' => w'.cell? ⟨b1, 0, none⟩ = some (.slice (some ad0) l0.length c0) ∧ w'.cell? ⟨b2, 0, none⟩ = some (.int .i64 a1) ∧ w'.cell? ⟨b3, 0, none⟩ = some (.int .i64 a2) ∧ w'.cell? (ad0.add i) = some (.int .i64 (rd l0 i)))
    (first | go_keep | (go_split_ands; exact ⟨pw_cell_below hb (by assumption), pw_cell_below hb (by assumption), pw_cell_below hb (by assumption), pw_cell_below hb (by assumption)⟩))
    ((go_at_call 54; (with_reducible refine (fix_Mul.calls (rd l0 i) a1 a2 x e _ HC.out).mono ?_); rintro ed W2 ⟨rfl, hb⟩))
  go_wp2
  go_ret2
  exact ⟨rfl, below_then (below_drew (Below.refl _ _)) (Nat.le_refl _) hb⟩
def vec_Scale.f (l0 : List Int) (a1 a2 : Int) : Option (List Int × Int) := if V64 l0 ∧ I64 a1 then some (scaleV l0 a1 a2) else none
theorem vec_Scale.of (l0 : List Int) (a1 a2 : Int)  (h_ : V64 l0 ∧ I64 a1) : vec_Scale.f l0 a1 a2 = some (scaleV l0 a1 a2) := if_pos h_
set_option maxHeartbeats 2000000 in
set_option maxRecDepth 100000 in
theorem vec_Scale.calls (A0 : Option Addr) (c0 : Nat) (l0 : List Int) (a1 : Int) (a2 : Int) (r1 : List Int) (r2 : Int) (w : World) (hr0 : Kd.C (Kd.int .i64) w A0 l0.length l0) (hc0 : l0.length ≤ c0) (h : vec_Scale.f l0 a1 a2 = some (r1, r2)) :
    Calls Try.prog 60 #[.slice A0 l0.length c0, .int .i64 a1, .int .i64 a2] w fun e w' => ∃ v0_ : Value, e = .returned (.tuple #[v0_, .int .i64 r2]) ∧ Kd.R (Kd.int .i64) 2 w' w.heap.size (fun _ => True) v0_ r1 ∧ Below w.heap.size w w' := by
  unfold vec_Scale.f at h
  split at h
  case isFalse => cases h
  rename_i hv
  have h := Option.some.inj h
  unfold scaleV at h
  have HR0 := Aside0.mk hr0
  have HC0 := Aside0.mk hc0
  clear hr0 hc0
  have HV := Aside0.mk hv
  clear hv
  try have hu22 := Try.underlying22
  try have hu2 := Try.underlying2
  try have hu3 := Try.underlying3
  have HP0 : Aside0 (vec_Check.f l0 = some (checkE l0)) := ⟨vec_Check.of l0⟩
  by_cases hp0 : checkE l0 = 0
  · rw [if_pos hp0] at h
    rw [hp0] at HP0
    have HP1 : Aside0 (vec_behind.f a2 = some (fracE a2)) := ⟨vec_behind.of a2⟩
    by_cases hp1 : fracE a2 = 0
    · rw [if_pos hp1] at h
      rw [hp1] at HP1
      have HN : Aside0 (l0.length ≤ 4096) := ⟨checkE_le hp0⟩
      have HH := Aside0.mk h
      clear h hp0 hp1
      have HX0 : Aside0 ((((w.alloc (Obj.cells #[Value.slice A0 l0.length c0] 22)).alloc (Obj.cells #[Value.int .i64 a1] 2)).alloc (Obj.cells #[Value.int .i64 a2] 3)).cell? ⟨w.heap.size, 0, none⟩ = some (.slice A0 l0.length c0)) := ⟨by simp [go_sem]⟩
      have HX1 : Aside0 ((((w.alloc (Obj.cells #[Value.slice A0 l0.length c0] 22)).alloc (Obj.cells #[Value.int .i64 a1] 2)).alloc (Obj.cells #[Value.int .i64 a2] 3)).cell? ⟨w.heap.size + 1, 0, none⟩ = some (.int .i64 a1)) := ⟨by simp [go_sem]⟩
      have HX2 : Aside0 ((((w.alloc (Obj.cells #[Value.slice A0 l0.length c0] 22)).alloc (Obj.cells #[Value.int .i64 a1] 2)).alloc (Obj.cells #[Value.int .i64 a2] 3)).cell? ⟨w.heap.size + 2, 0, none⟩ = some (.int .i64 a2)) := ⟨by simp [go_sem]⟩
      have HB : Aside0 (Below w.heap.size w (((w.alloc (Obj.cells #[Value.slice A0 l0.length c0] 22)).alloc (Obj.cells #[Value.int .i64 a1] 2)).alloc (Obj.cells #[Value.int .i64 a2] 3))) := ⟨zzA (zzA (zzA (Below.refl _ _) _) _) _⟩
      go_enter Try.func60, Try.ntmps60
      go_wp2_with (first | (go_at_call 42; (with_reducible refine (vec_Check.calls A0 c0 l0 0 _ (Kd.C_below HR0.out HB.out) HC0.out HP0.out).mono ?_); rintro ed W1 ⟨rfl, hd⟩; have hb := hd.below; clear hd; have HB := Aside0.mk (below_then HB.out HB.out.size hb); have HX0 := Aside0.mk (pw_cell_below hb HX0.out); have HX1 := Aside0.mk (pw_cell_below hb HX1.out); have HX2 := Aside0.mk (pw_cell_below hb HX2.out); have hx0 := HX0.out; have hx1 := HX1.out; have hx2 := HX2.out; clear hb) | (go_at_call 51; (with_reducible refine (vec_behind.calls a2 0 _ HP1.out).mono ?_); rintro ed W1 ⟨rfl, hd⟩; have hb := hd; clear hd; have HB := Aside0.mk (below_then HB.out HB.out.size hb); have HX0 := Aside0.mk (pw_cell_below hb HX0.out); have HX1 := Aside0.mk (pw_cell_below hb HX1.out); have HX2 := Aside0.mk (pw_cell_below hb HX2.out); have hx0 := HX0.out; have hx1 := HX1.out; have hx2 := HX2.out; clear hb) | (go_at_call 74; (with_reducible refine (vec_each.calls 75 _ (fun i : Nat => fix_Mul.f (rd l0 i) a1 a2) l0.length (by have := HN.out; omega) _ r1 r2 ?ent ?tells ?go).mono ?_); (case ent => exact enters_of Try.func75 rfl rfl); (case tells => intro i W x e hi hb hg; refine (vec_Scale_1.calls (w.heap.size) (w.heap.size + 1) (w.heap.size + 2) A0 c0 l0 a1 a2 i W x e (pw_cell_below hb HX0.out) (pw_cell_below hb HX1.out) (pw_cell_below hb HX2.out) (Kd.C_below (Kd.C_below HR0.out HB.out) hb) (by omega) hg).mono ?_; rintro ed W' ⟨rfl, hd⟩; exact ⟨rfl, hd⟩); (case go => exact (each_spec (ps := l0.map fun x => mulF x a1 a2) (List.length_map _) (fun j h => by rw [map_get _ j h]; exact fix_Mul.of _ _ _ ⟨HV.out.1.rd _, HV.out.2⟩)).trans (congrArg some HH.out)); rintro ed W2 ⟨v_, rfl, hR, hb⟩; have HO := Aside0.mk (Kd.R_lower hR HB.out.size); have HB2 := Aside0.mk (below_then HB.out HB.out.size hb); clear hR hb))
      go_ret2
      exact ⟨_, rfl, HO.out, HB2.out⟩
    · rw [if_neg hp1] at h
      cases h
      have HX0 : Aside0 ((((w.alloc (Obj.cells #[Value.slice A0 l0.length c0] 22)).alloc (Obj.cells #[Value.int .i64 a1] 2)).alloc (Obj.cells #[Value.int .i64 a2] 3)).cell? ⟨w.heap.size, 0, none⟩ = some (.slice A0 l0.length c0)) := ⟨by simp [go_sem]⟩
      have HX1 : Aside0 ((((w.alloc (Obj.cells #[Value.slice A0 l0.length c0] 22)).alloc (Obj.cells #[Value.int .i64 a1] 2)).alloc (Obj.cells #[Value.int .i64 a2] 3)).cell? ⟨w.heap.size + 1, 0, none⟩ = some (.int .i64 a1)) := ⟨by simp [go_sem]⟩
      have HX2 : Aside0 ((((w.alloc (Obj.cells #[Value.slice A0 l0.length c0] 22)).alloc (Obj.cells #[Value.int .i64 a1] 2)).alloc (Obj.cells #[Value.int .i64 a2] 3)).cell? ⟨w.heap.size + 2, 0, none⟩ = some (.int .i64 a2)) := ⟨by simp [go_sem]⟩
      have HB : Aside0 (Below w.heap.size w (((w.alloc (Obj.cells #[Value.slice A0 l0.length c0] 22)).alloc (Obj.cells #[Value.int .i64 a1] 2)).alloc (Obj.cells #[Value.int .i64 a2] 3))) := ⟨zzA (zzA (zzA (Below.refl _ _) _) _) _⟩
      have he0 : (fracE a2 == 0) = false := beq_eq_false_iff_ne.2 hp1
      have he1 : (fracE a2 != 0) = true := bne_iff_ne.2 hp1
      obtain ⟨e_, hE⟩ : ∃ e_ : Int, fracE a2 = e_ := ⟨_, rfl⟩
      rw [hE] at HP1 he0 he1
      simp only [hE]
      clear hE hp1
      go_enter Try.func60, Try.ntmps60
      go_wp2_with (first | (go_at_call 42; (with_reducible refine (vec_Check.calls A0 c0 l0 0 _ (Kd.C_below HR0.out HB.out) HC0.out HP0.out).mono ?_); rintro ed W1 ⟨rfl, hd⟩; have hb := hd.below; clear hd; have HB := Aside0.mk (below_then HB.out HB.out.size hb); have HX0 := Aside0.mk (pw_cell_below hb HX0.out); have HX1 := Aside0.mk (pw_cell_below hb HX1.out); have HX2 := Aside0.mk (pw_cell_below hb HX2.out); have hx0 := HX0.out; have hx1 := HX1.out; have hx2 := HX2.out; clear hb) | (go_at_call 51; (with_reducible refine (vec_behind.calls a2 e_ _ HP1.out).mono ?_); rintro ed W1 ⟨rfl, hd⟩; have hb := hd; clear hd; have HB := Aside0.mk (below_then HB.out HB.out.size hb); have HX0 := Aside0.mk (pw_cell_below hb HX0.out); have HX1 := Aside0.mk (pw_cell_below hb HX1.out); have HX2 := Aside0.mk (pw_cell_below hb HX2.out); have hx0 := HX0.out; have hx1 := HX1.out; have hx2 := HX2.out; clear hb))
      go_ret2
      exact ⟨_, rfl, Kd.R_nil _ _ _ _ _, HB.out⟩
  · rw [if_neg hp0] at h
    cases h
    have HX0 : Aside0 ((((w.alloc (Obj.cells #[Value.slice A0 l0.length c0] 22)).alloc (Obj.cells #[Value.int .i64 a1] 2)).alloc (Obj.cells #[Value.int .i64 a2] 3)).cell? ⟨w.heap.size, 0, none⟩ = some (.slice A0 l0.length c0)) := ⟨by simp [go_sem]⟩
    have HX1 : Aside0 ((((w.alloc (Obj.cells #[Value.slice A0 l0.length c0] 22)).alloc (Obj.cells #[Value.int .i64 a1] 2)).alloc (Obj.cells #[Value.int .i64 a2] 3)).cell? ⟨w.heap.size + 1, 0, none⟩ = some (.int .i64 a1)) := ⟨by simp [go_sem]⟩
    have HX2 : Aside0 ((((w.alloc (Obj.cells #[Value.slice A0 l0.length c0] 22)).alloc (Obj.cells #[Value.int .i64 a1] 2)).alloc (Obj.cells #[Value.int .i64 a2] 3)).cell? ⟨w.heap.size + 2, 0, none⟩ = some (.int .i64 a2)) := ⟨by simp [go_sem]⟩
    have HB : Aside0 (Below w.heap.size w (((w.alloc (Obj.cells #[Value.slice A0 l0.length c0] 22)).alloc (Obj.cells #[Value.int .i64 a1] 2)).alloc (Obj.cells #[Value.int .i64 a2] 3))) := ⟨zzA (zzA (zzA (Below.refl _ _) _) _) _⟩
    have he0 : (checkE l0 == 0) = false := beq_eq_false_iff_ne.2 hp0
    have he1 : (checkE l0 != 0) = true := bne_iff_ne.2 hp0
    obtain ⟨e_, hE⟩ : ∃ e_ : Int, checkE l0 = e_ := ⟨_, rfl⟩
    rw [hE] at HP0 he0 he1
    simp only [hE]
    clear hE hp0
    go_enter Try.func60, Try.ntmps60
    go_wp2_with (first | (go_at_call 42; (with_reducible refine (vec_Check.calls A0 c0 l0 e_ _ (Kd.C_below HR0.out HB.out) HC0.out HP0.out).mono ?_); rintro ed W1 ⟨rfl, hd⟩; have hb := hd.below; clear hd; have HB := Aside0.mk (below_then HB.out HB.out.size hb); have HX0 := Aside0.mk (pw_cell_below hb HX0.out); have HX1 := Aside0.mk (pw_cell_below hb HX1.out); have HX2 := Aside0.mk (pw_cell_below hb HX2.out); have hx0 := HX0.out; have hx1 := HX1.out; have hx2 := HX2.out; clear hb))
    go_ret2
    exact ⟨_, rfl, Kd.R_nil _ _ _ _ _, HB.out⟩


-- NOT PRINTED: function 59 (mlp_net_bend_1)

/-! ### mlp_net_bend: function 45 -/
set_option maxHeartbeats 4000000 in
set_option maxRecDepth 100000 in
theorem mlp_bend_1.calls (n0 be bf bg : Nat) (A0 : Option Addr) (c0 : Nat) (x : List Int) (b frac e : Int) (W : World) (g : Value) (gs : List Int)
    (hbe : W.heap[be]? = some (.cells #[.int .i64 e] 27 (0, 0))) (hbf : W.heap[bf]? = some (.cells #[.int .i64 frac] 3 (0, 0))) (hbg : W.heap[bg]? = some (.cells #[g] 22 (0, 0))) (h1 : n0 ≤ be) (h2 : n0 ≤ bg) (hn : n0 ≤ W.heap.size)
    (hG : Kd.R (Kd.int .i64) 2 W n0 (fun _ => True) g gs) (hr : Kd.C (Kd.int .i64) W A0 x.length x) (hc : x.length ≤ c0) (hv : V64 x ∧ I64 b) (hl : gs.length ≤ 100000) :
    Calls Try.prog 59 #[.slice A0 x.length c0, .int .i64 b, .pointer (some ⟨be, 0, none⟩), .pointer (some ⟨bf, 0, none⟩), .pointer (some ⟨bg, 0, none⟩)] W fun ed W' => ed = .returned (.tuple #[]) ∧ Below n0 W W' ∧
      (∀ k, k < W.heap.size → k ≠ be → k ≠ bg → some k ≠ g.ownBlock → W'.heap[k]? = W.heap[k]?) ∧
      ∃ g', W'.heap[be]? = some (.cells #[.int .i64 (addE e x b frac)] 27 (0, 0)) ∧ W'.heap[bg]? = some (.cells #[g'] 22 (0, 0)) ∧ Kd.R (Kd.int .i64) 2 W' n0 (fun _ => True) g' (addG e gs x b frac) ∧ (g'.ownBlock = g.ownBlock ∨ ∃ k, g'.ownBlock = some k ∧ W.heap.size ≤ k) := by
  have hce : W.cell? ⟨be, 0, none⟩ = some (.int .i64 e) := (blk_cell hbe 0).trans rfl
  have hcf : W.cell? ⟨bf, 0, none⟩ = some (.int .i64 frac) := (blk_cell hbf 0).trans rfl
  by_cases he : e = 0
  · subst he
    unfold addE addG
    rw [if_pos rfl, if_pos rfl]
    obtain ⟨⟨t, e⟩, ht⟩ : ∃ p, scaleV x b frac = p := ⟨_, rfl⟩
    have hlt := scaleV_lle x b frac
    rw [ht] at hlt ⊢
    simp only [] at hlt ⊢
    have A4 : Aside0 (vec_Scale.f x b frac = some (t, e)) := ⟨(vec_Scale.of _ _ _ hv).trans (congrArg some ht)⟩
    have hneg : be ≠ bg := blk_ne hbe hbg (by decide)
    have LT := Aside0.mk hlt
    have LG := Aside0.mk hl
    have HR := Aside0.mk hr
    have HC := Aside0.mk hc
    have BE := Aside0.mk hbe
    have BF := Aside0.mk hbf
    have BG := Aside0.mk hbg
    have HG := Aside0.mk hG
    have HN := Aside0.mk hn
    clear hlt hl hr hc hbe hbf hbg hG hv ht
    go_enter Try.func59, Try.ntmps59
    have H1 := Aside0.mk h1
    have H2 := Aside0.mk h2
    have NEG := Aside0.mk hneg
    go_wp2_with (first | (go_at_call 60; (with_reducible refine (vec_Scale.calls A0 c0 x b frac t e _ HR.out HC.out A4.out).mono ?_); rintro ed W2 ⟨v_, rfl, hR, hb⟩; obtain ⟨Av, cv, eve⟩ := Kd.R_slice hR; subst eve; have HV := Aside0.mk hR; have HB2 := Aside0.mk hb; clear hR hb; have hce2 : W2.cell? ⟨be, 0, none⟩ = some (.int .i64 0) := (blk_cell (blk_below BE.out HB2.out) 0).trans rfl; have hfe2 := blk_frozen (blk_below BE.out HB2.out) 0; have hcg2 : W2.cell? ⟨bg, 0, none⟩ = some g := (blk_cell (blk_below BG.out HB2.out) 0).trans rfl; have hfg2 := blk_frozen (blk_below BG.out HB2.out) 0; have hcg3 : (W2.setCell ⟨be, 0, none⟩ (.int .i64 e)).cell? ⟨bg, 0, none⟩ = some g := (blk_cell (blk_far (blk_below BG.out HB2.out) (p := ⟨be, 0, none⟩) (by show bg ≠ be; exact fun h => NEG.out h.symm) _) 0).trans rfl) | ((with_reducible refine gate_builtin (b := .append) (xs := #[.tmp 16, .tmp 17]) rfl ?_); at_builtin; refine Kd.R_append_rows (Kd.int .i64) (w0 := W) n0 rfl (.tmp 16) (.tmp 17) 22 2 (.int .i64 0) 8 rfl Try.underlying22 info2 rfl (by decide) (by omega) g gs t _ _ _ (fun _ => True) (fun _ => False) rfl rfl ?aO ?aR (fun _ _ h => h) (fun _ h => h.elim) ?aF ?aB ?aS ?aL ?_; (case aO => exact Kd.R_set (Kd.R_below HG.out HB2.out) (blk_below BE.out HB2.out) (by decide) 0 _); (case aR => exact (Kd.R_reads' (Kd.R_set HV.out (blk_below BE.out HB2.out) (by decide) 0 _)).2.2); (case aF => exact fun _ _ => trivial); (case aB => exact (below_then (Below.refl n0 W) HN.out HB2.out).setCell (p := ⟨be, 0, none⟩) H1.out _); (case aS => have := HN.out; have := HB2.out.size; simp; omega); (case aL => have := LG.out; have := LT.out; omega); intro v1 w4 ho hb hg hat; have HO4 := Aside0.mk ho; have HB4 := Aside0.mk hb; have HG4 := Aside0.mk hg; have HA4 := Aside0.mk hat; clear ho hb hg hat) | ((with_reducible refine gate_builtin (b := .append) (xs := #[.tmp 18, .tmp 20]) rfl ?_); at_builtin; refine Kd.R_append (Kd.int .i64) (w0 := W) n0 rfl (.tmp 18) (.tmp 20) 22 2 (.int .i64 0) 8 rfl Try.underlying22 info2 rfl (by decide) (by omega) v1 (gs ++ t) b [Value.int .i64 b] (fun _ => True) (fun _ => False) rfl rfl ?aP (fun _ hk => hk.elim) ?aF ?aO ?aB ?aS ?aL ?_; (case aP => exact rfl); (case aB => exact HB4.out); (case aF => exact (fun _ _ => trivial)); (case aO => exact HO4.out); (case aS => exact Nat.le_trans HN.out HB4.out.size); (case aL => have := LG.out; have := LT.out; rw [List.length_append]; omega); intro v5 w5 ho hb hg hat; have HO5 := Aside0.mk ho; have HB5 := Aside0.mk hb; have HG5 := Aside0.mk hg; have HA5 := Aside0.mk hat; clear ho hb hg hat; have hbg3 : (W2.setCell ⟨be, 0, none⟩ (.int .i64 e)).heap[bg]? = some (.cells #[g] 22 (0, 0)) := blk_far (blk_below BG.out HB2.out) (p := ⟨be, 0, none⟩) (fun h => NEG.out h.symm) _; have BG3 := Aside0.mk hbg3; have hg3 := Kd.R_set (Kd.R_below HG.out HB2.out) (blk_below BE.out HB2.out) (by decide) 0 (.int .i64 e); have HG3 := Aside0.mk hg3; have hbg5 := blk_grown (blk_grown hbg3 HG4.out (Kd.R_ne hg3 hbg3 (by decide))) HG5.out (Kd.R_ne HO4.out (blk_grown hbg3 HG4.out (Kd.R_ne hg3 hbg3 (by decide))) (by decide)); have BG5 := Aside0.mk hbg5; have hcg5 : w5.cell? ⟨bg, 0, none⟩ = some g := (blk_cell hbg5 0).trans rfl; have hfg5 := blk_frozen hbg5 0; clear hbg3 hg3 hbg5; obtain ⟨A5, c5, e5⟩ := Kd.R_slice HO5.out; generalize (gs ++ t ++ [b]).length = m5 at e5; subst e5))
    go_end0
    have hne : be ≠ bg := NEG.out
    have hbe3 := blk_set (blk_below BE.out HB2.out) 0 (.int .i64 e)
    have hbe5 := blk_grown (blk_grown hbe3 HG4.out (Kd.R_ne HG3.out hbe3 (by decide))) HG5.out (Kd.R_ne HO4.out (blk_grown hbe3 HG4.out (Kd.R_ne HG3.out hbe3 (by decide))) (by decide))
    refine ⟨rfl, HB5.out.setCell (p := ⟨bg, 0, none⟩) H2.out _, fun k hk h3 h4 h5 => ?_, _, blk_far hbe5 (p := ⟨bg, 0, none⟩) hne _, blk_set BG5.out 0 _, Kd.R_set HO5.out BG5.out (by decide) 0 _, ?_⟩
    · have hk2 : k < W2.heap.size := Nat.lt_of_lt_of_le hk HB2.out.size
      have hk3 : k < (W2.setCell ⟨be, 0, none⟩ (.int .i64 e)).heap.size := by simp; exact hk2
      have h6 : some k ≠ v1.ownBlock := fun h => by
        rcases HA4.out with h7 | ⟨q, h7, h8⟩
        · exact h5 (h.trans h7)
        · rw [h7] at h; injection h with h; omega
      have e1 := HB2.out.block k hk
      have e2 := Below.heap_setCell W2 ⟨be, 0, none⟩ (.int .i64 e) k h3
      have e3 := HG4.out.block k hk3 h5
      have hk4 : k < w4.heap.size := Nat.lt_of_lt_of_le hk3 HG4.out.size
      have e4 := HG5.out.block k hk4 h6
      exact (Below.heap_setCell w5 ⟨bg, 0, none⟩ _ k h4).trans (e4.trans (e3.trans (e2.trans e1)))
    · have hsz : W.heap.size ≤ w4.heap.size := Nat.le_trans HB2.out.size (by have := HG4.out.size; simp at this; exact this)
      rcases HA5.out with h7 | ⟨q, h7, h8⟩
      · rcases HA4.out with h9 | ⟨q, h9, h10⟩
        · exact .inl (h7.trans h9)
        · exact .inr ⟨q, h7.trans h9, Nat.le_trans HB2.out.size (by simpa using h10)⟩
      · exact .inr ⟨q, h7, Nat.le_trans hsz h8⟩
  · unfold addE addG
    rw [if_neg he, if_neg he]
    have he0 : (e == 0) = false := beq_eq_false_iff_ne.2 he
    have HG := Aside0.mk hG
    have BE := Aside0.mk hbe
    have BG := Aside0.mk hbg
    clear he hG hbe hbg hbf hr hc hv
    go_enter Try.func59, Try.ntmps59
    go_wp2
    go_end0
    exact ⟨rfl, Below.refl _ _, fun _ _ _ _ _ => rfl, g, BE.out, BG.out, HG.out, .inl rfl⟩
def mlp_net_bend.f (l0_0 : List Int) (l0_1 : List (List Int)) (a0_2 : Int) (l1_0 : List Int) (a1_1 a2 : Int) : Option (List Int × Int) := if V64 l0_0 ∧ V64 l1_0 ∧ (∀ r ∈ l0_1, V64 r) ∧ l0_1.length < l0_0.length ∧ l0_1.length ≤ 8 ∧ I64 a1_1 then some (bendN l0_1 l0_0 a0_2 l1_0 a1_1 a2) else none
theorem mlp_net_bend.of (l0_0 : List Int) (l0_1 : List (List Int)) (a0_2 : Int) (l1_0 : List Int) (a1_1 a2 : Int) (h : V64 l0_0 ∧ V64 l1_0 ∧ (∀ r ∈ l0_1, V64 r) ∧ l0_1.length < l0_0.length ∧ l0_1.length ≤ 8 ∧ I64 a1_1) : mlp_net_bend.f l0_0 l0_1 a0_2 l1_0 a1_1 a2 = some (bendN l0_1 l0_0 a0_2 l1_0 a1_1 a2) := if_pos h
set_option maxHeartbeats 8000000 in
set_option maxRecDepth 100000 in
theorem mlp_net_bend.calls (A0_0 : Option Addr) (c0_0 : Nat) (l0_0 : List Int) (A0_1 : Option Addr) (c0_1 : Nat) (l0_1 : List (List Int)) (a0_2 : Int) (A1_0 : Option Addr) (c1_0 : Nat) (l1_0 : List Int) (a1_1 : Int) (a2 : Int) (r1 : List Int) (r2 : Int) (w : World) (hr0_0 : Kd.C (Kd.int .i64) w A0_0 l0_0.length l0_0) (hc0_0 : l0_0.length ≤ c0_0) (hr0_1 : Kd.C (Kd.slice 2 (Kd.int .i64)) w A0_1 l0_1.length l0_1) (hc0_1 : l0_1.length ≤ c0_1) (hr1_0 : Kd.C (Kd.int .i64) w A1_0 l1_0.length l1_0) (hc1_0 : l1_0.length ≤ c1_0) (h : mlp_net_bend.f l0_0 l0_1 a0_2 l1_0 a1_1 a2 = some (r1, r2)) :
    Calls Try.prog 45 #[.agg #[.slice A0_0 l0_0.length c0_0, .slice A0_1 l0_1.length c0_1, .int .i64 a0_2], .agg #[.slice A1_0 l1_0.length c1_0, .int .i64 a1_1], .int .i64 a2] w fun e w' => ∃ v0_ : Value, e = .returned (.tuple #[v0_, .int .i64 r2]) ∧ Kd.R (Kd.int .i64) 2 w' w.heap.size (fun _ => True) v0_ r1 ∧ Below w.heap.size w w' := by
  unfold mlp_net_bend.f at h
  split at h
  case isFalse => cases h
  rename_i hv
  have h := Option.some.inj h
  have hu54 := Try.underlying54
  have hu52 := Try.underlying52
  have hu26 := Try.underlying26
  have hu22 := Try.underlying22
  obtain ⟨⟨hh, t, e⟩, hp⟩ : ∃ p, ptellM l0_1 l0_0 a0_2 l1_0 a2 = p := ⟨_, rfl⟩
  have AT := Aside0.mk ((mlp_net_tell.of _ _ _ _ _ ⟨hv.1, hv.2.1, hv.2.2.1, by omega⟩).trans (congrArg some hp))
  have hti : I64 t := by have := hp; unfold ptellM at this; split at this <;> (injection this with _ h2; injection h2 with h2 _; rw [← h2]; first | exact tellL_i64 _ _ _ | exact i64_zero)
  have hhv : V64 hh := by have := hp; unfold ptellM at this; split at this <;> (injection this with h2 _; rw [← h2]; first | exact hiddenM_v64 _ _ _ _ | (intro y hy; cases hy))
  have hlh : hh.length ≤ l0_1.length := by have := hp; unfold ptellM at this; split at this <;> (injection this with h2 _; rw [← h2]; first | exact hiddenM_lle _ _ _ _ | exact Nat.zero_le _)
  have HLH := Aside0.mk hlh
  clear hlh
  unfold bendN at h
  rw [hp] at h
  dsimp only at h
  obtain ⟨al, rfl, -⟩ := hr0_0.2.2 (by omega)
  obtain ⟨W0, hW0⟩ : ∃ W0, (((w.alloc (Obj.cells #[.slice (some al) l0_0.length c0_0, .slice A0_1 l0_1.length c0_1, .int .i64 a0_2] 54)).alloc (Obj.cells #[.slice A1_0 l1_0.length c1_0, .int .i64 a1_1] 26)).alloc (Obj.cells #[.int .i64 a2] 3)).alloc (Obj.cells #[.slice none 0 0] 22) = W0 := ⟨_, rfl⟩
  have hsz0 : W0.heap.size = w.heap.size + 4 := by rw [← hW0]; simp
  have hX : W0.heap[w.heap.size]? = some (Obj.cells #[.slice (some al) l0_0.length c0_0, .slice A0_1 l0_1.length c0_1, .int .i64 a0_2] 54 (0, 0)) := by rw [← hW0]; exact kkA (kkA (kkA (blk_new w _) _) _) _
  have hS : W0.heap[w.heap.size + 1]? = some (Obj.cells #[.slice A1_0 l1_0.length c1_0, .int .i64 a1_1] 26 (0, 0)) := by rw [← hW0]; have h := kkA (kkA (blk_new (w.alloc (Obj.cells #[.slice (some al) l0_0.length c0_0, .slice A0_1 l0_1.length c0_1, .int .i64 a0_2] 54)) (Obj.cells #[.slice A1_0 l1_0.length c1_0, .int .i64 a1_1] 26)) (Obj.cells #[.int .i64 a2] 3)) (Obj.cells #[.slice none 0 0] 22); simpa using h
  have hF : W0.heap[w.heap.size + 1 + 1]? = some (Obj.cells #[.int .i64 a2] 3 (0, 0)) := by rw [← hW0]; have h := kkA (blk_new ((w.alloc (Obj.cells #[.slice (some al) l0_0.length c0_0, .slice A0_1 l0_1.length c0_1, .int .i64 a0_2] 54)).alloc (Obj.cells #[.slice A1_0 l1_0.length c1_0, .int .i64 a1_1] 26)) (Obj.cells #[.int .i64 a2] 3)) (Obj.cells #[.slice none 0 0] 22); simpa using h
  have hG : W0.heap[w.heap.size + 1 + 1 + 1]? = some (Obj.cells #[.slice none 0 0] 22 (0, 0)) := by rw [← hW0]; have h := blk_new (((w.alloc (Obj.cells #[.slice (some al) l0_0.length c0_0, .slice A0_1 l0_1.length c0_1, .int .i64 a0_2] 54)).alloc (Obj.cells #[.slice A1_0 l1_0.length c1_0, .int .i64 a1_1] 26)).alloc (Obj.cells #[.int .i64 a2] 3)) (Obj.cells #[.slice none 0 0] 22); simpa using h
  have hB0 : Below w.heap.size w W0 := by rw [← hW0]; exact (((zzA (Below.refl w.heap.size w) _).alloc (by simp) _).alloc (by simp; omega) _).alloc (by simp; omega) _
  have HX := Aside0.mk hX
  have HS := Aside0.mk hS
  have HF := Aside0.mk hF
  have HG := Aside0.mk hG
  have HB0 := Aside0.mk hB0
  have HR00 := Aside0.mk hr0_0
  have HR01 := Aside0.mk hr0_1
  have HR1 := Aside0.mk hr1_0
  have HC00 := Aside0.mk hc0_0
  have HC01 := Aside0.mk hc0_1
  have HC1 := Aside0.mk hc1_0
  have HV := Aside0.mk hv
  have HTI := Aside0.mk hti
  have HHV := Aside0.mk hhv
  have HW0 := Aside0.mk hW0
  clear hX hS hF hG hB0 hr0_0 hr0_1 hr1_0 hc0_0 hc0_1 hc1_0 hv hti hhv hp
  by_cases ce : e = 0
  · subst ce
    rw [if_neg (not_not_intro rfl)] at h
    obtain ⟨⟨off, e1⟩, hoff⟩ : ∃ p, res (t - a1_1) = p := ⟨_, rfl⟩
    rw [hoff] at h
    dsimp only at h
    have AS := Aside0.mk ((fix_Sub.of t a1_1 ⟨HTI.out, HV.out.2.2.2.2.2⟩).trans (congrArg some hoff))
    have hofi : I64 off := by have := res_i64 (t - a1_1); rw [hoff] at this; exact this
    have HOF := Aside0.mk hofi
    clear hofi hoff
    by_cases ce1 : e1 = 0
    · subst ce1
      rw [if_neg (not_not_intro rfl)] at h
      have HH := Aside0.mk h
      clear h
      have hx0 := (blk_cell HX.out 0).trans rfl
      have hx1 := (blk_cell HX.out 1).trans rfl
      have hx2 := (blk_cell HX.out 2).trans rfl
      have hs0 := (blk_cell HS.out 0).trans rfl
      have hs1 := (blk_cell HS.out 1).trans rfl
      have hf0 := (blk_cell HF.out 0).trans rfl
      rw [← hW0] at hx0 hx1 hx2 hs0 hs1 hf0
      clear hW0 hsz0
      go_enter Try.func45, Try.ntmps45
      go_wp2_with (first | (go_at_call 36; rw [HW0.out]; (with_reducible refine (mlp_net_tell.calls (some al) c0_0 l0_0 A0_1 c0_1 l0_1 a0_2 A1_0 c1_0 l1_0 a2 hh t 0 W0 (Kd.C_below HR00.out HB0.out) HC00.out (Kd.C_below HR01.out HB0.out) HC01.out (Kd.C_below HR1.out HB0.out) HC1.out AT.out).mono ?_); rintro ed W2 ⟨v_, rfl, hR, hb⟩; obtain ⟨Ah, ch, eh⟩ := Kd.R_slice hR; subst eh; have HR := Aside0.mk hR; have HB2 := Aside0.mk hb; clear hR hb; have hs1b : (W2.alloc (Obj.cells #[.int .i64 0] 27)).cell? ⟨w.heap.size + 1, 1, none⟩ = some (.int .i64 a1_1) := (blk_cell (kkA (blk_below HS.out HB2.out) _) 1).trans rfl) | (go_at_call 38; (with_reducible refine (fix_Sub.calls t a1_1 off 0 _ AS.out).mono ?_); rintro ed W3 ⟨rfl, ⟨nd, rfl⟩⟩))
      have hsz := HB2.out.size
      have hE0 := blk_new W2 (Obj.cells #[.int .i64 0] 27)
      have hE := blk_set (kkN hE0 nd) 0 (.int .i64 0)
      have hneX : w.heap.size ≠ W2.heap.size := by have := blk_lt (blk_below HX.out HB2.out); omega
      have hneS : w.heap.size + 1 ≠ W2.heap.size := by have := blk_lt (blk_below HS.out HB2.out); omega
      have hneF : w.heap.size + 1 + 1 ≠ W2.heap.size := by have := blk_lt (blk_below HF.out HB2.out); omega
      have hne : W2.heap.size ≠ w.heap.size + 1 + 1 + 1 := by have := blk_lt (blk_below HG.out HB2.out); omega
      have hX3 := blk_far (kkN (kkA (blk_below HX.out HB2.out) (Obj.cells #[.int .i64 0] 27)) nd) (p := ⟨W2.heap.size, 0, none⟩) hneX (.int .i64 0)
      have hS3 := blk_far (kkN (kkA (blk_below HS.out HB2.out) (Obj.cells #[.int .i64 0] 27)) nd) (p := ⟨W2.heap.size, 0, none⟩) hneS (.int .i64 0)
      have hF3 := blk_far (kkN (kkA (blk_below HF.out HB2.out) (Obj.cells #[.int .i64 0] 27)) nd) (p := ⟨W2.heap.size, 0, none⟩) hneF (.int .i64 0)
      have hG3 := blk_far (kkN (kkA (blk_below HG.out HB2.out) (Obj.cells #[.int .i64 0] 27)) nd) (p := ⟨W2.heap.size, 0, none⟩) hne.symm (.int .i64 0)
      have hH3 := Kd.R_set (rrN (rrA HR.out (Obj.cells #[.int .i64 0] 27)) nd) (kkN hE0 nd) (by decide) 0 (.int .i64 0)
      have hB3 := (zzN (zzA (below_then HB0.out HB0.out.size HB2.out) (Obj.cells #[.int .i64 0] 27)) nd).setCell (p := ⟨W2.heap.size, 0, none⟩) (by show w.heap.size ≤ W2.heap.size; exact Nat.le_trans HB0.out.size hsz) (.int .i64 0)
      have hsb : w.heap.size ≤ W2.heap.size := Nat.le_trans HB0.out.size hsz
      generalize World.setCell _ ⟨W2.heap.size, 0, none⟩ (.int .i64 0) = W3 at hE hX3 hS3 hF3 hG3 hH3 hB3 ⊢
      clear hE0 hs1b
      generalize W2.heap.size = be at hE hne hsb hneX hneS hneF ⊢
      have HE := Aside0.mk hE
      have HNE := Aside0.mk hne
      have HX3 := Aside0.mk hX3
      have HS3 := Aside0.mk hS3
      have HF3 := Aside0.mk hF3
      have HG3 := Aside0.mk hG3
      have HH3 := Aside0.mk hH3
      have HB3 := Aside0.mk hB3
      have HSB := Aside0.mk hsb
      have hqe : W3.cell? ⟨be, 0, none⟩ = some (.int .i64 0) := (blk_cell HE.out 0).trans rfl
      have hqg : W3.cell? ⟨w.heap.size + 1 + 1 + 1, 0, none⟩ = some (.slice none 0 0) := (blk_cell HG3.out 0).trans rfl
      have hfg := blk_frozen HG3.out 0
      clear hE hne hX3 hS3 hF3 hG3 hH3 hB3 hsb
      obtain ⟨SF, hSF⟩ : ∃ S, stepsM l0_0 l1_0 off a2 hh 0 0 [] = S := ⟨_, rfl⟩
      have HEND := Aside0.mk HH.out
      unfold endM at HEND
      have hhl : hh.length ≤ l0_1.length := HLH.out
      rw [hSF] at HEND
      have HSF := Aside0.mk hSF
      have HHL := Aside0.mk hhl
      clear hSF hhl
      go_loopw [41] (fun i W => ∃ (j : Nat) (e : Int) (gs : List Int) (g : Value), i = .int .i64 j ∧ Aside0 (j ≤ hh.length) ∧ Aside0 (gs.length ≤ j * 4097) ∧ Aside0 (stepsM l0_0 l1_0 off a2 (hh.drop j) j e gs = SF) ∧ Aside0 (W.heap[be]? = some (Obj.cells #[.int .i64 e] 27 (0, 0))) ∧ Aside0 (W.heap[w.heap.size]? = some (Obj.cells #[.slice (some al) l0_0.length c0_0, .slice A0_1 l0_1.length c0_1, .int .i64 a0_2] 54 (0, 0))) ∧ Aside0 (W.heap[w.heap.size + 1]? = some (Obj.cells #[.slice A1_0 l1_0.length c1_0, .int .i64 a1_1] 26 (0, 0))) ∧ Aside0 (W.heap[w.heap.size + 1 + 1]? = some (Obj.cells #[.int .i64 a2] 3 (0, 0))) ∧ Aside0 (W.heap[w.heap.size + 1 + 1 + 1]? = some (Obj.cells #[g] 22 (0, 0))) ∧ Aside0 (Kd.R (Kd.int .i64) 2 W w.heap.size (fun _ => True) g gs) ∧ Aside0 (Kd.R (Kd.int .i64) 2 W w.heap.size (fun q => some q ≠ g.ownBlock) (.slice Ah hh.length ch) hh) ∧ Aside0 (Below w.heap.size w W)) (fun i _ => hh.length - (intOf i).toNat)
      case atStart => exact ⟨0, 0, [], .slice none 0 0, rfl, ⟨Nat.zero_le _⟩, ⟨by simp⟩, ⟨by rw [List.drop_zero]; exact HSF.out⟩, HE, HX3, HS3, HF3, HG3, ⟨Kd.R_nil _ _ _ _ _⟩, ⟨Kd.R_mono (Kd.R_lower HH3.out HB0.out.size) (fun q _ => by simp [Value.ownBlock])⟩, HB3⟩
      case round =>
        obtain ⟨j, e, gs, g, rfl, ⟨hj⟩, ⟨hgl⟩, ⟨hst⟩, HE4, HX4, HS4, HF4, HG4, HR4, HH4, HB4⟩ := hrel
        clear HE HX3 HS3 HF3 HG3 HH3 HB3 hqe hqg hfg
        by_cases hlt : j < hh.length
        · obtain ⟨gh, hgh⟩ : ∃ gh, Ah = some ⟨gh, 0, none⟩ := by
            obtain ⟨gh, cap, he, _⟩ := Kd.R_form HH4.out (by omega)
            injection he with h1 _ _
            exact ⟨gh, h1⟩
          subst hgh
          have hcell := (Kd.R_celln 0 HH4.out (j : Int) (by omega) (by omega)).1
          rw [show rdOf 0 hh (j : Int) = rd hh j from rfl] at hcell
          simp only [Int.toNat_natCast] at hcell
          obtain ⟨n, hn⟩ : ∃ n, rd hh (j : Int) = n := ⟨_, rfl⟩
          rw [hn] at hcell
          rw [List.drop_eq_getElem_cons hlt, show hh[j] = n from (rd_nat hlt).symm.trans hn, stepsM] at hst
          have HGL := Aside0.mk hgl
          have HLT := Aside0.mk hlt
          have hce : wr.cell? ⟨be, 0, none⟩ = some (.int .i64 e) := (blk_cell HE4.out 0).trans rfl
          have hfe := blk_frozen HE4.out 0
          have hcs : wr.cell? ⟨w.heap.size + 1, 0, none⟩ = some (.slice A1_0 l1_0.length c1_0) := (blk_cell HS4.out 0).trans rfl
          by_cases cn : n > 0
          · by_cases cz : e = 0
            · subst cz
              obtain ⟨⟨bb, ee⟩, hm⟩ : ∃ p, mulF off (rd l0_0 j) a2 = p := ⟨_, rfl⟩
              have hby : byM l0_0 off a2 n j 0 = (bb, ee) := by unfold byM; rw [if_pos ⟨cn, rfl⟩, hm]
              rw [hby] at hst
              dsimp only at hst
              have HST := Aside0.mk hst
              have hjl : (j : Int) < l0_0.length := by have := HHL.out; have := HV.out.2.2.2.1; omega
              obtain ⟨al', hal, hql⟩ := Kd.at_int (Kd.C_below HR00.out HB4.out) (j : Int) (by omega) (by omega)
              injection hal with hal
              subst hal
              simp only [Int.toNat_natCast] at hql
              have hbi : I64 bb := by have := mulF_i64 off (rd l0_0 j) a2; rw [hm] at this; exact this
              have HBI := Aside0.mk hbi
              have AM := Aside0.mk ((fix_Mul.of off (rd l0_0 j) a2 ⟨HOF.out, HV.out.1.rd _⟩).trans (congrArg some hm))
              have hqx : wr.cell? ⟨w.heap.size, 0, none⟩ = some (.slice (some al) l0_0.length c0_0) := (blk_cell HX4.out 0).trans rfl
              have hqf : wr.cell? ⟨w.heap.size + 1 + 1, 0, none⟩ = some (.int .i64 a2) := (blk_cell HF4.out 0).trans rfl
              clear hst hby hm hbi hgl hj hn
              go_wp2
              refine start_ (n := 14) (S := fun w' => w'.cell? ⟨w.heap.size, 0, none⟩ = some (.slice (some al) l0_0.length c0_0) ∧ w'.cell? (al.add j) = some (.int .i64 (rd l0_0 j)) ∧ w'.cell? ⟨w.heap.size + 1 + 1, 0, none⟩ = some (.int .i64 a2)) (ds := [13]) #[false, false, false, false, false, false, false, false, false, false, false, false, false, false] (by kernel_rfl) rfl rfl ⟨hqx, hql, hqf⟩ (fun hHeld => ?_)
              refine pure_ (i := 0) (N := some 53) (v := ?_) (a' := ?_) #[true, false, false, false, false, false, false, false, false, false, false, false, false, false] rfl rfl (by kernel_rfl) (fun _ _ _ h => h) (Or.inl ⟨by rfl, ?_⟩) ?_ ?_
              rotate_left
              · intro w'
                go_simp
                with_reducible rfl
              rotate_left
              · simp only [Act.put, List.setIfInBounds_toArray, List.set_cons_zero, List.set_cons_succ, i64_w, i32_w]
                rfl
              refine pure_ (i := 1) (N := some 54) (v := ?_) (a' := ?_) #[true, true, false, false, false, false, false, false, false, false, false, false, false, false] rfl rfl (by kernel_rfl) (fun _ _ _ h => h) (Or.inl ⟨by rfl, ?_⟩) ?_ ?_
              rotate_left
              · intro w'
                go_simp
                with_reducible rfl
              rotate_left
              · simp only [Act.put, List.setIfInBounds_toArray, List.set_cons_zero, List.set_cons_succ, i64_w, i32_w]
                rfl
              refine pure_ (i := 2) (N := some 55) (v := ?_) (a' := ?_) #[true, true, true, false, false, false, false, false, false, false, false, false, false, false] rfl rfl (by kernel_rfl) (fun _ _ _ h => h) (Or.inl ⟨by rfl, ?_⟩) ?_ ?_
              rotate_left
              · intro w'
                go_simp
                with_reducible rfl
              rotate_left
              · simp only [Act.put, List.setIfInBounds_toArray, List.set_cons_zero, List.set_cons_succ, i64_w, i32_w]
                rfl
              refine pure_ (i := 4) (N := some 57) (v := ?_) (a' := ?_) #[true, true, true, false, true, false, false, false, false, false, false, false, false, false] rfl rfl (by kernel_rfl) (fun _ _ _ h => h) (Or.inl ⟨by rfl, ?_⟩) ?_ ?_
              rotate_left
              · intro w'
                go_simp
                with_reducible rfl
              rotate_left
              · simp only [Act.put, List.setIfInBounds_toArray, List.set_cons_zero, List.set_cons_succ, i64_w, i32_w]
                rfl
              refine take_ (i := 3) (N := some 56) (v := ?_) (a' := ?_) #[true, true, true, true, true, false, false, false, false, false, false, false, false, false] rfl rfl (by kernel_rfl) (fun _ _ _ h => h) (Or.inl ⟨by rfl, ?_⟩) hHeld ?_ ?_
              rotate_left
              · rintro w' ⟨s0, s1, s2⟩
                go_simp
                with_reducible rfl
              rotate_left
              · simp only [Act.put, List.setIfInBounds_toArray, List.set_cons_zero, List.set_cons_succ, i64_w, i32_w]
                rfl
              refine pure_ (i := 5) (N := some 58) (v := ?_) (a' := ?_) #[true, true, true, true, true, true, false, false, false, false, false, false, false, false] rfl rfl (by kernel_rfl) (fun _ _ _ h => h) (Or.inl ⟨by rfl, ?_⟩) ?_ ?_
              rotate_left
              · intro w'
                go_simp
                with_reducible rfl
              rotate_left
              · simp only [Act.put, List.setIfInBounds_toArray, List.set_cons_zero, List.set_cons_succ, i64_w, i32_w]
                rfl
              refine take_ (i := 6) (N := some 59) (v := ?_) (a' := ?_) #[true, true, true, true, true, true, true, false, false, false, false, false, false, false] rfl rfl (by kernel_rfl) (fun _ _ _ h => h) (Or.inl ⟨by rfl, ?_⟩) hHeld ?_ ?_
              rotate_left
              · rintro w' ⟨s0, s1, s2⟩
                go_simp
                with_reducible rfl
              rotate_left
              · simp only [Act.put, List.setIfInBounds_toArray, List.set_cons_zero, List.set_cons_succ, i64_w, i32_w]
                rfl
              refine take_ (i := 7) (N := some 60) (v := ?_) (a' := ?_) #[true, true, true, true, true, true, true, true, false, false, false, false, false, false] rfl rfl (by kernel_rfl) (fun _ _ _ h => h) (Or.inl ⟨by rfl, ?_⟩) hHeld ?_ ?_
              rotate_left
              · rintro w' ⟨s0, s1, s2⟩
                go_simp
                with_reducible rfl
              rotate_left
              · simp only [Act.put, List.setIfInBounds_toArray, List.set_cons_zero, List.set_cons_succ, i64_w, i32_w]
                rfl
              refine one_ (i := 8) (N := some 61) #[true, true, true, true, true, true, true, true, true, false, false, false, false, false] rfl rfl (by kernel_rfl) (by decide) (fun K hK => ?_)
              refine goes_ Try.func54 (by kernel_rfl) rfl #[.int .i64 off, .int .i64 (rd l0_0 j), .int .i64 a2] (by rfl) rfl rfl (by simp only [List.map_toArray, List.map_cons, List.map_nil]; rfl) ?_
              with_reducible refine (fix_Mul.calls off (rd l0_0 j) a2 bb ee _ AM.out).mono ?_
              rintro ed W5 ⟨rfl, hb5⟩
              refine ⟨_, rfl, ?_⟩
              have HBM := Aside0.mk hb5
              have hce5 : W5.cell? ⟨be, 0, none⟩ = some (.int .i64 0) := (blk_cell (blk_below (w := wr.drew) HE4.out hb5) 0).trans rfl
              have hfe5 := blk_frozen (blk_below (w := wr.drew) HE4.out hb5) 0
              clear hb5
              refine hK.out _ _ ⟨pw_cell_below HBM.out hqx, pw_cell_below HBM.out hql, pw_cell_below HBM.out hqf⟩ (fun hHeld => ?_)
              clear hK K
              refine norm_ (a' := ?_) ?_ ?_
              rotate_left
              · show Act.put _ (some 61) _ = _
                simp only [Act.put, List.setIfInBounds_toArray, List.set_cons_zero, List.set_cons_succ, i64_w, i32_w]
                rfl
              refine pure_ (i := 9) (N := some 52) (v := ?_) (a' := ?_) #[true, true, true, true, true, true, true, true, true, true, false, false, false, false] rfl rfl (by kernel_rfl) (fun _ _ _ h => h) (Or.inl ⟨by rfl, ?_⟩) ?_ ?_
              rotate_left
              · intro w'
                go_simp
                with_reducible rfl
              rotate_left
              · simp only [Act.put, List.setIfInBounds_toArray, List.set_cons_zero, List.set_cons_succ, i64_w, i32_w]
                rfl
              refine pure_ (i := 10) (N := some 62) (v := ?_) (a' := ?_) #[true, true, true, true, true, true, true, true, true, true, true, false, false, false] rfl rfl (by kernel_rfl) (fun _ _ _ h => h) (Or.inl ⟨by rfl, ?_⟩) ?_ ?_
              rotate_left
              · intro w'
                go_simp
                with_reducible rfl
              rotate_left
              · simp only [Act.put, List.setIfInBounds_toArray, List.set_cons_zero, List.set_cons_succ, i64_w, i32_w]
                rfl
              refine pure_ (i := 11) (N := some 63) (v := ?_) (a' := ?_) #[true, true, true, true, true, true, true, true, true, true, true, true, false, false] rfl rfl (by kernel_rfl) (fun _ _ _ h => h) (Or.inl ⟨by rfl, ?_⟩) ?_ ?_
              rotate_left
              · intro w'
                go_simp
                with_reducible rfl
              rotate_left
              · simp only [Act.put, List.setIfInBounds_toArray, List.set_cons_zero, List.set_cons_succ, i64_w, i32_w]
                rfl
              refine pure_ (i := 12) (N := some 15) (v := ?_) (a' := ?_) #[true, true, true, true, true, true, true, true, true, true, true, true, true, false] rfl rfl (by kernel_rfl) (fun _ _ _ h => h) (Or.inl ⟨by rfl, ?_⟩) ?_ ?_
              rotate_left
              · intro w'
                go_simp
                with_reducible rfl
              rotate_left
              · simp only [Act.put, List.setIfInBounds_toArray, List.set_cons_zero, List.set_cons_succ, i64_w, i32_w]
                rfl
              refine last_ (i := 13) (N := none) #[true, true, true, true, true, true, true, true, true, true, true, true, true, true] rfl rfl (by kernel_rfl) (by decide) (fun K hK => ?_)
              refine skip_ (w1 := ?_) (by rfl) rfl ?_ ?_
              rotate_left
              · go_simp
                rfl
              refine hK.out _ _ ?_
              clear hK K
              refine done_ (by kernel_rfl) ?_
              have HE5 := Aside0.mk (blk_set (blk_below (w := wr.drew) HE4.out HBM.out) 0 (.int .i64 ee))
              have HX5 := Aside0.mk (blk_far (blk_below (w := wr.drew) HX4.out HBM.out) (p := ⟨be, 0, none⟩) hneX (.int .i64 ee))
              have HS5 := Aside0.mk (blk_far (blk_below (w := wr.drew) HS4.out HBM.out) (p := ⟨be, 0, none⟩) hneS (.int .i64 ee))
              have HF5 := Aside0.mk (blk_far (blk_below (w := wr.drew) HF4.out HBM.out) (p := ⟨be, 0, none⟩) hneF (.int .i64 ee))
              have HG5 := Aside0.mk (blk_far (blk_below (w := wr.drew) HG4.out HBM.out) (p := ⟨be, 0, none⟩) (fun h => HNE.out h.symm) (.int .i64 ee))
              have HR5 := Aside0.mk (Kd.R_set (Kd.R_below (rrD HR4.out) HBM.out) (blk_below (w := wr.drew) HE4.out HBM.out) (by decide) 0 (.int .i64 ee))
              have HH5 := Aside0.mk (Kd.R_set (Kd.R_below (rrD HH4.out) HBM.out) (blk_below (w := wr.drew) HE4.out HBM.out) (by decide) 0 (.int .i64 ee))
              have HB5 := Aside0.mk ((below_then (below_drew HB4.out) HB4.out.size HBM.out).setCell (p := ⟨be, 0, none⟩) HSB.out (.int .i64 ee))
              generalize World.setCell W5 ⟨be, 0, none⟩ (.int .i64 ee) = WD at HE5 HX5 HS5 HF5 HG5 HR5 HH5 HB5 ⊢
              have hcs5 : WD.cell? ⟨w.heap.size + 1, 0, none⟩ = some (.slice A1_0 l1_0.length c1_0) := (blk_cell HS5.out 0).trans rfl
              go_wp2_with (go_at_call 59; refine (mlp_bend_1.calls w.heap.size be (w.heap.size + 1 + 1) (w.heap.size + 1 + 1 + 1) A1_0 c1_0 l1_0 bb a2 ee _ g gs HE5.out HF5.out HG5.out HSB.out (by omega) HB5.out.size HR5.out (Kd.C_below HR1.out HB5.out) HC1.out ⟨HV.out.2.1, HBI.out⟩ (by have := HGL.out; have := HHL.out; have := HLT.out; have := HV.out.2.2.2.2.1; omega)).mono ?_; rintro ed W6 ⟨rfl, hb6, hfr, g6, he6, hg6, hr6, hat6⟩)
              have hgl6 : (addG ee gs l1_0 bb a2).length ≤ (j + 1) * 4097 := by
                have := HGL.out
                unfold addG
                split
                · have h1 := scaleV_lle l1_0 bb a2
                  rw [List.length_append, List.length_append, List.length_singleton]
                  omega
                · omega
              have hbw := HB5.out.size
              have hlx := blk_lt HX5.out
              have hls := blk_lt HS5.out
              have hlf := blk_lt HF5.out
              have hng : ∀ {k : Nat} {cs : Array Value} {ty : Nat}, WD.heap[k]? = some (Obj.cells cs ty (0, 0)) → 2 ≠ ty → some k ≠ g.ownBlock := fun hk ht => Kd.R_ne HR5.out hk ht
              have hh6 : Kd.R (Kd.int .i64) 2 W6 w.heap.size (fun q => some q ≠ g6.ownBlock) (.slice (some ⟨gh, 0, none⟩) hh.length ch) hh := by
                have h1 := Kd.R_bound (Kd.R_tight2 rfl HH5.out)
                have hb1 := Kd.R_ne HH5.out HE5.out (by decide)
                have hb2 := Kd.R_ne HH5.out HG5.out (by decide)
                refine Kd.R_mono (Kd.R_step h1 (fun q hq hql => hfr q hql (fun h => hb1 (by rw [← h]; exact hq.1.1)) (fun h => hb2 (by rw [← h]; exact hq.1.1)) hq.1.2)) (fun q hq h => ?_)
                rcases hat6 with h7 | ⟨k', h7, h8⟩
                · exact hq.1.2 (h.trans h7)
                · rw [h7] at h; injection h with h; have := hq.2.2.1; omega
              have hmax := HHL.out
              have hrows := HV.out.2.2.2.2.1
              exact ⟨⟨j + 1, addE ee l1_0 bb a2, addG ee gs l1_0 bb a2, g6, by (try rw [wrap64_of (show I64 ((j : Int) + 1) by unfold I64; omega)]); rfl, ⟨HLT.out⟩, ⟨hgl6⟩, ⟨HST.out⟩, ⟨he6⟩, ⟨(hfr _ hlx (by omega) (by omega) (hng HX5.out (by decide))).trans HX5.out⟩, ⟨(hfr _ hls (by omega) (by omega) (hng HS5.out (by decide))).trans HS5.out⟩, ⟨(hfr _ hlf (by omega) (by omega) (hng HF5.out (by decide))).trans HF5.out⟩, ⟨hg6⟩, ⟨hr6⟩, ⟨hh6⟩, ⟨HB5.out.trans hb6⟩⟩, by (try rw [wrap64_of (show I64 ((j : Int) + 1) by unfold I64; omega)]); have := HLT.out; simp [intOf]; omega⟩
            · have hby : byM l0_0 off a2 n j e = (0, e) := by unfold byM; rw [if_neg (fun h => cz h.2)]
              rw [hby] at hst
              dsimp only at hst
              have HST := Aside0.mk hst
              have HBI := Aside0.mk i64_zero
              have cz0 : (e == 0) = false := beq_eq_false_iff_ne.2 cz
              have HE5 := HE4
              have HX5 := HX4
              have HS5 := HS4
              have HF5 := HF4
              have HG5 := HG4
              have HR5 := HR4
              have HH5 := HH4
              have HB5 := HB4
              clear hst hby cz hgl hj hn
              go_wp2_with (go_at_call 59; refine (mlp_bend_1.calls w.heap.size be (w.heap.size + 1 + 1) (w.heap.size + 1 + 1 + 1) A1_0 c1_0 l1_0 0 a2 e _ g gs HE5.out HF5.out HG5.out HSB.out (by omega) HB5.out.size HR5.out (Kd.C_below HR1.out HB5.out) HC1.out ⟨HV.out.2.1, HBI.out⟩ (by have := HGL.out; have := HHL.out; have := HLT.out; have := HV.out.2.2.2.2.1; omega)).mono ?_; rintro ed W6 ⟨rfl, hb6, hfr, g6, he6, hg6, hr6, hat6⟩)
              have hgl6 : (addG e gs l1_0 0 a2).length ≤ (j + 1) * 4097 := by
                have := HGL.out
                unfold addG
                split
                · have h1 := scaleV_lle l1_0 0 a2
                  rw [List.length_append, List.length_append, List.length_singleton]
                  omega
                · omega
              have hbw := HB5.out.size
              have hlx := blk_lt HX5.out
              have hls := blk_lt HS5.out
              have hlf := blk_lt HF5.out
              have hng : ∀ {k : Nat} {cs : Array Value} {ty : Nat}, wr.heap[k]? = some (Obj.cells cs ty (0, 0)) → 2 ≠ ty → some k ≠ g.ownBlock := fun hk ht => Kd.R_ne HR5.out hk ht
              have hh6 : Kd.R (Kd.int .i64) 2 W6 w.heap.size (fun q => some q ≠ g6.ownBlock) (.slice (some ⟨gh, 0, none⟩) hh.length ch) hh := by
                have h1 := Kd.R_bound (Kd.R_tight2 rfl HH5.out)
                have hb1 := Kd.R_ne HH5.out HE5.out (by decide)
                have hb2 := Kd.R_ne HH5.out HG5.out (by decide)
                refine Kd.R_mono (Kd.R_step h1 (fun q hq hql => hfr q hql (fun h => hb1 (by rw [← h]; exact hq.1.1)) (fun h => hb2 (by rw [← h]; exact hq.1.1)) hq.1.2)) (fun q hq h => ?_)
                rcases hat6 with h7 | ⟨k', h7, h8⟩
                · exact hq.1.2 (h.trans h7)
                · rw [h7] at h; injection h with h; have := hq.2.2.1; omega
              have hmax := HHL.out
              have hrows := HV.out.2.2.2.2.1
              exact ⟨⟨j + 1, addE e l1_0 0 a2, addG e gs l1_0 0 a2, g6, by (try rw [wrap64_of (show I64 ((j : Int) + 1) by unfold I64; omega)]); rfl, ⟨HLT.out⟩, ⟨hgl6⟩, ⟨HST.out⟩, ⟨he6⟩, ⟨(hfr _ hlx (by omega) (by omega) (hng HX5.out (by decide))).trans HX5.out⟩, ⟨(hfr _ hls (by omega) (by omega) (hng HS5.out (by decide))).trans HS5.out⟩, ⟨(hfr _ hlf (by omega) (by omega) (hng HF5.out (by decide))).trans HF5.out⟩, ⟨hg6⟩, ⟨hr6⟩, ⟨hh6⟩, ⟨HB5.out.trans hb6⟩⟩, by (try rw [wrap64_of (show I64 ((j : Int) + 1) by unfold I64; omega)]); have := HLT.out; simp [intOf]; omega⟩
          · have hby : byM l0_0 off a2 n j e = (0, e) := by unfold byM; rw [if_neg (fun h => cn h.1)]
            rw [hby] at hst
            dsimp only at hst
            have HST := Aside0.mk hst
            have HBI := Aside0.mk i64_zero
            have HE5 := HE4
            have HX5 := HX4
            have HS5 := HS4
            have HF5 := HF4
            have HG5 := HG4
            have HR5 := HR4
            have HH5 := HH4
            have HB5 := HB4
            clear hst hby hgl hj hn
            go_wp2_with (go_at_call 59; refine (mlp_bend_1.calls w.heap.size be (w.heap.size + 1 + 1) (w.heap.size + 1 + 1 + 1) A1_0 c1_0 l1_0 0 a2 e _ g gs HE5.out HF5.out HG5.out HSB.out (by omega) HB5.out.size HR5.out (Kd.C_below HR1.out HB5.out) HC1.out ⟨HV.out.2.1, HBI.out⟩ (by have := HGL.out; have := HHL.out; have := HLT.out; have := HV.out.2.2.2.2.1; omega)).mono ?_; rintro ed W6 ⟨rfl, hb6, hfr, g6, he6, hg6, hr6, hat6⟩)
            have hgl6 : (addG e gs l1_0 0 a2).length ≤ (j + 1) * 4097 := by
              have := HGL.out
              unfold addG
              split
              · have h1 := scaleV_lle l1_0 0 a2
                rw [List.length_append, List.length_append, List.length_singleton]
                omega
              · omega
            have hbw := HB5.out.size
            have hlx := blk_lt HX5.out
            have hls := blk_lt HS5.out
            have hlf := blk_lt HF5.out
            have hng : ∀ {k : Nat} {cs : Array Value} {ty : Nat}, wr.heap[k]? = some (Obj.cells cs ty (0, 0)) → 2 ≠ ty → some k ≠ g.ownBlock := fun hk ht => Kd.R_ne HR5.out hk ht
            have hh6 : Kd.R (Kd.int .i64) 2 W6 w.heap.size (fun q => some q ≠ g6.ownBlock) (.slice (some ⟨gh, 0, none⟩) hh.length ch) hh := by
              have h1 := Kd.R_bound (Kd.R_tight2 rfl HH5.out)
              have hb1 := Kd.R_ne HH5.out HE5.out (by decide)
              have hb2 := Kd.R_ne HH5.out HG5.out (by decide)
              refine Kd.R_mono (Kd.R_step h1 (fun q hq hql => hfr q hql (fun h => hb1 (by rw [← h]; exact hq.1.1)) (fun h => hb2 (by rw [← h]; exact hq.1.1)) hq.1.2)) (fun q hq h => ?_)
              rcases hat6 with h7 | ⟨k', h7, h8⟩
              · exact hq.1.2 (h.trans h7)
              · rw [h7] at h; injection h with h; have := hq.2.2.1; omega
            have hmax := HHL.out
            have hrows := HV.out.2.2.2.2.1
            exact ⟨⟨j + 1, addE e l1_0 0 a2, addG e gs l1_0 0 a2, g6, by (try rw [wrap64_of (show I64 ((j : Int) + 1) by unfold I64; omega)]); rfl, ⟨HLT.out⟩, ⟨hgl6⟩, ⟨HST.out⟩, ⟨he6⟩, ⟨(hfr _ hlx (by omega) (by omega) (hng HX5.out (by decide))).trans HX5.out⟩, ⟨(hfr _ hls (by omega) (by omega) (hng HS5.out (by decide))).trans HS5.out⟩, ⟨(hfr _ hlf (by omega) (by omega) (hng HF5.out (by decide))).trans HF5.out⟩, ⟨hg6⟩, ⟨hr6⟩, ⟨hh6⟩, ⟨HB5.out.trans hb6⟩⟩, by (try rw [wrap64_of (show I64 ((j : Int) + 1) by unfold I64; omega)]); have := HLT.out; simp [intOf]; omega⟩
        · have hjn : j = hh.length := by omega
          subst hjn
          rw [List.drop_length, stepsM] at hst
          subst hst
          have hend := HEND.out
          dsimp only at hend
          have hgl2 : gs.length ≤ 100000 := by have := HHL.out; have := HV.out.2.2.2.2.1; omega
          have HGL := Aside0.mk hgl2
          obtain ⟨e6, he6q⟩ : ∃ e6, addE e hh off a2 = e6 := ⟨_, rfl⟩
          obtain ⟨gs6, hg6q⟩ : ∃ gs6, addG e gs hh off a2 = gs6 := ⟨_, rfl⟩
          rw [he6q, hg6q] at hend
          have HQ1 := Aside0.mk he6q
          have HQ2 := Aside0.mk hg6q
          clear hgl hgl2 hj hlt he6q hg6q
          by_cases c6 : e6 = 0
          · rw [if_neg (not_not_intro c6)] at hend
            obtain ⟨h1, h2⟩ : gs6 = r1 ∧ 0 = r2 := by cases hend; exact ⟨rfl, rfl⟩
            subst h1
            subst h2
            subst c6
            clear hend
            go_wp2_with (go_at_call 59; refine (mlp_bend_1.calls w.heap.size be (w.heap.size + 1 + 1) (w.heap.size + 1 + 1 + 1) Ah ch hh off a2 e _ g gs HE4.out HF4.out HG4.out HSB.out (by omega) HB4.out.size HR4.out (Kd.R_reads' HH4.out).2.2 (Kd.R_reads' HH4.out).2.1 ⟨HHV.out, HOF.out⟩ HGL.out).mono ?_; rintro ed W3 ⟨rfl, hb6, hfr, g6, he6, hg6, hr6, hat6⟩; rw [HQ1.out] at he6; rw [HQ2.out] at hr6; have HE := Aside0.mk he6; have HG3 := Aside0.mk hg6; have HR6 := Aside0.mk hr6; have HB3 := Aside0.mk (HB4.out.trans hb6); have hce3 : W3.cell? ⟨be, 0, none⟩ = some (.int .i64 _) := (blk_cell he6 0).trans rfl; have hfg3 := blk_frozen hg6 0; clear hb6 hfr he6 hg6 hr6 hat6; obtain ⟨A6, c6', e6'⟩ := Kd.R_slice HR6.out; generalize List.length _ = m6 at e6'; subst e6'; have hcg3 : W3.cell? ⟨w.heap.size + 1 + 1 + 1, 0, none⟩ = some (.slice A6 m6 c6') := (blk_cell HG3.out 0).trans rfl)
            have hbf := blk_set HG3.out 0 (.slice A6 m6 c6')
            have hrf := Kd.R_set HR6.out HG3.out (by decide) 0 (.slice A6 m6 c6')
            have hBf := HB3.out.setCell (p := ⟨w.heap.size + 1 + 1 + 1, 0, none⟩) (by show w.heap.size ≤ w.heap.size + 1 + 1 + 1; omega) (.slice A6 m6 c6')
            generalize World.setCell W3 ⟨w.heap.size + 1 + 1 + 1, 0, none⟩ (.slice A6 m6 c6') = Wf at hbf hrf hBf ⊢
            have ef : Wf.cell? ⟨w.heap.size + 1 + 1 + 1, 0, none⟩ = some (.slice A6 m6 c6') := (blk_cell hbf 0).trans rfl
            (try simp only [Exit.inBlock, Exit.then])
            refine bodyPost_ret (v := .tuple #[.slice A6 m6 c6', .int .i64 0]) ?_ rfl ⟨_, rfl, hrf, hBf⟩
            simp [results, go_sem, hu22, ef]
          · rw [if_pos c6] at hend
            obtain ⟨h1, h2⟩ : [] = r1 ∧ e6 = r2 := by cases hend; exact ⟨rfl, rfl⟩
            subst h1
            subst h2
            have c60 : (e6 == 0) = false := beq_eq_false_iff_ne.2 c6
            have c61 : (e6 != 0) = true := bne_iff_ne.2 c6
            clear hend c6
            go_wp2_with (go_at_call 59; refine (mlp_bend_1.calls w.heap.size be (w.heap.size + 1 + 1) (w.heap.size + 1 + 1 + 1) Ah ch hh off a2 e _ g gs HE4.out HF4.out HG4.out HSB.out (by omega) HB4.out.size HR4.out (Kd.R_reads' HH4.out).2.2 (Kd.R_reads' HH4.out).2.1 ⟨HHV.out, HOF.out⟩ HGL.out).mono ?_; rintro ed W3 ⟨rfl, hb6, hfr, g6, he6, hg6, hr6, hat6⟩; rw [HQ1.out] at he6; rw [HQ2.out] at hr6; have HE := Aside0.mk he6; have HG3 := Aside0.mk hg6; have HR6 := Aside0.mk hr6; have HB3 := Aside0.mk (HB4.out.trans hb6); have hce3 : W3.cell? ⟨be, 0, none⟩ = some (.int .i64 _) := (blk_cell he6 0).trans rfl; have hfg3 := blk_frozen hg6 0; clear hb6 hfr he6 hg6 hr6 hat6; obtain ⟨A6, c6', e6'⟩ := Kd.R_slice HR6.out; generalize List.length _ = m6 at e6'; subst e6'; have hcg3 : W3.cell? ⟨w.heap.size + 1 + 1 + 1, 0, none⟩ = some (.slice A6 m6 c6') := (blk_cell HG3.out 0).trans rfl)
            have hqe : W3.cell? ⟨be, 0, none⟩ = some (.int .i64 e6) := (blk_cell HE.out 0).trans rfl
            have hfg := blk_frozen HG3.out 0
            refine start_ (n := 3) (S := fun w' => w'.cell? ⟨be, 0, none⟩ = some (.int .i64 e6)) (ds := []) #[false, false, false] (by kernel_rfl) rfl rfl (hqe) (fun hHeld => ?_)
            refine take_ (i := 0) (N := some 76) (v := ?_) (a' := ?_) #[true, false, false] rfl rfl (by kernel_rfl) (fun _ _ _ h => h) (Or.inl ⟨by rfl, ?_⟩) hHeld ?_ ?_
            rotate_left
            · intro w' s0
              go_simp
              with_reducible rfl
            rotate_left
            · simp only [Act.put, List.setIfInBounds_toArray, List.set_cons_zero, List.set_cons_succ, i64_w, i32_w]
              rfl
            refine one_ (i := 1) (N := none) #[true, true, false] rfl rfl (by kernel_rfl) (by decide) (fun K hK => ?_)
            refine skip_ (w1 := ?_) (by rfl) rfl ?_ ?_
            rotate_left
            · go_simp
              rfl
            refine hK.out _ _ ((blk_cell (blk_far HE.out (p := ⟨w.heap.size + 1 + 1 + 1, 0, none⟩) HNE.out _) 0).trans rfl) (fun hHeld => ?_)
            clear hK K
            refine pure_ (i := 2) (N := some 7) (v := ?_) (a' := ?_) #[true, true, true] rfl rfl (by kernel_rfl) (fun _ _ _ h => h) (Or.inl ⟨by rfl, ?_⟩) ?_ ?_
            rotate_left
            · intro w'
              go_simp
              with_reducible rfl
            rotate_left
            · simp only [Act.put, List.setIfInBounds_toArray, List.set_cons_zero, List.set_cons_succ, i64_w, i32_w]
              rfl
            refine done_ (by kernel_rfl) ?_
            go_wp2
            have hbf := blk_set HG3.out 0 (.slice none 0 0)
            have hBf := below_drew (HB3.out.setCell (p := ⟨w.heap.size + 1 + 1 + 1, 0, none⟩) (by show w.heap.size ≤ w.heap.size + 1 + 1 + 1; omega) (.slice none 0 0))
            have hbf : (World.drew (W3.setCell ⟨w.heap.size + 1 + 1 + 1, 0, none⟩ (.slice none 0 0))).heap[w.heap.size + 1 + 1 + 1]? = _ := hbf
            generalize World.drew (W3.setCell ⟨w.heap.size + 1 + 1 + 1, 0, none⟩ (.slice none 0 0)) = Wf at hbf hBf ⊢
            have ef : Wf.cell? ⟨w.heap.size + 1 + 1 + 1, 0, none⟩ = some (.slice none 0 0) := (blk_cell hbf 0).trans rfl
            (try simp only [Exit.inBlock, Exit.then])
            refine bodyPost_ret (v := .tuple #[.slice none 0 0, .int .i64 e6]) ?_ rfl ⟨_, rfl, Kd.R_nil _ _ _ _ _, hBf⟩
            simp [results, go_sem, hu22, ef]
    · rw [if_pos ce1] at h
      obtain ⟨h1, h2⟩ : [] = r1 ∧ e1 = r2 := by cases h; exact ⟨rfl, rfl⟩
      subst h1
      subst h2
      have he0 : (e1 == 0) = false := beq_eq_false_iff_ne.2 ce1
      have he1 : (e1 != 0) = true := bne_iff_ne.2 ce1
      clear h ce1
      have hx0 := (blk_cell HX.out 0).trans rfl
      have hx1 := (blk_cell HX.out 1).trans rfl
      have hx2 := (blk_cell HX.out 2).trans rfl
      have hs0 := (blk_cell HS.out 0).trans rfl
      have hs1 := (blk_cell HS.out 1).trans rfl
      have hf0 := (blk_cell HF.out 0).trans rfl
      rw [← hW0] at hx0 hx1 hx2 hs0 hs1 hf0
      clear hW0 hsz0
      go_enter Try.func45, Try.ntmps45
      go_wp2_with (first | (go_at_call 36; rw [HW0.out]; (with_reducible refine (mlp_net_tell.calls (some al) c0_0 l0_0 A0_1 c0_1 l0_1 a0_2 A1_0 c1_0 l1_0 a2 hh t 0 W0 (Kd.C_below HR00.out HB0.out) HC00.out (Kd.C_below HR01.out HB0.out) HC01.out (Kd.C_below HR1.out HB0.out) HC1.out AT.out).mono ?_); rintro ed W2 ⟨v_, rfl, hR, hb⟩; obtain ⟨Ah, ch, eh⟩ := Kd.R_slice hR; subst eh; have HR := Aside0.mk hR; have HB2 := Aside0.mk hb; clear hR hb; have hs1b : (W2.alloc (Obj.cells #[.int .i64 0] 27)).cell? ⟨w.heap.size + 1, 1, none⟩ = some (.int .i64 a1_1) := (blk_cell (kkA (blk_below HS.out HB2.out) _) 1).trans rfl) | (go_at_call 38; (with_reducible refine (fix_Sub.calls t a1_1 off e1 _ AS.out).mono ?_); rintro ed W3 ⟨rfl, ⟨nd, rfl⟩⟩))
      have hsz := HB2.out.size
      have hE0 := blk_new W2 (Obj.cells #[.int .i64 0] 27)
      have hE := blk_set (kkN hE0 nd) 0 (.int .i64 e1)
      have hneX : w.heap.size ≠ W2.heap.size := by have := blk_lt (blk_below HX.out HB2.out); omega
      have hneS : w.heap.size + 1 ≠ W2.heap.size := by have := blk_lt (blk_below HS.out HB2.out); omega
      have hneF : w.heap.size + 1 + 1 ≠ W2.heap.size := by have := blk_lt (blk_below HF.out HB2.out); omega
      have hne : W2.heap.size ≠ w.heap.size + 1 + 1 + 1 := by have := blk_lt (blk_below HG.out HB2.out); omega
      have hX3 := blk_far (kkN (kkA (blk_below HX.out HB2.out) (Obj.cells #[.int .i64 0] 27)) nd) (p := ⟨W2.heap.size, 0, none⟩) hneX (.int .i64 e1)
      have hS3 := blk_far (kkN (kkA (blk_below HS.out HB2.out) (Obj.cells #[.int .i64 0] 27)) nd) (p := ⟨W2.heap.size, 0, none⟩) hneS (.int .i64 e1)
      have hF3 := blk_far (kkN (kkA (blk_below HF.out HB2.out) (Obj.cells #[.int .i64 0] 27)) nd) (p := ⟨W2.heap.size, 0, none⟩) hneF (.int .i64 e1)
      have hG3 := blk_far (kkN (kkA (blk_below HG.out HB2.out) (Obj.cells #[.int .i64 0] 27)) nd) (p := ⟨W2.heap.size, 0, none⟩) hne.symm (.int .i64 e1)
      have hH3 := Kd.R_set (rrN (rrA HR.out (Obj.cells #[.int .i64 0] 27)) nd) (kkN hE0 nd) (by decide) 0 (.int .i64 e1)
      have hB3 := (zzN (zzA (below_then HB0.out HB0.out.size HB2.out) (Obj.cells #[.int .i64 0] 27)) nd).setCell (p := ⟨W2.heap.size, 0, none⟩) (by show w.heap.size ≤ W2.heap.size; exact Nat.le_trans HB0.out.size hsz) (.int .i64 e1)
      have hsb : w.heap.size ≤ W2.heap.size := Nat.le_trans HB0.out.size hsz
      generalize World.setCell _ ⟨W2.heap.size, 0, none⟩ (.int .i64 e1) = W3 at hE hX3 hS3 hF3 hG3 hH3 hB3 ⊢
      clear hE0 hs1b
      generalize W2.heap.size = be at hE hne hsb hneX hneS hneF ⊢
      have HE := Aside0.mk hE
      have HNE := Aside0.mk hne
      have HX3 := Aside0.mk hX3
      have HS3 := Aside0.mk hS3
      have HF3 := Aside0.mk hF3
      have HG3 := Aside0.mk hG3
      have HH3 := Aside0.mk hH3
      have HB3 := Aside0.mk hB3
      have HSB := Aside0.mk hsb
      have hqe : W3.cell? ⟨be, 0, none⟩ = some (.int .i64 e1) := (blk_cell HE.out 0).trans rfl
      have hqg : W3.cell? ⟨w.heap.size + 1 + 1 + 1, 0, none⟩ = some (.slice none 0 0) := (blk_cell HG3.out 0).trans rfl
      have hfg := blk_frozen HG3.out 0
      clear hE hne hX3 hS3 hF3 hG3 hH3 hB3 hsb
      refine start_ (n := 3) (S := fun w' => w'.cell? ⟨be, 0, none⟩ = some (.int .i64 e1)) (ds := []) #[false, false, false] (by kernel_rfl) rfl rfl (hqe) (fun hHeld => ?_)
      refine take_ (i := 0) (N := some 37) (v := ?_) (a' := ?_) #[true, false, false] rfl rfl (by kernel_rfl) (fun _ _ _ h => h) (Or.inl ⟨by rfl, ?_⟩) hHeld ?_ ?_
      rotate_left
      · intro w' s0
        go_simp
        with_reducible rfl
      rotate_left
      · simp only [Act.put, List.setIfInBounds_toArray, List.set_cons_zero, List.set_cons_succ, i64_w, i32_w]
        rfl
      refine one_ (i := 1) (N := none) #[true, true, false] rfl rfl (by kernel_rfl) (by decide) (fun K hK => ?_)
      refine skip_ (w1 := ?_) (by rfl) rfl ?_ ?_
      rotate_left
      · go_simp
        rfl
      refine hK.out _ _ ((blk_cell (blk_far HE.out (p := ⟨w.heap.size + 1 + 1 + 1, 0, none⟩) HNE.out _) 0).trans rfl) (fun hHeld => ?_)
      clear hK K
      refine pure_ (i := 2) (N := some 7) (v := ?_) (a' := ?_) #[true, true, true] rfl rfl (by kernel_rfl) (fun _ _ _ h => h) (Or.inl ⟨by rfl, ?_⟩) ?_ ?_
      rotate_left
      · intro w'
        go_simp
        with_reducible rfl
      rotate_left
      · simp only [Act.put, List.setIfInBounds_toArray, List.set_cons_zero, List.set_cons_succ, i64_w, i32_w]
        rfl
      refine done_ (by kernel_rfl) ?_
      go_wp2
      have hbf := blk_set HG3.out 0 (.slice none 0 0)
      have hBf := below_drew (HB3.out.setCell (p := ⟨w.heap.size + 1 + 1 + 1, 0, none⟩) (by show w.heap.size ≤ w.heap.size + 1 + 1 + 1; omega) (.slice none 0 0))
      have hbf : (World.drew (W3.setCell ⟨w.heap.size + 1 + 1 + 1, 0, none⟩ (.slice none 0 0))).heap[w.heap.size + 1 + 1 + 1]? = _ := hbf
      generalize World.drew (W3.setCell ⟨w.heap.size + 1 + 1 + 1, 0, none⟩ (.slice none 0 0)) = Wf at hbf hBf ⊢
      have ef : Wf.cell? ⟨w.heap.size + 1 + 1 + 1, 0, none⟩ = some (.slice none 0 0) := (blk_cell hbf 0).trans rfl
      (try simp only [Exit.inBlock, Exit.then])
      refine bodyPost_ret (v := .tuple #[.slice none 0 0, .int .i64 e1]) ?_ rfl ⟨_, rfl, Kd.R_nil _ _ _ _ _, hBf⟩
      simp [results, go_sem, hu22, ef]
  · rw [if_pos ce] at h
    obtain ⟨h1, h2⟩ : [] = r1 ∧ e = r2 := by cases h; exact ⟨rfl, rfl⟩
    subst h1
    subst h2
    have he0 : (e == 0) = false := beq_eq_false_iff_ne.2 ce
    have he1 : (e != 0) = true := bne_iff_ne.2 ce
    clear h ce
    have hx0 := (blk_cell HX.out 0).trans rfl
    have hx1 := (blk_cell HX.out 1).trans rfl
    have hx2 := (blk_cell HX.out 2).trans rfl
    have hs0 := (blk_cell HS.out 0).trans rfl
    have hs1 := (blk_cell HS.out 1).trans rfl
    have hf0 := (blk_cell HF.out 0).trans rfl
    rw [← hW0] at hx0 hx1 hx2 hs0 hs1 hf0
    clear hW0 hsz0
    go_enter Try.func45, Try.ntmps45
    go_wp2_with (go_at_call 36; rw [HW0.out]; (with_reducible refine (mlp_net_tell.calls (some al) c0_0 l0_0 A0_1 c0_1 l0_1 a0_2 A1_0 c1_0 l1_0 a2 hh t e W0 (Kd.C_below HR00.out HB0.out) HC00.out (Kd.C_below HR01.out HB0.out) HC01.out (Kd.C_below HR1.out HB0.out) HC1.out AT.out).mono ?_); rintro ed W2 ⟨v_, rfl, hR, hb⟩; obtain ⟨Ah, ch, eh⟩ := Kd.R_slice hR; subst eh; have HR := Aside0.mk hR; have HB2 := Aside0.mk hb; clear hR hb)
    have hsz := HB2.out.size
    have hE := blk_new W2 (Obj.cells #[.int .i64 e] 27)
    have hG3 := kkA (blk_below HG.out HB2.out) (Obj.cells #[.int .i64 e] 27)
    have hB3 := zzA (below_then HB0.out HB0.out.size HB2.out) (Obj.cells #[.int .i64 e] 27)
    have hne : W2.heap.size ≠ w.heap.size + 1 + 1 + 1 := by have := blk_lt (blk_below HG.out HB2.out); omega
    generalize World.alloc W2 (Obj.cells #[.int .i64 e] 27) = W3 at hE hG3 hB3 ⊢
    generalize W2.heap.size = be at hE hne ⊢
    have HE := Aside0.mk hE
    have HNE := Aside0.mk hne
    have HG3 := Aside0.mk hG3
    have HB3 := Aside0.mk hB3
    have hqe : W3.cell? ⟨be, 0, none⟩ = some (.int .i64 e) := (blk_cell HE.out 0).trans rfl
    have hqg : W3.cell? ⟨w.heap.size + 1 + 1 + 1, 0, none⟩ = some (.slice none 0 0) := (blk_cell HG3.out 0).trans rfl
    have hfg := blk_frozen HG3.out 0
    clear hE hne hG3 hB3
    refine start_ (n := 3) (S := fun w' => w'.cell? ⟨be, 0, none⟩ = some (.int .i64 e)) (ds := []) #[false, false, false] (by kernel_rfl) rfl rfl (hqe) (fun hHeld => ?_)
    refine take_ (i := 0) (N := some 27) (v := ?_) (a' := ?_) #[true, false, false] rfl rfl (by kernel_rfl) (fun _ _ _ h => h) (Or.inl ⟨by rfl, ?_⟩) hHeld ?_ ?_
    rotate_left
    · intro w' s0
      go_simp
      with_reducible rfl
    rotate_left
    · simp only [Act.put, List.setIfInBounds_toArray, List.set_cons_zero, List.set_cons_succ, i64_w, i32_w]
      rfl
    refine one_ (i := 1) (N := none) #[true, true, false] rfl rfl (by kernel_rfl) (by decide) (fun K hK => ?_)
    refine skip_ (w1 := ?_) (by rfl) rfl ?_ ?_
    rotate_left
    · go_simp
      rfl
    refine hK.out _ _ ((blk_cell (blk_far HE.out (p := ⟨w.heap.size + 1 + 1 + 1, 0, none⟩) HNE.out _) 0).trans rfl) (fun hHeld => ?_)
    clear hK K
    refine pure_ (i := 2) (N := some 7) (v := ?_) (a' := ?_) #[true, true, true] rfl rfl (by kernel_rfl) (fun _ _ _ h => h) (Or.inl ⟨by rfl, ?_⟩) ?_ ?_
    rotate_left
    · intro w'
      go_simp
      with_reducible rfl
    rotate_left
    · simp only [Act.put, List.setIfInBounds_toArray, List.set_cons_zero, List.set_cons_succ, i64_w, i32_w]
      rfl
    refine done_ (by kernel_rfl) ?_
    go_wp2
    have hbf := blk_set HG3.out 0 (.slice none 0 0)
    have hBf := below_drew (HB3.out.setCell (p := ⟨w.heap.size + 1 + 1 + 1, 0, none⟩) (by show w.heap.size ≤ w.heap.size + 1 + 1 + 1; omega) (.slice none 0 0))
    have hbf : (World.drew (W3.setCell ⟨w.heap.size + 1 + 1 + 1, 0, none⟩ (.slice none 0 0))).heap[w.heap.size + 1 + 1 + 1]? = _ := hbf
    generalize World.drew (W3.setCell ⟨w.heap.size + 1 + 1 + 1, 0, none⟩ (.slice none 0 0)) = Wf at hbf hBf ⊢
    have ef : Wf.cell? ⟨w.heap.size + 1 + 1 + 1, 0, none⟩ = some (.slice none 0 0) := (blk_cell hbf 0).trans rfl
    (try simp only [Exit.inBlock, Exit.then])
    refine bodyPost_ret (v := .tuple #[.slice none 0 0, .int .i64 e]) ?_ rfl ⟨_, rfl, Kd.R_nil _ _ _ _ _, hBf⟩
    simp [results, go_sem, hu22, ef]


-- NOT PRINTED: function 83 (vec_Add_1)

/-! ### vec_Add: function 76 -/
set_option maxHeartbeats 2000000 in
set_option maxRecDepth 100000 in
theorem vec_Add_1.calls (b1 b2 : Nat) (A0 : Option Addr) (c0 : Nat) (l0 : List Int) (A1 : Option Addr) (c1 : Nat) (l1 : List Int) (i : Nat) (W : World) (x e : Int)
    (hb1 : W.cell? ⟨b1, 0, none⟩ = some (.slice A0 l0.length c0)) (hb2 : W.cell? ⟨b2, 0, none⟩ = some (.slice A1 l1.length c1))
    (hr0 : Kd.C (Kd.int .i64) W A0 l0.length l0) (hr1 : Kd.C (Kd.int .i64) W A1 l1.length l1) (h0 : i < l0.length) (h1 : i < l1.length)
    (h : fix_Add.f (rd l0 i) (rd l1 i) = some (x, e)) :
    Calls Try.prog 83 #[.int .i64 i, .pointer (some ⟨b1, 0, none⟩), .pointer (some ⟨b2, 0, none⟩)] W fun ed W' => ed = .returned (.tuple #[.int .i64 x, .int .i64 e]) ∧ Drawn0 W W' := by
  obtain ⟨ad0, rfl, hc0⟩ := Kd.at_int hr0 (i : Int) (by omega) (by omega)
  obtain ⟨ad1, rfl, hc1⟩ := Kd.at_int hr1 (i : Int) (by omega) (by omega)
  simp only [Int.toNat_natCast] at hc0 hc1
  have HC := Aside0.mk h
  clear hr0 hr1 h
  go_enter Try.func83, Try.ntmps83
  go_wp2
  go_quiet ((go_at_call 35; (with_reducible refine (fix_Add.calls (rd l0 i) (rd l1 i) x e _ HC.out).mono ?_); rintro ed W2 ⟨rfl, ⟨nd, rfl⟩⟩; (try first | exact ⟨rfl, _, wwN _ _ _⟩ | exact ⟨rfl, _, ww3 _ _ _ _⟩ | exact ⟨rfl, _, rfl⟩)))
  go_wp2
  go_ret2
  exact ⟨rfl, ⟨_, rfl⟩⟩
def vec_Add.f (l0 l1 : List Int) : Option (List Int × Int) := if V64 l0 ∧ V64 l1 then some (addV l0 l1) else none
theorem vec_Add.of (l0 l1 : List Int)  (h_ : V64 l0 ∧ V64 l1) : vec_Add.f l0 l1 = some (addV l0 l1) := if_pos h_
set_option maxHeartbeats 2000000 in
set_option maxRecDepth 100000 in
theorem vec_Add.calls (A0 : Option Addr) (c0 : Nat) (l0 : List Int) (A1 : Option Addr) (c1 : Nat) (l1 : List Int) (r1 : List Int) (r2 : Int) (w : World) (hr0 : Kd.C (Kd.int .i64) w A0 l0.length l0) (hc0 : l0.length ≤ c0) (hr1 : Kd.C (Kd.int .i64) w A1 l1.length l1) (hc1 : l1.length ≤ c1) (h : vec_Add.f l0 l1 = some (r1, r2)) :
    Calls Try.prog 76 #[.slice A0 l0.length c0, .slice A1 l1.length c1] w fun e w' => ∃ v0_ : Value, e = .returned (.tuple #[v0_, .int .i64 r2]) ∧ Kd.R (Kd.int .i64) 2 w' w.heap.size (fun _ => True) v0_ r1 ∧ Below w.heap.size w w' := by
  unfold vec_Add.f at h
  split at h
  case isFalse => cases h
  rename_i hv
  have h := Option.some.inj h
  unfold addV at h
  have HR0 := Aside0.mk hr0
  have HC0 := Aside0.mk hc0
  have HR1 := Aside0.mk hr1
  have HC1 := Aside0.mk hc1
  clear hr0 hc0 hr1 hc1
  have HV := Aside0.mk hv
  clear hv
  try have hu22 := Try.underlying22
  have HP0 : Aside0 (vec_pair.f l0 l1 = some (pairE l0 l1)) := ⟨rfl⟩
  by_cases hp0 : pairE l0 l1 = 0
  · rw [if_pos hp0] at h
    rw [hp0] at HP0
    have HL : Aside0 (l0.length = l1.length) := ⟨pairE_len hp0⟩
    have HN : Aside0 (l0.length ≤ 4096) := ⟨pairE_le hp0⟩
    have HH := Aside0.mk h
    clear h hp0
    have HX0 : Aside0 (((w.alloc (Obj.cells #[Value.slice A0 l0.length c0] 22)).alloc (Obj.cells #[Value.slice A1 l1.length c1] 22)).cell? ⟨w.heap.size, 0, none⟩ = some (.slice A0 l0.length c0)) := ⟨by simp [go_sem]⟩
    have HX1 : Aside0 (((w.alloc (Obj.cells #[Value.slice A0 l0.length c0] 22)).alloc (Obj.cells #[Value.slice A1 l1.length c1] 22)).cell? ⟨w.heap.size + 1, 0, none⟩ = some (.slice A1 l1.length c1)) := ⟨by simp [go_sem]⟩
    have HB : Aside0 (Below w.heap.size w ((w.alloc (Obj.cells #[Value.slice A0 l0.length c0] 22)).alloc (Obj.cells #[Value.slice A1 l1.length c1] 22))) := ⟨zzA (zzA (Below.refl _ _) _) _⟩
    go_enter Try.func76, Try.ntmps76
    go_wp2_with (first | (go_at_call 50; (with_reducible refine (vec_pair.calls A0 c0 l0 A1 c1 l1 0 _ (Kd.C_below HR0.out HB.out) HC0.out (Kd.C_below HR1.out HB.out) HC1.out HP0.out).mono ?_); rintro ed W1 ⟨rfl, hd⟩; have hb := hd; clear hd; have HB := Aside0.mk (below_then HB.out HB.out.size hb); have HX0 := Aside0.mk (pw_cell_below hb HX0.out); have HX1 := Aside0.mk (pw_cell_below hb HX1.out); have hx0 := HX0.out; have hx1 := HX1.out; clear hb) | (go_at_call 74; (with_reducible refine (vec_each.calls 83 _ (fun i : Nat => fix_Add.f (rd l0 i) (rd l1 i)) l0.length (by have := HN.out; omega) _ r1 r2 ?ent ?tells ?go).mono ?_); (case ent => exact enters_of Try.func83 rfl rfl); (case tells => intro i W x e hi hb hg; refine (vec_Add_1.calls (w.heap.size) (w.heap.size + 1) A0 c0 l0 A1 c1 l1 i W x e (pw_cell_below hb HX0.out) (pw_cell_below hb HX1.out) (Kd.C_below (Kd.C_below HR0.out HB.out) hb) (Kd.C_below (Kd.C_below HR1.out HB.out) hb) (by have := HL.out; omega) (by have := HL.out; omega) hg).mono ?_; rintro ed W' ⟨rfl, hd⟩; exact ⟨rfl, hd.below⟩); (case go => exact (each_spec (ps := List.zipWith (fun x y => res (x + y)) l0 l1) (by have := HL.out; rw [List.length_zipWith]; omega) (fun j h => by rw [zip_get _ _ HL.out j h]; exact fix_Add.of _ _ ⟨HV.out.1.rd _, HV.out.2.rd _⟩)).trans (congrArg some HH.out)); rintro ed W2 ⟨v_, rfl, hR, hb⟩; have HO := Aside0.mk (Kd.R_lower hR HB.out.size); have HB2 := Aside0.mk (below_then HB.out HB.out.size hb); clear hR hb))
    go_ret2
    exact ⟨_, rfl, HO.out, HB2.out⟩
  · rw [if_neg hp0] at h
    cases h
    have HX0 : Aside0 (((w.alloc (Obj.cells #[Value.slice A0 l0.length c0] 22)).alloc (Obj.cells #[Value.slice A1 l1.length c1] 22)).cell? ⟨w.heap.size, 0, none⟩ = some (.slice A0 l0.length c0)) := ⟨by simp [go_sem]⟩
    have HX1 : Aside0 (((w.alloc (Obj.cells #[Value.slice A0 l0.length c0] 22)).alloc (Obj.cells #[Value.slice A1 l1.length c1] 22)).cell? ⟨w.heap.size + 1, 0, none⟩ = some (.slice A1 l1.length c1)) := ⟨by simp [go_sem]⟩
    have HB : Aside0 (Below w.heap.size w ((w.alloc (Obj.cells #[Value.slice A0 l0.length c0] 22)).alloc (Obj.cells #[Value.slice A1 l1.length c1] 22))) := ⟨zzA (zzA (Below.refl _ _) _) _⟩
    have he0 : (pairE l0 l1 == 0) = false := beq_eq_false_iff_ne.2 hp0
    have he1 : (pairE l0 l1 != 0) = true := bne_iff_ne.2 hp0
    obtain ⟨e_, hE⟩ : ∃ e_ : Int, pairE l0 l1 = e_ := ⟨_, rfl⟩
    rw [hE] at HP0 he0 he1
    simp only [hE]
    clear hE hp0
    go_enter Try.func76, Try.ntmps76
    go_wp2_with (first | (go_at_call 50; (with_reducible refine (vec_pair.calls A0 c0 l0 A1 c1 l1 e_ _ (Kd.C_below HR0.out HB.out) HC0.out (Kd.C_below HR1.out HB.out) HC1.out HP0.out).mono ?_); rintro ed W1 ⟨rfl, hd⟩; have hb := hd; clear hd; have HB := Aside0.mk (below_then HB.out HB.out.size hb); have HX0 := Aside0.mk (pw_cell_below hb HX0.out); have HX1 := Aside0.mk (pw_cell_below hb HX1.out); have hx0 := HX0.out; have hx1 := HX1.out; clear hb))
    go_ret2
    exact ⟨_, rfl, Kd.R_nil _ _ _ _ _, HB.out⟩


end Go.Proofs.Ytalamamjodihaaa.HP
