/- mlp.split: a range over the pieces of the numbers; what it hands on leads to the numbers themselves. -/
import Derived.Test.YtbnfejaeekljcaaRange
import Derived.Laws.ResultCell
namespace Go.Proofs.Ytbnfejaeekljcaa.Sp
open Go.RowKit Go.Shelf Go.Proofs.YtbnfejaeekljcaaW.PrintWords
attribute [local go_sem] Oper.semAt_some
set_option linter.unusedVariables false
set_option linter.unusedSimpArgs false
def cutsM (ad : Addr) (m k : Nat) : List Value := (List.range k).map fun i => .slice (some (ad.add (i * m))) m m
set_option maxRecDepth 100000 in
set_option maxHeartbeats 2000000 in
theorem split_in (k m : Nat) (ad : Addr) (c : Nat) (l : List Int) (w : World) (hk1 : 1 ≤ k) (hk8 : k ≤ 8) (hm2 : 2 ≤ m) (hm17 : m ≤ 17) (hkm : k * m + k + 1 = l.length) (hr : Kd.C (Kd.int .i64) w (some ad) l.length l) (hc : l.length ≤ c)
    (hhid : ∀ w, Calls Try.prog 62 #[.int .i64 k] w fun e w' => e = .returned (.bool true) ∧ Drawn0 w w')
    (hdim : ∀ w, Calls Try.prog 63 #[.int .i64 ((m : Int) - 1), .int .i64 k] w fun e w' => e = .returned (.tuple #[.int .i64 l.length, .int .i64 0]) ∧ Drawn0 w w') :
    Calls Try.prog 38 #[.int .i64 k, .slice (some ad) l.length c] w fun e w' => ∃ v0_ : Value, e = .returned (.tuple #[.agg #[.slice (some (ad.add (k * m))) (k + 1) (c - k * m), v0_, .int .i64 ((m : Int) - 1)], .int .i64 0]) ∧ w'.ownsRow w.heap.size 26 1 v0_ k (cutsM ad m k) ∧ Below w.heap.size w w' := by
  obtain ⟨L, hL⟩ : ∃ L, l.length = L := ⟨_, rfl⟩
  obtain ⟨p, hp⟩ : ∃ p, k * m = p := ⟨_, rfl⟩
  rw [hL] at hr hc hkm hdim ⊢
  rw [hp] at hkm ⊢
  have hpb : p ≤ 8 * 17 := by rw [← hp]; exact Nat.mul_le_mul hk8 hm17
  have hk0 : (k : Int) ≠ 0 := by omega
  have hw1 : wrap64 ((L : Int) - 1) = (L : Int) - 1 := wrap64_of (by unfold I64; omega)
  have hdiv : ((L : Int) - 1) / (k : Int) = (m : Int) + 1 := by
    have h2 : (L : Int) - 1 = ((m : Int) + 1) * k := by
      have h3 : ((k * m : Nat) : Int) = (m : Int) * k := by push_cast; exact Int.mul_comm _ _
      rw [Int.add_mul, ← h3, hp]; omega
    rw [h2]; exact Int.mul_ediv_cancel _ hk0
  have hmul : wrap64 ((k : Int) * m) = (p : Int) := by
    have h3 : ((k * m : Nat) : Int) = (k : Int) * m := by push_cast; rfl
    rw [← h3, hp, wrap64_of (by unfold I64; omega)]
  have hw2 : wrap64 ((m : Int) + 1 - 1) = m := by rw [wrap64_of (by unfold I64; omega)]; omega
  have hw3 : wrap64 ((m : Int) - 1) = (m : Int) - 1 := wrap64_of (by unfold I64; omega)
  have hu := Try.underlying26
  have hu54 := Try.underlying76
  have hu52 := Try.underlying74
  refine (callsIn_wide (n := 12)).1 ?_
  refine callsIn_of_wp_marks Try.func38 rfl trivial ?_ rfl
  simp only [Try.ntmps38, List.size_toArray, List.length_cons, List.length_nil, Nat.reduceAdd, Nat.reduceSub, Array.replicate_succ, Array.replicate_zero, List.push_toArray, List.append_toArray, List.nil_append, List.cons_append]
  gi_wp2_with (first | (refine ⟨trivial, ?_⟩; gi_at_call 62; refine (callsIn_wide.2 (hhid _)).mono ?_; rintro e w' ⟨rfl, ⟨nd0, rfl⟩⟩) | (refine ⟨trivial, ?_⟩; gi_at_call 63; refine (callsIn_wide.2 (hdim _)).mono ?_; rintro e w' ⟨rfl, ⟨nd1, rfl⟩⟩) | (refine ⟨trivial, ?_⟩; gi_at_call 64; refine (chunk_in Fence.wide _ trivial rfl _ _ _ _ (by omega) _).mono ?_; rintro e w' ⟨rfl, rfl⟩))
  obtain ⟨W0, hW0⟩ : ∃ W0, (((((w.alloc (.cells #[.slice none 0 0, .slice none 0 0, .int .i64 0] 76)).drewN (nd0 + nd1)).alloc (.cells #[.slice (some (ad.add p)) (L - p) (c - p), .slice none 0 0, .int .i64 ((m : Int) - 1)] 76)).alloc (.cells #[.slice (some ad) p c] 26)).alloc (.cells #[.int .i64 m] 3)) = W0 := ⟨_, rfl⟩
  rw [hW0]
  have hsz : W0.heap.size = w.heap.size + 4 := by rw [← hW0]; simp [World.drewN]
  have b0 : W0.heap[w.heap.size]? = some (.cells #[.slice none 0 0, .slice none 0 0, .int .i64 0] 76 (0, 0)) := by rw [← hW0]; show ((((w.heap.push _).push _).push _).push _)[w.heap.size]? = _; rw [Array.getElem?_push, if_neg (by simp only [Array.size_push]; omega), Array.getElem?_push, if_neg (by simp only [Array.size_push]; omega), Array.getElem?_push, if_neg (by simp only [Array.size_push]; omega), Array.getElem?_push, if_pos rfl]
  have b1 : W0.heap[w.heap.size + 1]? = some (.cells #[.slice (some (ad.add p)) (L - p) (c - p), .slice none 0 0, .int .i64 ((m : Int) - 1)] 76 (0, 0)) := by rw [← hW0]; show ((((w.heap.push _).push _).push _).push _)[w.heap.size + 1]? = _; rw [Array.getElem?_push, if_neg (by simp only [Array.size_push]; omega), Array.getElem?_push, if_neg (by simp only [Array.size_push]; omega), Array.getElem?_push, if_pos (by simp only [Array.size_push])]
  have c1 : W0.cell? ⟨w.heap.size + 2, 0, none⟩ = some (.slice (some ad) p c) := by rw [← hW0]; simp [go_sem, World.drewN]
  have c2 : W0.cell? ⟨w.heap.size + 3, 0, none⟩ = some (.int .i64 m) := by rw [← hW0]; simp [go_sem, World.drewN]
  have hB0 : Below w.heap.size w W0 := by
    rw [← hW0]
    exact (((pw_below_drewN (below_alloc (Below.refl _ w) _) _).alloc (by simp [World.drewN]) _).alloc (by simp [World.drewN]; omega) _).alloc (by simp [World.drewN]; omega) _
  clear hW0
  refine wpIn_rangeFunc_ownG rfl (by omega) (gf := 91) (lb := #[.pointer (some ⟨w.heap.size + 2, 0, none⟩), .pointer (some ⟨w.heap.size + 3, 0, none⟩)]) rfl trivial (enters_of Try.func91 (by kernel_rfl) rfl)
    (chunk_stops Fence.wide _ trivial rfl (by omega) (w.heap.size + 2) (w.heap.size + 3) ad m k p c (by omega) hp (by omega) (by omega) W0 (by omega) (by omega) c1 c2)
    K2.trans (fun W j o o' hj _ _ _ => K2.of (World.putObj_heap_other (by omega)) (World.putObj_heap_other (by omega))) (Below.refl _ _) (fun _ => rfl)
    (fun pre W => (∃ v, W.heap[w.heap.size + 1]? = some (Obj.cells #[.slice (some (ad.add p)) (L - p) (c - p), v, .int .i64 ((m : Int) - 1)] 76 (0, 0)) ∧ W.ownsRow W0.heap.size 26 1 v pre.length (pre.map fun x => .slice (some (ad.add (x.1 * m))) m m)) ∧ W.heap[w.heap.size]? = some (Obj.cells #[.slice none 0 0, .slice none 0 0, .int .i64 0] 76 (0, 0)) ∧ Below w.heap.size w W ∧ W0.heap.size ≤ W.heap.size)
    (fun _ _ _ => False)
    ?own
    (fun _ _ _ _ _ hs _ _ => hs)
    ⟨⟨_, b1, own_nil _ _ _ _⟩, b0, hB0, Nat.le_refl _⟩
    (fun x => { tmps := #[.int .i64 k, .slice (some ad) L c, undef, undef, .pointer (some ⟨w.heap.size, 0, none⟩), .int .i64 0, .int .i64 m, .int .i64 L, .int .i64 0, .pointer (some ⟨w.heap.size + 1, 0, none⟩), .slice (some (ad.add (x.1 * m))) m m, .int .i64 k, .bool true, .bool false, undef, .slice (some ad) L c, .int .i64 L, .int .i64 (L - 1), .int .i64 k, .int .i64 (m + 1), .int .i64 m, .tuple #[.int .i64 L, .int .i64 0], .int .i64 m, .int .i64 (m - 1), .int .i64 k, .tuple #[.int .i64 L, .int .i64 0], .int .i64 L, .int .i64 0, .int .i64 0, .bool false, .bool false, .int .i64 L, .slice (some ad) L c, .int .i64 L, .bool false, .bool false, undef, .slice (some ad) L c, .int .i64 k, .int .i64 m, .int .i64 (k * m), .slice (some (ad.add p)) (L - p) (c - p), .agg #[.slice (some (ad.add p)) (L - p) (c - p)], .int .i64 m, .int .i64 (m - 1), .agg #[.slice (some (ad.add p)) (L - p) (c - p), .slice none 0 0, .int .i64 (m - 1)], .slice (some ad) L c, .int .i64 k, .int .i64 m, .int .i64 (k * m), .slice (some ad) p c, .int .i64 m, .func (.func 91) #[] #[.pointer (some ⟨w.heap.size + 2, 0, none⟩), .pointer (some ⟨w.heap.size + 3, 0, none⟩)], .slice (some (ad.add (x.1 * m))) m m, undef, undef, undef, undef, undef, undef, undef], defers := [] }) ?assign ?body ?done ?stop
  case own =>
    rintro s W W' row ⟨⟨v, hb, hS⟩, hb0, hB, hBs⟩ hg hr
    have hn : ∀ (j : Nat) (cs : Array Value) (t : Nat), W.heap[j]? = some (Obj.cells cs t (0, 0)) → W'.heap[j]? = some (Obj.cells cs t (0, 0)) := by
      intro j cs t hj
      refine (hg.block j (blk_lt hj) (fun e => ?_)).trans hj
      obtain ⟨_, o, ho, hc⟩ := hr _ e.symm
      rw [hj] at ho
      cases ho
      simp [Obj.isCells] at hc
    refine ⟨⟨v, hn _ _ _ hb, own_move hS (fun j hj => ?_)⟩, hn _ _ _ hb0, ?_, Nat.le_trans hBs hg.size⟩
    · obtain ⟨cells, hcl⟩ := own_typed hS j hj
      rw [hn _ _ _ hcl, hcl]
    · exact (ownFrom_below (Nat.le_refl _) (by omega) s W W' row hB hg hr)
  case assign =>
    intro lp x W K hK
    gi_wp2
    exact hK
  case body =>
    rintro lp pre x W ⟨⟨v, hb, hS⟩, hb0, hB, hBs⟩ hlt
    have hcv : W.cell? ⟨w.heap.size + 1, 1, none⟩ = some v := (blk_cell hb 1).trans rfl
    have hfv : W.frozen? ⟨w.heap.size + 1, 1, none⟩ = false := by simp [World.frozen?, hb]
    obtain ⟨i0, hi, hzz⟩ := Option.map_eq_some_iff.1 (show (Try.prog.info? 26).map (fun i => (i.zero, i.size, i.bytes)) = some (some (.slice none 0 0), 1, 24) by kernel_rfl)
    simp only [Prod.mk.injEq] at hzz
    obtain ⟨hz0, hz1, hz2⟩ := hzz
    have hle : pre.length ≤ 64 := by omega
    have hu30 := Try.underlying63
    have hgd : w.heap.size + 1 ≠ W.heap.size := by have := blk_lt hb; omega
    obtain ⟨Av, cv, hve⟩ := own_slice hS
    subst hve
    gi_wp2_with (gi_at_builtin; refine Classical.byContradiction fun hstop => ?_)
    refine hstop ?_
    clear hstop
    refine wpListIn_append_own _ rfl _ _ 63 rfl W0.heap.size 26 i0 (.slice none 0 0) 1 24 Try.underlying63 hi hz0 hz1 hz2 rfl (by decide) _ _ _ rfl (hS.alloc _) ⟨W.heap.size, 0, none⟩ 1 1 [.slice (some (ad.add (x.1 * m))) m m] rfl rfl (cell_one_new _ _ _) (by simp [Value.oneCell']) (by unfold maxLen; omega) (by omega) (by simp; omega) ?_
    intro v' w1 hown' hgrow _
    obtain ⟨A', c', hve'⟩ := own_slice hown'
    subst hve'

    have hb1 : w1.heap[w.heap.size + 1]? = some (Obj.cells #[.slice (some (ad.add p)) (L - p) (c - p), .slice Av pre.length cv, .int .i64 ((m : Int) - 1)] 76 (0, 0)) := (hgrow.block _ (by have := blk_lt hb; simp; omega) (own_ne hS hb (by decide))).trans ((Below.heap_alloc _ _ _ (blk_lt hb)).trans hb)
    have hcv1 : w1.cell? ⟨w.heap.size + 1, 1, none⟩ = some (.slice Av pre.length cv) := (blk_cell hb1 1).trans rfl
    have hfv1 : w1.frozen? ⟨w.heap.size + 1, 1, none⟩ = false := by simp [World.frozen?, hb1]
    gi_wp2
    have hB1 : Below w.heap.size w w1 := (hB.alloc hB.size _).grown hgrow (by have := hB.size; simp; omega) (own_base (own_weaken hS (by omega)))
    have hsz1 : W.heap.size ≤ w1.heap.size := by have := hgrow.size; simp at this; omega
    refine ⟨⟨?_, ?_⟩, ?_, ⟨_, blk_set hb1 1 _, ?_⟩, ?_, ?_, ?_⟩
    · simp; omega
    · intro j o hj ho hco
      have hj2 : some j ≠ (Value.slice Av pre.length cv).ownBlock := fun e => by
        obtain ⟨cells, hcl⟩ := own_typed hS j e.symm
        rw [ho] at hcl
        cases hcl
        simp [Obj.isCells] at hco
      have hj3 : w1.heap[j]? = some o := (hgrow.block j (by have := blk_lt ho; simp; omega) hj2).trans ((Below.heap_alloc _ _ _ (blk_lt ho)).trans ho)
      exact (Below.heap_setCell w1 ⟨w.heap.size + 1, 1, none⟩ _ j (by show j ≠ w.heap.size + 1; omega)).trans hj3
    · have hk2 : ∀ j, w.heap.size + 1 < j → j < W0.heap.size → (w1.setCell ⟨w.heap.size + 1, 1, none⟩ (.slice A' (pre.length + 1) c')).heap[j]? = W.heap[j]? := by
        intro j h1 h2
        have hj2 : some j ≠ (Value.slice Av pre.length cv).ownBlock := fun e => by have := own_base hS j e.symm; omega
        exact (Below.heap_setCell w1 ⟨w.heap.size + 1, 1, none⟩ _ j (by show j ≠ w.heap.size + 1; omega)).trans ((hgrow.block j (by simp; omega) hj2).trans (Below.heap_alloc _ _ _ (by omega)))
      exact K2.of (hk2 _ (by omega) (by omega)) (hk2 _ (by omega) (by omega))
    · rw [List.length_append, List.map_append]
      exact own_setCell hown' (own_ne hown' hb1 (by decide)) _
    · exact blk_far (blk_grown (blk_alloc hb0 _) hgrow (own_ne hS hb0 (by decide))) (by show w.heap.size ≠ w.heap.size + 1; omega) _
    · exact hB1.setCell (p := ⟨w.heap.size + 1, 1, none⟩) (by show w.heap.size ≤ w.heap.size + 1; omega) _
    · simp; omega
  case done =>
    rintro D xs W hD rfl ⟨⟨v, hb, hS⟩, hb0, hB, hBs⟩ hK
    have hc0 : W.cell? ⟨w.heap.size + 1, 0, none⟩ = some (.slice (some (ad.add p)) (L - p) (c - p)) := (blk_cell hb 0).trans rfl
    have hc1 : W.cell? ⟨w.heap.size + 1, 1, none⟩ = some v := (blk_cell hb 1).trans rfl
    have hc2 : W.cell? ⟨w.heap.size + 1, 2, none⟩ = some (.int .i64 ((m : Int) - 1)) := (blk_cell hb 2).trans rfl
    have hd0 : W.cell? ⟨w.heap.size, 0, none⟩ = some (.slice none 0 0) := (blk_cell hb0 0).trans rfl
    have hd1 : W.cell? ⟨w.heap.size, 1, none⟩ = some (.slice none 0 0) := (blk_cell hb0 1).trans rfl
    have hd2 : W.cell? ⟨w.heap.size, 2, none⟩ = some (.int .i64 0) := (blk_cell hb0 2).trans rfl
    have hf0 : ∀ j, W.frozen? ⟨w.heap.size, j, none⟩ = false := fun j => by simp [World.frozen?, hb0]
    have hf1 : ∀ j, W.frozen? ⟨w.heap.size + 1, j, none⟩ = false := fun j => by simp [World.frozen?, hb]
    obtain ⟨Av, cv, hve⟩ := own_slice hS
    subst hve
    gi_wp2
    obtain ⟨Wf, hWf⟩ : ∃ Wf, (((W.setCell ⟨w.heap.size, 0, none⟩ (.slice (some (ad.add p)) (L - p) (c - p))).setCell ⟨w.heap.size, 1, none⟩ (.slice Av (List.finRange k).length cv)).setCell ⟨w.heap.size, 2, none⟩ (.int .i64 ((m : Int) - 1))) = Wf := ⟨_, rfl⟩
    have hlk : (List.finRange k).length = k := List.length_finRange
    rw [hlk] at hWf
    rw [hWf]
    have hbf : Wf.heap[w.heap.size]? = some (Obj.cells #[.slice (some (ad.add p)) (L - p) (c - p), .slice Av k cv, .int .i64 ((m : Int) - 1)] 76 (0, 0)) := by rw [← hWf]; exact blk_set (blk_set (blk_set hb0 0 _) 1 _) 2 _
    have hfar : ∀ j, j ≠ w.heap.size → Wf.heap[j]? = W.heap[j]? := by intro j hj; rw [← hWf]; exact (Below.heap_setCell _ ⟨w.heap.size, 2, none⟩ _ j hj).trans ((Below.heap_setCell _ ⟨w.heap.size, 1, none⟩ _ j hj).trans (Below.heap_setCell _ ⟨w.heap.size, 0, none⟩ _ j hj))
    have hBf : Below w.heap.size w Wf := by rw [← hWf]; exact ((hB.setCell (p := ⟨w.heap.size, 0, none⟩) (Nat.le_refl _) _).setCell (p := ⟨w.heap.size, 1, none⟩) (Nat.le_refl _) _).setCell (p := ⟨w.heap.size, 2, none⟩) (Nat.le_refl _) _
    have hKf : Wf.heap[D]? = some (.deferred (some [])) := (hfar D (by omega)).trans hK
    have hSf : Wf.ownsRow W0.heap.size 26 1 (.slice Av k cv) k (cutsM ad m k) := by
      have h1 := own_move (w1 := Wf) hS (fun j hj => hfar j (by have := own_base hS j hj; omega))
      rw [hlk] at h1
      have h2 : ((List.finRange k).map fun x : Fin k => Value.slice (some (ad.add (x.1 * m))) m m) = cutsM ad m k := by
        unfold cutsM
        apply List.ext_getElem
        · simp
        · intro i h1 h2; simp
      rw [← h2]
      exact h1
    have hszf : Wf.heap.size = W.heap.size := by rw [← hWf]; simp
    clear hWf
    refine ⟨by simp, .inl ⟨_, _, rfl, run_takeDeferred hKf, ?_⟩⟩
    have hpo : ∀ j, j ≠ D → (Wf.putObj D (.deferred none)).heap[j]? = Wf.heap[j]? := fun j hj => World.putObj_heap_other hj
    have hbp := (hpo w.heap.size (by omega)).trans hbf
    have e0 : (Wf.putObj D (.deferred none)).cell? ⟨w.heap.size, 0, none⟩ = some (.slice (some (ad.add p)) (L - p) (c - p)) := (blk_cell hbp 0).trans rfl
    have e1 : (Wf.putObj D (.deferred none)).cell? ⟨w.heap.size, 1, none⟩ = some (.slice Av k cv) := (blk_cell hbp 1).trans rfl
    have e2 : (Wf.putObj D (.deferred none)).cell? ⟨w.heap.size, 2, none⟩ = some (.int .i64 ((m : Int) - 1)) := (blk_cell hbp 2).trans rfl
    have hLk : L - p = k + 1 := by omega
    refine ⟨.tuple #[.agg #[.slice (some (ad.add p)) (k + 1) (c - p), .slice Av k cv, .int .i64 ((m : Int) - 1)], .int .i64 0], ?_, _, rfl, own_weaken (own_move hSf (fun j hj => hpo j (fun e => ?_))) (by omega), hBf.trans (belowK_b (w := w) (Nat.le_refl _) Wf D _ _ (by omega) hKf rfl rfl)⟩
    · rw [← hLk]
      simp [results, Try.func38, go_sem, hu54, hu52, e0, e1, e2]
    · obtain ⟨cells, hcl⟩ := own_typed hSf j hj
      subst e
      rw [hKf] at hcl
      cases hcl
  case stop =>
    rintro D j pre W _ _ h _
    exact h.elim
/-- A piece of the numbers. -/
theorem cut_C {k m : Nat} {ad : Addr} {c : Nat} {l : List Int} {W : World} (hm : 1 ≤ m) (hkm : k * m ≤ l.length) (hc : l.length ≤ c) (hr : Kd.C (Kd.int .i64) W (some ad) l.length l) {x : Nat} (hx : x < k) :
    Kd.C (Kd.int .i64) W (some (ad.add (x * m))) (rowAt m l x).length (rowAt m l x) ∧ (rowAt m l x).length = m := by
  have h1 : x * m + m ≤ l.length := by have := Nat.mul_le_mul_right m (show x + 1 ≤ k from hx); rw [Nat.add_mul, Nat.one_mul] at this; omega
  have h2 := Kd.C_drop hr (m := x * m) (by omega) (c := c) (by omega)
  rw [if_neg (show ¬ c = x * m by omega)] at h2
  have h3 := Kd.C_take h2 (m := m) (by rw [List.length_drop]; omega)
  refine ⟨by simpa [rowAt, Kd.int, Kd.scalar] using h3, ?_⟩
  unfold rowAt
  rw [List.length_take, List.length_drop]
  omega
/-- The pieces, read. -/
theorem cuts_C {k m base : Nat} {ad : Addr} {c : Nat} {l : List Int} {W : World} {v : Value} (hS : W.ownsRow base 26 1 v k (cutsM ad m k)) (hm : 1 ≤ m) (hkm : k * m ≤ l.length) (hc : l.length ≤ c) (hr : Kd.C (Kd.int .i64) W (some ad) l.length l) :
    ∃ A c', v = .slice A k c' ∧ k ≤ c' ∧ Kd.C (Kd.slice 2 (Kd.int .i64)) W A ((List.range k).map (rowAt m l)).length ((List.range k).map (rowAt m l)) := by
  have hR : Reps ((Kd.slice 2 (Kd.int .i64)).K W) 1 ((List.range k).map (rowAt m l)) (cutsM ad m k) := by
    refine ⟨by simp [cutsM], fun j p hj => ?_⟩
    have hjk : j < k := by have := (List.getElem?_eq_some_iff.1 hj).1; simpa using this
    have hp : p = rowAt m l j := by rw [List.getElem?_map, List.getElem?_range hjk] at hj; simpa using hj.symm
    subst hp
    obtain ⟨h1, h2⟩ := cut_C hm hkm hc hr hjk
    refine ⟨some (ad.add (j * m)), m, ?_, by omega, h1⟩
    have h3 : (cutsM ad m k).drop (j * 1) = .slice (some (ad.add (j * m))) m m :: (cutsM ad m k).drop (j + 1) := by
      rw [Nat.mul_one, List.drop_eq_getElem_cons (by simp [cutsM]; exact hjk)]
      simp [cutsM]
    rw [h3, h2]
    simp
  obtain ⟨A, c', hv, hC⟩ := own_reads_row hS hR (by simp)
  subst hv
  refine ⟨A, c', rfl, own_le hS, ?_⟩
  simp only [List.length_map, List.length_range]
  exact hC
theorem drop_C {p : Nat} {ad : Addr} {c : Nat} {l : List Int} {W : World} (hp : p < l.length) (hc : l.length ≤ c) (hr : Kd.C (Kd.int .i64) W (some ad) l.length l) :
    Kd.C (Kd.int .i64) W (some (ad.add p)) (l.drop p).length (l.drop p) := by
  have h2 := Kd.C_drop hr (m := p) (by omega) (c := c) hc
  rw [if_neg (show ¬ c = p by omega)] at h2
  simpa [Kd.int, Kd.scalar] using h2
theorem own_cell1 {W : World} {base g n cap : Nat} {e : TypeId} {xs : List Value} (h : W.ownsRow base e 1 (.slice (some ⟨g, 0, none⟩) n cap) n xs) {j : Nat} {u : Value} (hj : xs[j]? = some u) : W.cell? ⟨g, j, none⟩ = some u ∧ W.frozen? ⟨g, j, none⟩ = false := by
  have hjl := (List.getElem?_eq_some_iff.1 hj).1
  rcases h.2 with ⟨e1, _⟩ | ⟨g', cap', cur, he, _, hb, _, _, hcs, htk⟩
  · cases e1
  · cases he
    refine ⟨?_, blk_frozen hb j⟩
    rw [← htk, Nat.mul_one, List.getElem?_take] at hj
    split at hj
    · rw [blk_cell hb j, ← hj, Array.getElem?_toList]
    · cases hj
theorem own_put1 {W : World} {base g n cap : Nat} {e : TypeId} {xs : List Value} (h : W.ownsRow base e 1 (.slice (some ⟨g, 0, none⟩) n cap) n xs) {j : Nat} (hj : j < n) (u : Value) : (W.setCell ⟨g, j, none⟩ u).ownsRow base e 1 (.slice (some ⟨g, 0, none⟩) n cap) n (xs.set j u) := by
  rcases h.2 with ⟨e1, _⟩ | ⟨g', cap', cur, he, h1, hb, h2, h3, hcs, htk⟩
  · cases e1
  · cases he
    refine ⟨by rw [List.length_set]; exact h.1, .inr ⟨g, cap, cur.setIfInBounds j u, rfl, h1, blk_set hb j u, h2, h3, by simpa using hcs, ?_⟩⟩
    rw [← htk, Array.toList_setIfInBounds, Nat.mul_one, List.take_set]
/-- Rows of the call's own, each made by itself. -/
theorem S_parts {W : World} {base : Nat} {v : Value} {vs : List Value} {rows : List (List Int)} {ok : Nat → Prop} (hS : W.ownsRow base 26 1 v vs.length vs) (hok : ∀ k, v.ownBlock = some k → ok k) (hl : vs.length = rows.length) (f : Nat → Nat)
    (hR : ∀ (j : Nat) (u : Value) (r : List Int), vs[j]? = some u → rows[j]? = some r → Kd.R (Kd.int .i64) 2 W base (fun q => (ok q ∧ some q ≠ v.ownBlock) ∧ f q = j) u r) :
    Kd.S (Kd.slice 2 (Kd.int .i64)) 26 W base ok v rows := by
  refine ⟨f, hok, vs, ?_, ?_, ?_⟩
  · rw [List.length_zipIdx, ← hl]; exact hS
  · rw [List.length_zipIdx, ← hl]; show vs.length = vs.length * 1; omega
  · rintro j ⟨r, i⟩ hj
    rw [List.getElem?_zipIdx] at hj
    obtain ⟨r', hr', he⟩ := Option.map_eq_some_iff.1 hj
    obtain ⟨rfl, rfl⟩ : r' = r ∧ j = i := by cases he; exact ⟨rfl, by omega⟩
    have hjl : j < vs.length := by rw [hl]; exact (List.getElem?_eq_some_iff.1 hr').1
    refine ⟨vs[j], ?_, hR j _ _ (List.getElem?_eq_getElem hjl) hr'⟩
    show (vs.drop (j * 1)).take 1 = _
    rw [Nat.mul_one, List.drop_eq_getElem_cons hjl]
    rfl
end Go.Proofs.Ytbnfejaeekljcaa.Sp
