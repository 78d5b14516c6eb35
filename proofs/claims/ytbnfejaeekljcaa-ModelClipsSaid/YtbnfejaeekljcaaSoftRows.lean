/- soft.Rows' good way. -/
import Derived.Test.YtbnfejaeekljcaaRange
import Derived.Test.YtbnfejaeekljcaaSoft
namespace Go.Proofs.Ytbnfejaeekljcaa.Sp
open Go.RowKit Go.Shelf Go.Proofs.YtbnfejaeekljcaaW.PrintWords
attribute [local go_sem] Oper.semAt_some
set_option maxRecDepth 100000 in
set_option maxHeartbeats 2000000 in
theorem rows_in (k m : Nat) (ad : Addr) (c : Nat) (l : List Int) (w : World) (hk2 : 2 ≤ k) (hk8 : k ≤ 8) (hm2 : 2 ≤ m) (hm17 : m ≤ 17) (hkm : k * m = l.length) (hr : Kd.C (Kd.int .i64) w (some ad) l.length l) (hc : l.length ≤ c)
    (hcl : ∀ w, Calls Try.prog 81 #[.int .i64 k] w fun e w' => e = .returned (.bool true) ∧ Drawn0 w w')
    (hdim : ∀ w, Calls Try.prog 69 #[.int .i64 ((m : Int) - 1)] w fun e w' => e = .returned (.tuple #[.int .i64 m, .int .i64 0]) ∧ Drawn0 w w')
    (hclone : ∀ A (r : List Int) c w, Kd.C (Kd.int .i64) w A r.length r → r.length ≤ c → r.length ≤ 17 → Calls Try.prog 79 #[.slice A r.length c] w fun e w' => ∃ v0_ : Value, e = .returned (v0_) ∧ Kd.R (Kd.int .i64) 2 w' w.heap.size (fun _ => True) v0_ r ∧ Below w.heap.size w w') :
    Calls Try.prog 56 #[.int .i64 k, .slice (some ad) l.length c] w fun e w' => ∃ v0_ : Value, e = .returned (.tuple #[v0_, .int .i64 0]) ∧ Kd.S (Kd.slice 2 (Kd.int .i64)) 26 w' w.heap.size (fun _ => True) v0_ ((List.range k).map (rowAt m l)) ∧ Below w.heap.size w w' := by
  have hdiv : (l.length : Int) / (k : Int) = m := by rw [← hkm]; push_cast; exact Int.mul_ediv_cancel_left _ (by omega)
  have hmul : wrap64 ((m : Int) * k) = l.length := by
    have h1 : m * k ≤ 17 * 8 := Nat.mul_le_mul hm17 hk8
    have h2 : ((m * k : Nat) : Int) = (m : Int) * k := by push_cast; rfl
    rw [wrap64_of (by unfold I64; omega), ← hkm, Nat.mul_comm, h2]
  have hu := Try.underlying22
  have hk0 : (k : Int) ≠ 0 := by omega
  refine (callsIn_wide (n := 12)).1 ?_
  refine callsIn_of_wp_marks Try.func56 rfl trivial ?_ rfl
  simp only [Try.ntmps56, List.size_toArray, List.length_cons, List.length_nil, Nat.reduceAdd, Nat.reduceSub, Array.replicate_succ, Array.replicate_zero, List.push_toArray, List.append_toArray, List.nil_append, List.cons_append]
  gi_wp2_with (first | (refine ⟨trivial, ?_⟩; gi_at_call 81; refine (callsIn_wide.2 (hcl _)).mono ?_; rintro e w' ⟨rfl, ⟨nd0, rfl⟩⟩) | (refine ⟨trivial, ?_⟩; gi_at_call 69; refine (callsIn_wide.2 (hdim _)).mono ?_; rintro e w' ⟨rfl, ⟨nd1, rfl⟩⟩) | (refine ⟨trivial, ?_⟩; gi_at_call 64; refine (chunk_in Fence.wide _ trivial rfl _ _ _ _ (by omega) _).mono ?_; rintro e w' ⟨rfl, rfl⟩))
  obtain ⟨W0, hW0⟩ : ∃ W0, ((((w.drewN (nd0 + nd1)).alloc (.cells #[.slice none 0 0] 63)).alloc (.cells #[.slice (some ad) l.length c] 26)).alloc (.cells #[.int .i64 m] 3)) = W0 := ⟨_, rfl⟩
  rw [hW0]
  have hsz : W0.heap.size = w.heap.size + 3 := by rw [← hW0]; simp [World.drewN]
  have bL : Boxed W0 w.heap.size 63 (.slice none 0 0) := by rw [← hW0]; exact ((Boxed.new (w.drewN (nd0 + nd1)) 63 _).alloc _).alloc _
  have c1 : W0.cell? ⟨w.heap.size + 1, 0, none⟩ = some (.slice (some ad) l.length c) := by
    rw [← hW0]
    have h := (Boxed.new ((w.drewN (nd0 + nd1)).alloc (.cells #[.slice none 0 0] 63)) 26 (.slice (some ad) l.length c)).alloc (.cells #[.int .i64 m] 3)
    rw [World.size_alloc] at h
    exact h.cell
  have c2 : W0.cell? ⟨w.heap.size + 1 + 1, 0, none⟩ = some (.int .i64 m) := by
    rw [← hW0]
    have h := (Boxed.new (((w.drewN (nd0 + nd1)).alloc (.cells #[.slice none 0 0] 63)).alloc (.cells #[.slice (some ad) l.length c] 26)) 3 (.int .i64 m))
    rw [World.size_alloc, World.size_alloc] at h
    exact h.cell
  have hB0 : Below w.heap.size w W0 := by
    rw [← hW0]
    exact (((pw_below_drewN (Below.refl _ w) _).alloc (Nat.le_refl _) _).alloc (by simp [World.drewN]) _).alloc (by simp [World.drewN]; omega) _
  clear hW0
  have hrow : ∀ (x : Nat) (W : World), x < k → Below w.heap.size w W → Kd.C (Kd.int .i64) W (some (ad.add (x * m))) (rowAt m l x).length (rowAt m l x) ∧ (rowAt m l x).length = m := by
    intro x W hx hB
    have h1 : x * m + m ≤ l.length := by rw [← hkm]; have := Nat.mul_le_mul_right m (show x + 1 ≤ k from hx); rw [Nat.add_mul, Nat.one_mul] at this; exact this
    have h2 := Kd.C_drop (Kd.C_below hr hB) (m := x * m) (by omega) hc
    rw [if_neg (show ¬ c = x * m by omega)] at h2
    have h3 := Kd.C_take h2 (m := m) (by rw [List.length_drop]; omega)
    refine ⟨by simpa [rowAt, Kd.int, Kd.scalar] using h3, ?_⟩
    unfold rowAt
    rw [List.length_take, List.length_drop]
    omega
  refine wpIn_rangeFunc_ownG rfl (by omega) (gf := 91) (lb := #[.pointer (some ⟨w.heap.size + 1, 0, none⟩), .pointer (some ⟨w.heap.size + 1 + 1, 0, none⟩)]) rfl trivial (enters_of Try.func91 (by kernel_rfl) rfl)
    (chunk_stops Fence.wide _ trivial rfl (by omega) (w.heap.size + 1) (w.heap.size + 1 + 1) ad m k l.length c (by omega) hkm hc (by have : k * m ≤ 8 * 17 := Nat.mul_le_mul hk8 hm17; omega) W0 (by omega) (by omega) c1 c2)
    K2.trans (fun W j o o' hj _ _ _ => K2.of (World.putObj_heap_other (by omega)) (World.putObj_heap_other (by omega))) (Below.refl _ _) (fun _ => rfl)
    (fun pre W => (∃ v, Boxed W w.heap.size 63 v ∧ Kd.S (Kd.slice 2 (Kd.int .i64)) 26 W W0.heap.size (fun _ => True) v (pre.map fun x => rowAt m l x.1)) ∧ Below w.heap.size w W ∧ W0.heap.size ≤ W.heap.size)
    (fun _ _ _ => False)
    (OwnFrom.and (own_S W0.heap.size 63 (Kd.slice 2 (Kd.int .i64)) 26 _ w.heap.size (fun _ => True) _) (OwnFrom.and (ownFrom_below (Nat.le_refl _) (by omega)) (fun _ _ _ _ hs hg _ => Nat.le_trans hs hg.size)))
    (fun _ _ _ _ _ hs _ _ => hs)
    ⟨⟨_, bL, Kd.S_nil _ _ _ _ _⟩, hB0, Nat.le_refl _⟩
    (fun x => { tmps := #[.int .i64 k, .slice (some ad) l.length c, undef, undef, .slice none 0 0, .int .i64 0, .int .i64 m, .int .i64 m, .int .i64 0, .pointer (some ⟨w.heap.size, 0, none⟩), .slice (some (ad.add (x.1 * m))) m m, .int .i64 k, .bool true, .bool false, .slice (some ad) l.length c, .int .i64 l.length, .int .i64 k, .int .i64 m, .tuple #[.int .i64 m, .int .i64 0], .int .i64 m, .int .i64 (m - 1), .tuple #[.int .i64 m, .int .i64 0], .int .i64 m, .int .i64 0, .int .i64 0, .bool false, .bool false, .int .i64 m, .int .i64 k, .int .i64 l.length, .slice (some ad) l.length c, .int .i64 l.length, .bool false, .bool false, .slice (some ad) l.length c, .int .i64 m, .func (.func 91) #[] #[.pointer (some ⟨w.heap.size + 1, 0, none⟩), .pointer (some ⟨w.heap.size + 1 + 1, 0, none⟩)], .slice (some (ad.add (x.1 * m))) m m, undef, undef, undef, undef, undef, undef], defers := [] }) ?assign ?body ?done ?stop
  case assign =>
    intro lp x W K hK
    gi_wp2
    exact hK
  case body =>
    rintro lp pre x W ⟨⟨v, hv, hS⟩, hB, hBs⟩ hlt
    obtain ⟨hCx, hLx⟩ := hrow x.1 W x.2 hB
    obtain ⟨row, hrw⟩ : ∃ r, rowAt m l x.1 = r := ⟨_, rfl⟩
    rw [hrw] at hCx hLx
    have hcall := hclone (some (ad.add (x.1 * m))) row m W.drew (Kd.C_drew hCx) (by omega) (by omega)
    rw [hLx] at hcall
    have hcv := hv.cell
    have hfv := hv.frozen
    gi_wp2
    refine wpIn_region_any (by kernel_rfl) ?_
    change wpAnyIn _ _ _ _ _ _ _ _ _ (World.drew _)
    refine wpAnyIn_ready (rs := [0, 1]) (by kernel_rfl) (by simp) (AllReadyIn.cons rfl (fun K hK => ?_) (AllReadyIn.cons rfl (fun K hK => ?_) AllReadyIn.nil))
    · go_simp
      refine hK _ _ ?_
      clear hK K
      refine wpAnyIn_ready (rs := [1]) (by kernel_rfl) (by simp) (AllReadyIn.cons rfl (fun K hK => ?_) AllReadyIn.nil)
      go_simp
      refine hK _ _ ?_
      clear hK K
      refine wpAnyIn_ready (rs := [2]) (by kernel_rfl) (by simp) (AllReadyIn.cons rfl (fun K hK => ?_) AllReadyIn.nil)
      go_simp
      refine ⟨trivial, (CallsIn.inRound lp (callsIn_wide.2 hcall)).mono ?_⟩
      rintro ed W2 ⟨v_, rfl, hR, hb'⟩
      obtain ⟨A_, c_, hve⟩ := Kd.R_slice hR
      rw [hLx] at hve
      subst hve
      have hb : Below W.heap.size W W2 := ⟨hb'.os, hb'.tape, hb'.output, hb'.size, hb'.block⟩
      have hv2 : Boxed W2 w.heap.size 63 v := blk_below hv hb
      have hcv2 := hv2.cell
      refine hK _ _ ?_
      clear hK K
      refine wpAnyIn_ready (rs := [3]) (by kernel_rfl) (by simp) (AllReadyIn.cons rfl (fun K hK => ?_) AllReadyIn.nil)
      go_simp
      refine hK _ _ ?_
      clear hK K
      have hcv3 := (hv2.alloc (.cells #[.slice A_ m c_] 26)).cell
      refine wpAnyIn_ready (rs := [4]) (by kernel_rfl) (by simp) (AllReadyIn.cons rfl (fun K hK => ?_) AllReadyIn.nil)
      rw [if_pos (by rfl)]
      have hS2 := Kd.S_elder' hS (Kd.R_base hR) hb
      refine push_in (w0 := W2) W0.heap.size (.tmp 38) (.tmp 41) rfl rfl v _ A_ c_ m row hLx rfl rfl (Kd.R_lower hR hBs) hS2 (Below.refl _ _) (Nat.le_trans hBs hb.size) (by rw [List.length_map]; omega) ?_
      intro v1 w1 hS1 hB1 hg1
      obtain ⟨Av, cv, hve1⟩ := Kd.S_slice hS1
      generalize List.length _ = nv at hve1
      subst hve1
      refine hK _ _ ?_
      clear hK K
      have hv3 : Boxed w1 w.heap.size 63 v := (hB1.block _ (by omega)).trans hv2
      have hcv4 := hv3.cell
      have hfv4 := hv3.frozen
      refine wpAnyIn_ready (rs := [5]) (by kernel_rfl) (by simp) (AllReadyIn.cons rfl (fun K hK => ?_) AllReadyIn.nil)
      go_simp
      refine hK _ _ ?_
      clear hK K
      refine wpAnyIn_done (by kernel_rfl) ?_ _
      gi_wp2
      refine ⟨⟨?_, ?_⟩, ?_, ⟨_, hv3.set _, ?_⟩, ?_, ?_⟩
      · have := hb.size; have := hB1.size; simp; omega
      · intro j o hj ho hco
        have hj1 : W2.heap[j]? = some o := (hb.block j (blk_lt ho)).trans ho
        have hj2 : some j ≠ v.ownBlock := fun e => by
          obtain ⟨cells, hcl⟩ := Kd.S_typed hS2 j e.symm
          rw [hj1] at hcl
          cases hcl
          simp [Obj.isCells] at hco
        have hj3 : w1.heap[j]? = some o := (hg1.block j (blk_lt hj1) hj2).trans hj1
        exact (Below.heap_setCell w1 ⟨w.heap.size, 0, none⟩ (.slice Av nv cv) j (by show j ≠ w.heap.size; omega)).trans hj3
      · exact K2.of ((Below.heap_setCell w1 ⟨w.heap.size, 0, none⟩ (.slice Av nv cv) _ (by show w.heap.size + 1 ≠ w.heap.size; omega)).trans ((hB1.block _ (by omega)).trans (hb.block _ (by omega)))) ((Below.heap_setCell w1 ⟨w.heap.size, 0, none⟩ (.slice Av nv cv) _ (by show w.heap.size + 1 + 1 ≠ w.heap.size; omega)).trans ((hB1.block _ (by omega)).trans (hb.block _ (by omega))))
      · rw [List.map_append, List.map_cons, List.map_nil, hrw]
        exact Kd.S_mono (Kd.S_far (p := ⟨w.heap.size, 0, none⟩) (Kd.S_bound hS1) (fun j hj => by show j ≠ w.heap.size; have := hj.2.1; omega) _) (fun _ hj => hj.1)
      · exact ((below_then hB hB.size hb).trans (hB1.mono (by omega))).setCell (p := ⟨w.heap.size, 0, none⟩) (Nat.le_refl _) _
      · have := hb.size; have := hB1.size; simp; omega
    · go_simp
      refine hK _ _ ?_
      clear hK K
      refine wpAnyIn_ready (rs := [0, 2]) (by kernel_rfl) (by simp) (AllReadyIn.cons rfl (fun K hK => ?_) (AllReadyIn.cons rfl (fun K hK => ?_) AllReadyIn.nil))
      · go_simp
        refine hK _ _ ?_
        clear hK K
        refine wpAnyIn_ready (rs := [2]) (by kernel_rfl) (by simp) (AllReadyIn.cons rfl (fun K hK => ?_) AllReadyIn.nil)
        go_simp
        refine ⟨trivial, (CallsIn.inRound lp (callsIn_wide.2 hcall)).mono ?_⟩
        rintro ed W2 ⟨v_, rfl, hR, hb'⟩
        obtain ⟨A_, c_, hve⟩ := Kd.R_slice hR
        rw [hLx] at hve
        subst hve
        have hb : Below W.heap.size W W2 := ⟨hb'.os, hb'.tape, hb'.output, hb'.size, hb'.block⟩
        have hv2 : Boxed W2 w.heap.size 63 v := blk_below hv hb
        have hcv2 := hv2.cell
        refine hK _ _ ?_
        clear hK K
        refine wpAnyIn_ready (rs := [3]) (by kernel_rfl) (by simp) (AllReadyIn.cons rfl (fun K hK => ?_) AllReadyIn.nil)
        go_simp
        refine hK _ _ ?_
        clear hK K
        have hcv3 := (hv2.alloc (.cells #[.slice A_ m c_] 26)).cell
        refine wpAnyIn_ready (rs := [4]) (by kernel_rfl) (by simp) (AllReadyIn.cons rfl (fun K hK => ?_) AllReadyIn.nil)
        rw [if_pos (by rfl)]
        have hS2 := Kd.S_elder' hS (Kd.R_base hR) hb
        refine push_in (w0 := W2) W0.heap.size (.tmp 38) (.tmp 41) rfl rfl v _ A_ c_ m row hLx rfl rfl (Kd.R_lower hR hBs) hS2 (Below.refl _ _) (Nat.le_trans hBs hb.size) (by rw [List.length_map]; omega) ?_
        intro v1 w1 hS1 hB1 hg1
        obtain ⟨Av, cv, hve1⟩ := Kd.S_slice hS1
        generalize List.length _ = nv at hve1
        subst hve1
        refine hK _ _ ?_
        clear hK K
        have hv3 : Boxed w1 w.heap.size 63 v := (hB1.block _ (by omega)).trans hv2
        have hcv4 := hv3.cell
        have hfv4 := hv3.frozen
        refine wpAnyIn_ready (rs := [5]) (by kernel_rfl) (by simp) (AllReadyIn.cons rfl (fun K hK => ?_) AllReadyIn.nil)
        go_simp
        refine hK _ _ ?_
        clear hK K
        refine wpAnyIn_done (by kernel_rfl) ?_ _
        gi_wp2
        refine ⟨⟨?_, ?_⟩, ?_, ⟨_, hv3.set _, ?_⟩, ?_, ?_⟩
        · have := hb.size; have := hB1.size; simp; omega
        · intro j o hj ho hco
          have hj1 : W2.heap[j]? = some o := (hb.block j (blk_lt ho)).trans ho
          have hj2 : some j ≠ v.ownBlock := fun e => by
            obtain ⟨cells, hcl⟩ := Kd.S_typed hS2 j e.symm
            rw [hj1] at hcl
            cases hcl
            simp [Obj.isCells] at hco
          have hj3 : w1.heap[j]? = some o := (hg1.block j (blk_lt hj1) hj2).trans hj1
          exact (Below.heap_setCell w1 ⟨w.heap.size, 0, none⟩ (.slice Av nv cv) j (by show j ≠ w.heap.size; omega)).trans hj3
        · exact K2.of ((Below.heap_setCell w1 ⟨w.heap.size, 0, none⟩ (.slice Av nv cv) _ (by show w.heap.size + 1 ≠ w.heap.size; omega)).trans ((hB1.block _ (by omega)).trans (hb.block _ (by omega)))) ((Below.heap_setCell w1 ⟨w.heap.size, 0, none⟩ (.slice Av nv cv) _ (by show w.heap.size + 1 + 1 ≠ w.heap.size; omega)).trans ((hB1.block _ (by omega)).trans (hb.block _ (by omega))))
        · rw [List.map_append, List.map_cons, List.map_nil, hrw]
          exact Kd.S_mono (Kd.S_far (p := ⟨w.heap.size, 0, none⟩) (Kd.S_bound hS1) (fun j hj => by show j ≠ w.heap.size; have := hj.2.1; omega) _) (fun _ hj => hj.1)
        · exact ((below_then hB hB.size hb).trans (hB1.mono (by omega))).setCell (p := ⟨w.heap.size, 0, none⟩) (Nat.le_refl _) _
        · have := hb.size; have := hB1.size; simp; omega
      · go_simp
        refine ⟨trivial, (CallsIn.inRound lp (callsIn_wide.2 hcall)).mono ?_⟩
        rintro ed W2 ⟨v_, rfl, hR, hb'⟩
        obtain ⟨A_, c_, hve⟩ := Kd.R_slice hR
        rw [hLx] at hve
        subst hve
        have hb : Below W.heap.size W W2 := ⟨hb'.os, hb'.tape, hb'.output, hb'.size, hb'.block⟩
        have hv2 : Boxed W2 w.heap.size 63 v := blk_below hv hb
        have hcv2 := hv2.cell
        refine hK _ _ ?_
        clear hK K
        refine wpAnyIn_ready (rs := [0, 3]) (by kernel_rfl) (by simp) (AllReadyIn.cons rfl (fun K hK => ?_) (AllReadyIn.cons rfl (fun K hK => ?_) AllReadyIn.nil))
        · go_simp
          refine hK _ _ ?_
          clear hK K
          refine wpAnyIn_ready (rs := [3]) (by kernel_rfl) (by simp) (AllReadyIn.cons rfl (fun K hK => ?_) AllReadyIn.nil)
          go_simp
          refine hK _ _ ?_
          clear hK K
          have hcv3 := (hv2.alloc (.cells #[.slice A_ m c_] 26)).cell
          refine wpAnyIn_ready (rs := [4]) (by kernel_rfl) (by simp) (AllReadyIn.cons rfl (fun K hK => ?_) AllReadyIn.nil)
          rw [if_pos (by rfl)]
          have hS2 := Kd.S_elder' hS (Kd.R_base hR) hb
          refine push_in (w0 := W2) W0.heap.size (.tmp 38) (.tmp 41) rfl rfl v _ A_ c_ m row hLx rfl rfl (Kd.R_lower hR hBs) hS2 (Below.refl _ _) (Nat.le_trans hBs hb.size) (by rw [List.length_map]; omega) ?_
          intro v1 w1 hS1 hB1 hg1
          obtain ⟨Av, cv, hve1⟩ := Kd.S_slice hS1
          generalize List.length _ = nv at hve1
          subst hve1
          refine hK _ _ ?_
          clear hK K
          have hv3 : Boxed w1 w.heap.size 63 v := (hB1.block _ (by omega)).trans hv2
          have hcv4 := hv3.cell
          have hfv4 := hv3.frozen
          refine wpAnyIn_ready (rs := [5]) (by kernel_rfl) (by simp) (AllReadyIn.cons rfl (fun K hK => ?_) AllReadyIn.nil)
          go_simp
          refine hK _ _ ?_
          clear hK K
          refine wpAnyIn_done (by kernel_rfl) ?_ _
          gi_wp2
          refine ⟨⟨?_, ?_⟩, ?_, ⟨_, hv3.set _, ?_⟩, ?_, ?_⟩
          · have := hb.size; have := hB1.size; simp; omega
          · intro j o hj ho hco
            have hj1 : W2.heap[j]? = some o := (hb.block j (blk_lt ho)).trans ho
            have hj2 : some j ≠ v.ownBlock := fun e => by
              obtain ⟨cells, hcl⟩ := Kd.S_typed hS2 j e.symm
              rw [hj1] at hcl
              cases hcl
              simp [Obj.isCells] at hco
            have hj3 : w1.heap[j]? = some o := (hg1.block j (blk_lt hj1) hj2).trans hj1
            exact (Below.heap_setCell w1 ⟨w.heap.size, 0, none⟩ (.slice Av nv cv) j (by show j ≠ w.heap.size; omega)).trans hj3
          · exact K2.of ((Below.heap_setCell w1 ⟨w.heap.size, 0, none⟩ (.slice Av nv cv) _ (by show w.heap.size + 1 ≠ w.heap.size; omega)).trans ((hB1.block _ (by omega)).trans (hb.block _ (by omega)))) ((Below.heap_setCell w1 ⟨w.heap.size, 0, none⟩ (.slice Av nv cv) _ (by show w.heap.size + 1 + 1 ≠ w.heap.size; omega)).trans ((hB1.block _ (by omega)).trans (hb.block _ (by omega))))
          · rw [List.map_append, List.map_cons, List.map_nil, hrw]
            exact Kd.S_mono (Kd.S_far (p := ⟨w.heap.size, 0, none⟩) (Kd.S_bound hS1) (fun j hj => by show j ≠ w.heap.size; have := hj.2.1; omega) _) (fun _ hj => hj.1)
          · exact ((below_then hB hB.size hb).trans (hB1.mono (by omega))).setCell (p := ⟨w.heap.size, 0, none⟩) (Nat.le_refl _) _
          · have := hb.size; have := hB1.size; simp; omega
        · go_simp
          refine hK _ _ ?_
          clear hK K
          have hcv3 := (hv2.alloc (.cells #[.slice A_ m c_] 26)).cell
          refine wpAnyIn_ready (rs := [0]) (by kernel_rfl) (by simp) (AllReadyIn.cons rfl (fun K hK => ?_) AllReadyIn.nil)
          go_simp
          refine hK _ _ ?_
          clear hK K
          refine wpAnyIn_ready (rs := [4]) (by kernel_rfl) (by simp) (AllReadyIn.cons rfl (fun K hK => ?_) AllReadyIn.nil)
          rw [if_pos (by rfl)]
          have hS2 := Kd.S_elder' hS (Kd.R_base hR) hb
          refine push_in (w0 := W2) W0.heap.size (.tmp 38) (.tmp 41) rfl rfl v _ A_ c_ m row hLx rfl rfl (Kd.R_lower hR hBs) hS2 (Below.refl _ _) (Nat.le_trans hBs hb.size) (by rw [List.length_map]; omega) ?_
          intro v1 w1 hS1 hB1 hg1
          obtain ⟨Av, cv, hve1⟩ := Kd.S_slice hS1
          generalize List.length _ = nv at hve1
          subst hve1
          refine hK _ _ ?_
          clear hK K
          have hv3 : Boxed w1 w.heap.size 63 v := (hB1.block _ (by omega)).trans hv2
          have hcv4 := hv3.cell
          have hfv4 := hv3.frozen
          refine wpAnyIn_ready (rs := [5]) (by kernel_rfl) (by simp) (AllReadyIn.cons rfl (fun K hK => ?_) AllReadyIn.nil)
          go_simp
          refine hK _ _ ?_
          clear hK K
          refine wpAnyIn_done (by kernel_rfl) ?_ _
          gi_wp2
          refine ⟨⟨?_, ?_⟩, ?_, ⟨_, hv3.set _, ?_⟩, ?_, ?_⟩
          · have := hb.size; have := hB1.size; simp; omega
          · intro j o hj ho hco
            have hj1 : W2.heap[j]? = some o := (hb.block j (blk_lt ho)).trans ho
            have hj2 : some j ≠ v.ownBlock := fun e => by
              obtain ⟨cells, hcl⟩ := Kd.S_typed hS2 j e.symm
              rw [hj1] at hcl
              cases hcl
              simp [Obj.isCells] at hco
            have hj3 : w1.heap[j]? = some o := (hg1.block j (blk_lt hj1) hj2).trans hj1
            exact (Below.heap_setCell w1 ⟨w.heap.size, 0, none⟩ (.slice Av nv cv) j (by show j ≠ w.heap.size; omega)).trans hj3
          · exact K2.of ((Below.heap_setCell w1 ⟨w.heap.size, 0, none⟩ (.slice Av nv cv) _ (by show w.heap.size + 1 ≠ w.heap.size; omega)).trans ((hB1.block _ (by omega)).trans (hb.block _ (by omega)))) ((Below.heap_setCell w1 ⟨w.heap.size, 0, none⟩ (.slice Av nv cv) _ (by show w.heap.size + 1 + 1 ≠ w.heap.size; omega)).trans ((hB1.block _ (by omega)).trans (hb.block _ (by omega))))
          · rw [List.map_append, List.map_cons, List.map_nil, hrw]
            exact Kd.S_mono (Kd.S_far (p := ⟨w.heap.size, 0, none⟩) (Kd.S_bound hS1) (fun j hj => by show j ≠ w.heap.size; have := hj.2.1; omega) _) (fun _ hj => hj.1)
          · exact ((below_then hB hB.size hb).trans (hB1.mono (by omega))).setCell (p := ⟨w.heap.size, 0, none⟩) (Nat.le_refl _) _
          · have := hb.size; have := hB1.size; simp; omega
  case done =>
    rintro D xs W hD rfl ⟨⟨v, hv, hS⟩, hB, hBs⟩ hK
    have hc := hv.cell
    gi_wp2
    refine ⟨by simp, .inl ⟨_, _, rfl, run_takeDeferred hK, ?_⟩⟩
    have hl1 : (List.finRange k).map (fun x : Fin k => rowAt m l x.1) = (List.range k).map (rowAt m l) := by
      apply List.ext_getElem
      · simp
      · intro i h1 h2; simp
    rw [hl1] at hS
    refine ⟨_, results_tmp2 rfl _ _ _, v, rfl, Kd.S_lower (Kd.S_mono (Kd.S_grown (Kd.S_bound hS) (grownBy_putObj' W D _) (fun j hj he => ?_)) (fun _ hj => hj.1)) (by omega), hB.trans (belowK_b (w := w) (Nat.le_refl _) W D _ _ (by omega) hK rfl rfl)⟩
    obtain ⟨_, _, _, q, _, cells, hcl⟩ := hj
    cases he
    rw [hK] at hcl
    cases hcl
  case stop =>
    rintro D j pre W _ _ h _
    exact h.elim
end Go.Proofs.Ytbnfejaeekljcaa.Sp
