/- What Go functions do, each as a plain Lean function with the same answers, and the proof of it, in every world: printed by the session's driver over the kit's print, with texts by hand. -/
import Derived.Test.YtalamamjodihaaaHMx0
import Derived.Test.YtalamamjodihaaaHMx1
import Derived.Test.YtalamamjodihaaaHMx2
namespace Go.Proofs.Ytalamamjodihaaa.HM
open Go.RowKit Go.Proofs.YtalamamjodihaaaW.PrintWords Go.Proofs.YtalamamjodihaaaW.PrintLast Go.Proofs.YtalamamjodihaaaW.PrintMore
attribute [local go_sem] max2_int min2_int max_two min_two max_three min_three max_four min_four   -- for this text's walks alone
open Go.Proofs.Ytalamamjodihaaa.Sp
attribute [local go_sem] Go.Proofs.Ytalamamjodihaaa.Sp.u64_not
set_option linter.unusedVariables false
set_option linter.unusedSimpArgs false

/-! ### mlp_Split: function 11 -/
def mlp_Split.f (a0 : Int) (l1 : List Int) : Option (List (List Int) × List Int × Int) := some (splitM a0 l1)
set_option maxHeartbeats 4000000 in
set_option maxRecDepth 100000 in
theorem mlp_Split.calls (a0 : Int) (A1 : Option Addr) (c1 : Nat) (l1 : List Int) (r1 : List (List Int)) (r2 : List Int) (r3 : Int) (w : World) (hr1 : Kd.C (Kd.int .i64) w A1 l1.length l1) (hc1 : l1.length ≤ c1) (h : mlp_Split.f a0 l1 = some (r1, r2, r3)) :
    Calls Try.prog 11 #[.int .i64 a0, .slice A1 l1.length c1] w fun e w' => ∃ v0_ v1_ : Value, e = .returned (.tuple #[v0_, v1_, .int .i64 r3]) ∧ Kd.S (Kd.slice 2 (Kd.int .i64)) 22 w' w.heap.size (fun k_ => some k_ ≠ (v1_ : Value).ownBlock) v0_ r1 ∧ Kd.R (Kd.int .i64) 2 w' w.heap.size (fun _ => True) v1_ r2 ∧ Below w.heap.size w w' := by
  have h := Option.some.inj h
  have hu54 := Try.underlying54
  have hu52 := Try.underlying52
  have hu22 := Try.underlying22
  by_cases c : (splitM a0 l1).2.2 = 0
  · obtain ⟨k, m, rfl, hk1, hk8, hm2, hm17, hkm, hlm, hs⟩ := splitM_good c
    obtain ⟨ad, rfl, _⟩ := hr1.2.2 (by omega)
    rw [hs] at h
    obtain ⟨h1, h2, h3⟩ : rowsM k m l1 = r1 ∧ l1.drop (k * m) = r2 ∧ 0 = r3 := by cases h; exact ⟨rfl, rfl, rfl⟩
    have hld : r2.length = k + 1 := by rw [← h2, List.length_drop]; omega
    have hrl : r1.length = k := by rw [← h1, rowsM_len]
    have hrj : ∀ j, j < k → r1[j]? = some (Go.Proofs.Ytalamamjodihaaa.Sp.rowAt m l1 j) := by intro j hj; rw [← h1]; unfold rowsM; rw [List.getElem?_map, List.getElem?_range hj]; rfl
    have HSP := Aside0.mk (mlp_split.good k m ad c1 l1 w hk1 hk8 hm2 hm17 hkm hr1 hc1)
    have hcd := drop_C (p := k * m) (by omega) hc1 hr1
    rw [h2, hld] at hcd
    have HROW := Aside0.mk (fun (x : Nat) (hx : x < k) => cut_C (k := k) (m := m) (ad := ad) (c := c1) (l := l1) (W := w) (by omega) (by omega) hc1 hr1 hx)
    have HCL := Aside0.mk (fun (ad' : Addr) (r : List Int) (W : World) (hC : Kd.C (Kd.int .i64) W (some ad') r.length r) (hl : r.length = m) => slices_Clone_int64_int64.calls (some ad') r.length r r W hC (Nat.le_refl _) (slices_Clone_int64_int64.of _ (by omega)))
    have HCL : Aside0 (∀ (ad' : Addr) (r : List Int) (W : World), Kd.C (Kd.int .i64) W (some ad') r.length r → r.length = m → Calls Try.prog 32 #[.slice (some ad') m m] W fun e w' => ∃ v0_ : Value, e = .returned (v0_) ∧ Kd.R (Kd.int .i64) 2 w' W.heap.size (fun _ => True) v0_ r ∧ Below W.heap.size W w') := ⟨fun ad' r W hC hl => by have := HCL.out ad' r W hC hl; rw [hl] at this; exact this⟩
    have HCL2 : Aside0 (∀ (W : World), Kd.C (Kd.int .i64) W (some (ad.add (k * m))) (k + 1) r2 → Calls Try.prog 32 #[.slice (some (ad.add (k * m))) (k + 1) (c1 - k * m)] W fun e w' => ∃ v0_ : Value, e = .returned (v0_) ∧ Kd.R (Kd.int .i64) 2 w' W.heap.size (fun _ => True) v0_ r2 ∧ Below W.heap.size W w') := ⟨fun W hC => by rw [← hld] at hC ⊢; exact slices_Clone_int64_int64.calls _ _ _ _ W hC (by omega) (slices_Clone_int64_int64.of _ (by omega))⟩
    subst h3
    have HCD := Aside0.mk hcd
    have HRJ := Aside0.mk hrj
    have HRL0 := Aside0.mk hrl
    generalize hp : k * m = p at HSP HCD HCL2
    clear h h1 h2 hs hlm hkm hr1 hc1 c hcd hp hrj hrl hld
    go_enter Try.func11, Try.ntmps11
    go_wp2_with (go_at_call 30; (with_reducible refine HSP.out.mono ?_); rintro e w1 ⟨v0, rfl, hS, hb⟩; obtain ⟨g, cr, hve, hrest⟩ := hS.form hk1; subst hve; clear hrest; have HS := Aside0.mk hS; have HB := Aside0.mk hb; clear hS hb)
    have hgl : g < w1.heap.size := own_lt HS.out g rfl
    have hgb : w.heap.size ≤ g := own_base HS.out g rfl
    have HB1 := Aside0.mk (HB.out.alloc HB.out.size (Obj.cells #[.slice (some (ad.add p)) (k + 1) (c1 - p), .slice (some ⟨g, 0, none⟩) k cr, .int .i64 ((m : Int) - 1)] 54))
    have HX1 := Aside0.mk (blk_new w1 (Obj.cells #[.slice (some (ad.add p)) (k + 1) (c1 - p), .slice (some ⟨g, 0, none⟩) k cr, .int .i64 ((m : Int) - 1)] 54))
    have HS1 := Aside0.mk (HS.out.alloc (Obj.cells #[.slice (some (ad.add p)) (k + 1) (c1 - p), .slice (some ⟨g, 0, none⟩) k cr, .int .i64 ((m : Int) - 1)] 54))
    have hwb := HB.out.size
    generalize World.alloc w1 (Obj.cells #[.slice (some (ad.add p)) (k + 1) (c1 - p), .slice (some ⟨g, 0, none⟩) k cr, .int .i64 ((m : Int) - 1)] 54) = W1 at HB1 HX1 HS1 ⊢
    generalize w1.heap.size = B at HX1 hgl hwb ⊢
    clear HS HB
    go_loopw [23] (fun i W => ∃ (j : Nat) (vs : List Value) (f : Nat → Nat), i = .int .i64 j ∧ Aside0 (j ≤ k) ∧ Aside0 (vs.length = j) ∧ Aside0 (W.heap[B]? = some (Obj.cells #[.slice (some (ad.add p)) (k + 1) (c1 - p), .slice (some ⟨g, 0, none⟩) k cr, .int .i64 ((m : Int) - 1)] 54 (0, 0))) ∧ Aside0 (W.ownsRow w.heap.size 22 1 (.slice (some ⟨g, 0, none⟩) k cr) k (vs ++ (cutsM ad m k).drop j)) ∧ Aside0 (∀ (i : Nat) (u : Value) (r : List Int), vs[i]? = some u → r1[i]? = some r → Kd.R (Kd.int .i64) 2 W w.heap.size (fun q => q ≠ g ∧ f q = i) u r) ∧ Aside0 (Below w.heap.size w W)) (fun i _ => k - (intOf i).toNat)
    case atStart => exact ⟨0, [], fun _ => 0, rfl, ⟨Nat.zero_le _⟩, ⟨rfl⟩, HX1, ⟨by rw [List.drop_zero, List.nil_append]; exact HS1.out⟩, ⟨fun i u r hu => by simp at hu⟩, HB1⟩
    case round =>
      obtain ⟨j, vs, f, rfl, ⟨hjk⟩, ⟨hvl⟩, HBX, HSX, HRX, HB⟩ := hrel
      clear HX1 HS1 HB1
      by_cases hlt : j < k
      · have hxj : (vs ++ (cutsM ad m k).drop j)[j]? = some (.slice (some (ad.add (j * m))) m m) := by
          rw [List.getElem?_append_right (by omega), hvl, Nat.sub_self, List.getElem?_drop, Nat.add_zero]
          unfold cutsM
          rw [List.getElem?_map, List.getElem?_range hlt]
          rfl
        obtain ⟨hcx, hfx⟩ := own_cell1 HSX.out hxj
        have hrow := HROW.out j hlt
        have hlrow := hrow.2
        have HRL := Aside0.mk hlrow
        have HRD := Aside0.mk (Kd.C_below hrow.1 HB.out)
        have HLT := Aside0.mk hlt
        have HVL := Aside0.mk hvl
        have hq1 : wr.cell? ⟨B, 1, none⟩ = some (.slice (some ⟨g, 0, none⟩) k cr) := (blk_cell HBX.out 1).trans rfl
        have HRJJ := Aside0.mk (HRJ.out j hlt)
        have HXJ := Aside0.mk hxj
        clear hrow hlrow hxj hvl
        go_wp2
        refine start_ (n := 7) (S := fun w' => w'.cell? ⟨B, 1, none⟩ = some (.slice (some ⟨g, 0, none⟩) k cr)) (ds := [6]) #[false, false, false, false, false, false, false] (by kernel_rfl) rfl rfl (hq1) (fun hHeld => ?_)
        refine pure_ (i := 0) (N := some 28) (v := ?_) (a' := ?_) #[true, false, false, false, false, false, false] rfl rfl (by kernel_rfl) (fun _ _ _ h => h) (Or.inl ⟨by rfl, ?_⟩) ?_ ?_
        rotate_left
        · intro w'
          go_simp
          with_reducible rfl
        rotate_left
        · simp only [Act.put, List.setIfInBounds_toArray, List.set_cons_zero, List.set_cons_succ, i64_w, i32_w]
          rfl
        refine pure_ (i := 2) (N := some 30) (v := ?_) (a' := ?_) #[true, false, true, false, false, false, false] rfl rfl (by kernel_rfl) (fun _ _ _ h => h) (Or.inl ⟨by rfl, ?_⟩) ?_ ?_
        rotate_left
        · intro w'
          go_simp
          with_reducible rfl
        rotate_left
        · simp only [Act.put, List.setIfInBounds_toArray, List.set_cons_zero, List.set_cons_succ, i64_w, i32_w]
          rfl
        refine pure_ (i := 3) (N := some 31) (v := ?_) (a' := ?_) #[true, false, true, true, false, false, false] rfl rfl (by kernel_rfl) (fun _ _ _ h => h) (Or.inl ⟨by rfl, ?_⟩) ?_ ?_
        rotate_left
        · intro w'
          go_simp
          with_reducible rfl
        rotate_left
        · simp only [Act.put, List.setIfInBounds_toArray, List.set_cons_zero, List.set_cons_succ, i64_w, i32_w]
          rfl
        refine take_ (i := 1) (N := some 29) (v := ?_) (a' := ?_) #[true, true, true, true, false, false, false] rfl rfl (by kernel_rfl) (fun _ _ _ h => h) (Or.inl ⟨by rfl, ?_⟩) hHeld ?_ ?_
        rotate_left
        · intro w' s0
          go_simp
          with_reducible rfl
        rotate_left
        · simp only [Act.put, List.setIfInBounds_toArray, List.set_cons_zero, List.set_cons_succ, i64_w, i32_w]
          rfl
        refine one_ (i := 4) (N := some 32) #[true, true, true, true, true, false, false] rfl rfl (by kernel_rfl) (by decide) (fun K hK => ?_)
        refine goes_ Try.func32 (by kernel_rfl) rfl #[.slice (some (ad.add (j * m))) m m] (by rfl) rfl rfl (by simp only [List.map_toArray, List.map_cons, List.map_nil]; rfl) ?_
        with_reducible refine (HCL.out _ _ _ (by first | exact HRD.out | exact ccD HRD.out) HRL.out).mono ?_
        rintro e W3 ⟨v_, rfl, hR, hb3⟩
        refine ⟨_, rfl, ?_⟩
        have HB3 := Aside0.mk hb3
        have hbx := blk_below (by first | exact HBX.out | exact kkD HBX.out) hb3
        obtain ⟨Ac, cc, hve⟩ := Kd.R_slice hR
        rw [HRL.out] at hve
        subst hve
        have HO := Aside0.mk hR
        have hcx3 := (own_cell1 (pw_own_below (w := wr.drew) HSX.out hb3) HXJ.out).1
        have hfx3 := (own_cell1 (pw_own_below (w := wr.drew) HSX.out hb3) HXJ.out).2
        clear hR hb3
        refine hK.out _ _ ((blk_cell hbx 1).trans rfl) (fun hHeld => ?_)
        clear hK K
        refine norm_ (a' := ?_) ?_ ?_
        rotate_left
        · show Act.put _ (some 32) _ = _
          simp only [Act.put, List.setIfInBounds_toArray, List.set_cons_zero, List.set_cons_succ, i64_w, i32_w]
          rfl
        refine pure_ (i := 5) (N := some 33) (v := ?_) (a' := ?_) #[true, true, true, true, true, true, false] rfl rfl (by kernel_rfl) (fun _ _ _ h => h) (Or.inl ⟨by rfl, ?_⟩) ?_ ?_
        rotate_left
        · intro w'
          go_simp
          with_reducible rfl
        rotate_left
        · simp only [Act.put, List.setIfInBounds_toArray, List.set_cons_zero, List.set_cons_succ, i64_w, i32_w]
          rfl
        refine last_ (i := 6) (N := none) #[true, true, true, true, true, true, true] rfl rfl (by kernel_rfl) (by decide) (fun K hK => ?_)
        refine skip_ (w1 := ?_) (by rfl) rfl ?_ ?_
        rotate_left
        · go_simp
          rfl
        refine hK.out _ _ ?_
        clear hK K
        refine done_ (by kernel_rfl) ?_
        go_wp2
        have hgw : g < wr.heap.size := own_lt HSX.out g rfl
        have hbw := HB.out.size
        have hset : (vs ++ (cutsM ad m k).drop j).set j (.slice Ac m cc) = (vs ++ [.slice Ac m cc]) ++ (cutsM ad m k).drop (j + 1) := by
          rw [List.set_append_right _ _ (by rw [HVL.out]; exact Nat.le_refl _), HVL.out, Nat.sub_self, List.drop_eq_getElem_cons (by unfold cutsM; simp; exact HLT.out), List.set_cons_zero]
          simp
        have hown := own_put1 (pw_own_below (w := wr.drew) HSX.out HB3.out) HLT.out (.slice Ac m cc)
        rw [hset] at hown
        refine ⟨⟨j + 1, vs ++ [.slice Ac m cc], fun q => if wr.heap.size ≤ q then j else f q, by (try rw [wrap64_of (show I64 ((j : Int) + 1) by unfold I64; omega)]); rfl, ⟨HLT.out⟩, ⟨by rw [List.length_append, HVL.out]; rfl⟩, ⟨blk_far (blk_below (w := wr.drew) HBX.out HB3.out) (by show B ≠ g; omega) _⟩, ⟨hown⟩, ⟨?_⟩, ⟨(below_then (below_drew HB.out) hbw HB3.out).setCell (p := ⟨g, j, none⟩) hgb _⟩⟩, by have := HLT.out; (try rw [wrap64_of (show I64 ((j : Int) + 1) by unfold I64; omega)]); simp [intOf]; omega⟩
        intro i u r hu hr
        have hil := (List.getElem?_eq_some_iff.1 hu).1
        rw [List.length_append, HVL.out, List.length_singleton] at hil
        by_cases hij : i < j
        · rw [List.getElem?_append_left (by rw [HVL.out]; exact hij)] at hu
          have h2 := Kd.R_far (p := ⟨g, j, none⟩) (Kd.R_below (w := wr.drew) (Kd.R_bound (HRX.out i u r hu hr)) HB3.out) (fun q hq => hq.1.1) (.slice Ac m cc)
          exact Kd.R_mono h2 (fun q hq => ⟨hq.1.1, by show (if wr.heap.size ≤ q then j else f q) = i; rw [if_neg (Nat.not_le.2 (show q < wr.heap.size from hq.2.2.1))]; exact hq.1.2⟩)
        · obtain rfl : i = j := by omega
          rw [List.getElem?_append_right (by rw [HVL.out]; exact Nat.le_refl _), HVL.out, Nat.sub_self] at hu
          obtain rfl : Value.slice Ac m cc = u := by simpa using hu
          obtain rfl : Go.Proofs.Ytalamamjodihaaa.Sp.rowAt m l1 i = r := Option.some.inj (HRJJ.out.symm.trans hr)
          have h2 := Kd.R_far (p := ⟨g, i, none⟩) (Kd.R_bound HO.out) (fun q hq => by have := hq.2.1; show q ≠ g; intro e; subst e; exact absurd hgw (Nat.not_lt.2 this)) (.slice Ac m cc)
          exact Kd.R_lower (Kd.R_mono h2 (fun q hq => ⟨fun e => by have := hq.2.1; subst e; exact absurd hgw (Nat.not_lt.2 this), if_pos hq.2.1⟩)) hbw
      · have hjk2 : j = k := by omega
        subst hjk2
        have hdn : (cutsM ad m j).drop j = [] := List.drop_eq_nil_of_le (by unfold cutsM; simp)
        have hsx := HSX.out
        rw [hdn, List.append_nil] at hsx
        have HSY := Aside0.mk hsx
        have HLD := Aside0.mk (Kd.C_below HCD.out HB.out)
        have HVL := Aside0.mk hvl
        have hq1 : wr.cell? ⟨B, 1, none⟩ = some (.slice (some ⟨g, 0, none⟩) j cr) := (blk_cell HBX.out 1).trans rfl
        have hq0 : wr.cell? ⟨B, 0, none⟩ = some (.slice (some (ad.add p)) (j + 1) (c1 - p)) := (blk_cell HBX.out 0).trans rfl
        clear hsx hdn hvl HSX hjk hlt
        go_wp2
        refine start_ (n := 9) (S := fun w' => w'.cell? ⟨B, 1, none⟩ = some (.slice (some ⟨g, 0, none⟩) j cr) ∧ w'.cell? ⟨B, 0, none⟩ = some (.slice (some (ad.add p)) (j + 1) (c1 - p))) (ds := []) #[false, false, false, false, false, false, false, false, false] (by kernel_rfl) rfl rfl ⟨hq1, hq0⟩ (fun hHeld => ?_)
        refine pure_ (i := 0) (N := some 35) (v := ?_) (a' := ?_) #[true, false, false, false, false, false, false, false, false] rfl rfl (by kernel_rfl) (fun _ _ _ h => h) (Or.inl ⟨by rfl, ?_⟩) ?_ ?_
        rotate_left
        · intro w'
          go_simp
          with_reducible rfl
        rotate_left
        · simp only [Act.put, List.setIfInBounds_toArray, List.set_cons_zero, List.set_cons_succ, i64_w, i32_w]
          rfl
        refine pure_ (i := 2) (N := some 37) (v := ?_) (a' := ?_) #[true, false, true, false, false, false, false, false, false] rfl rfl (by kernel_rfl) (fun _ _ _ h => h) (Or.inl ⟨by rfl, ?_⟩) ?_ ?_
        rotate_left
        · intro w'
          go_simp
          with_reducible rfl
        rotate_left
        · simp only [Act.put, List.setIfInBounds_toArray, List.set_cons_zero, List.set_cons_succ, i64_w, i32_w]
          rfl
        refine pure_ (i := 3) (N := some 38) (v := ?_) (a' := ?_) #[true, false, true, true, false, false, false, false, false] rfl rfl (by kernel_rfl) (fun _ _ _ h => h) (Or.inl ⟨by rfl, ?_⟩) ?_ ?_
        rotate_left
        · intro w'
          go_simp
          with_reducible rfl
        rotate_left
        · simp only [Act.put, List.setIfInBounds_toArray, List.set_cons_zero, List.set_cons_succ, i64_w, i32_w]
          rfl
        refine take_ (i := 1) (N := some 36) (v := ?_) (a' := ?_) #[true, true, true, true, false, false, false, false, false] rfl rfl (by kernel_rfl) (fun _ _ _ h => h) (Or.inl ⟨by rfl, ?_⟩) hHeld ?_ ?_
        rotate_left
        · rintro w' ⟨s0, s1⟩
          go_simp
          with_reducible rfl
        rotate_left
        · simp only [Act.put, List.setIfInBounds_toArray, List.set_cons_zero, List.set_cons_succ, i64_w, i32_w]
          rfl
        refine take_ (i := 4) (N := some 39) (v := ?_) (a' := ?_) #[true, true, true, true, true, false, false, false, false] rfl rfl (by kernel_rfl) (fun _ _ _ h => h) (Or.inl ⟨by rfl, ?_⟩) hHeld ?_ ?_
        rotate_left
        · rintro w' ⟨s0, s1⟩
          go_simp
          with_reducible rfl
        rotate_left
        · simp only [Act.put, List.setIfInBounds_toArray, List.set_cons_zero, List.set_cons_succ, i64_w, i32_w]
          rfl
        refine one_ (i := 5) (N := some 40) #[true, true, true, true, true, true, false, false, false] rfl rfl (by kernel_rfl) (by decide) (fun K hK => ?_)
        refine goes_ Try.func32 (by kernel_rfl) rfl #[.slice (some (ad.add p)) (j + 1) (c1 - p)] (by rfl) rfl rfl (by simp only [List.map_toArray, List.map_cons, List.map_nil]; rfl) ?_
        with_reducible refine (HCL2.out _ (by first | exact HLD.out | exact ccD HLD.out)).mono ?_
        rintro e W3 ⟨v_, rfl, hR, hb3⟩
        refine ⟨_, rfl, ?_⟩
        have HB3 := Aside0.mk hb3
        have hbx := blk_below (by first | exact HBX.out | exact kkD HBX.out) hb3
        have HO := Aside0.mk hR
        clear hR hb3
        refine hK.out _ _ ⟨(blk_cell hbx 1).trans rfl, (blk_cell hbx 0).trans rfl⟩ (fun hHeld => ?_)
        clear hK K
        refine norm_ (a' := ?_) ?_ ?_
        rotate_left
        · show Act.put _ (some 40) _ = _
          simp only [Act.put, List.setIfInBounds_toArray, List.set_cons_zero, List.set_cons_succ, i64_w, i32_w]
          rfl
        refine pure_ (i := 6) (N := some 4) (v := ?_) (a' := ?_) #[true, true, true, true, true, true, true, false, false] rfl rfl (by kernel_rfl) (fun _ _ _ h => h) (Or.inl ⟨by rfl, ?_⟩) ?_ ?_
        rotate_left
        · intro w'
          go_simp
          with_reducible rfl
        rotate_left
        · simp only [Act.put, List.setIfInBounds_toArray, List.set_cons_zero, List.set_cons_succ, i64_w, i32_w]
          rfl
        refine pure_ (i := 7) (N := some 5) (v := ?_) (a' := ?_) #[true, true, true, true, true, true, true, true, false] rfl rfl (by kernel_rfl) (fun _ _ _ h => h) (Or.inl ⟨by rfl, ?_⟩) ?_ ?_
        rotate_left
        · intro w'
          go_simp
          with_reducible rfl
        rotate_left
        · simp only [Act.put, List.setIfInBounds_toArray, List.set_cons_zero, List.set_cons_succ, i64_w, i32_w]
          rfl
        refine pure_ (i := 8) (N := some 6) (v := ?_) (a' := ?_) #[true, true, true, true, true, true, true, true, true] rfl rfl (by kernel_rfl) (fun _ _ _ h => h) (Or.inl ⟨by rfl, ?_⟩) ?_ ?_
        rotate_left
        · intro w'
          go_simp
          with_reducible rfl
        rotate_left
        · simp only [Act.put, List.setIfInBounds_toArray, List.set_cons_zero, List.set_cons_succ, i64_w, i32_w]
          rfl
        refine done_ (by kernel_rfl) ?_
        go_wp2
        (try simp only [Exit.inBlock, Exit.then])
        refine bodyPost_ret (results_tmp3 rfl _ _ _) rfl ?_
        have hgw : g < wr.heap.size := own_lt HSY.out g rfl
        have hbw := HB.out.size
        have hnew : ∀ q, q < wr.heap.size → some q ≠ v_.ownBlock := fun q hq e => absurd hq (Nat.not_lt.2 (Kd.R_base HO.out q e.symm))
        have hS3 := pw_own_below (w := wr.drew) HSY.out HB3.out
        have hvj := HVL.out
        refine ⟨_, _, rfl, S_parts (vs := vs) (by rw [hvj]; exact hS3) (fun q hq => by cases hq; exact hnew g hgw) (by rw [hvj]; exact HRL0.out.symm) f (fun i u r hu hr => ?_), Kd.R_lower HO.out hbw, below_then (below_drew HB.out) hbw HB3.out⟩
        exact Kd.R_mono (Kd.R_below (w := wr.drew) (Kd.R_bound (HRX.out i u r hu hr)) HB3.out) (fun q hq => ⟨⟨hnew q hq.2.2.1, fun e => hq.1.1 (Option.some.inj e)⟩, hq.1.2⟩)
  · have HSP := Aside0.mk (mlp_split.bad a0 A1 c1 l1 w hr1 hc1 c)
    rw [splitM_bad c] at h
    obtain ⟨h1, h2, h3⟩ : [] = r1 ∧ [] = r2 ∧ (splitM a0 l1).2.2 = r3 := by cases h; exact ⟨rfl, rfl, rfl⟩
    subst h1
    subst h2
    subst h3
    generalize (splitM a0 l1).2.2 = e at HSP c ⊢
    have he0 : (e == 0) = false := beq_eq_false_iff_ne.2 c
    have he1 : (e != 0) = true := bne_iff_ne.2 c
    clear h hr1 hc1 c
    go_enter Try.func11, Try.ntmps11
    go_wp2_with (go_at_call 30; (with_reducible refine HSP.out.mono ?_); rintro e w1 ⟨rfl, hb⟩; have HB := Aside0.mk hb; clear hb)
    (try simp only [Exit.inBlock, Exit.then])
    refine bodyPost_ret (results_tmp3 rfl _ _ _) rfl ?_
    exact ⟨_, _, rfl, Kd.S_nil _ _ _ _ _, Kd.R_nil _ _ _ _ _, zzA HB.out _⟩




















































































































































































































































































































































































































































































































































































































































































































































































































































































































































































































































end Go.Proofs.Ytalamamjodihaaa.HM
