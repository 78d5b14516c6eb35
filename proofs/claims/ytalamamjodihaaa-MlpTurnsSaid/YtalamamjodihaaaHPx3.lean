/- What Go functions do, each as a plain Lean function with the same answers, and the proof of it, in every world: printed by the session's driver over the kit's print, with texts by hand. -/
import Derived.Test.YtalamamjodihaaaHPx0
import Derived.Test.YtalamamjodihaaaHPx1
import Derived.Test.YtalamamjodihaaaHPx2
namespace Go.Proofs.Ytalamamjodihaaa.HP
open Go.RowKit Go.Proofs.YtalamamjodihaaaW.PrintWords Go.Proofs.YtalamamjodihaaaW.PrintLast Go.Proofs.YtalamamjodihaaaW.PrintMore
attribute [local go_sem] max2_int min2_int max_two min_two max_three min_three max_four min_four   -- for this text's walks alone
open Go.Proofs.Ytalamamjodihaaa.Sp
attribute [local go_sem] Go.Proofs.Ytalamamjodihaaa.Sp.u64_not
set_option linter.unusedVariables false
set_option linter.unusedSimpArgs false

/-! ### thrumref14_FewP: function 9 -/
def thrumref14_FewP.l0 : Nat → List Int → List (S26) → List (S26) → Int → Int → Option (Bool)
 | 0, _, _, _, _, _ => none
 | k + 1, x0, x1, x7, x8, x9 => if x9 < x8 then (if 0 ≤ x9 then (if x9 < (x7.length : Int) then (if (((rd_T26 x7 x9).f0).length : Int) > 100 then (some false) else (thrumref14_FewP.l0 k x0 x1 x7 x8 (wrap64 (x9 + 1)))) else (none)) else (none)) else (if (x0.length : Int) ≤ 500 then (some (decide ((x1.length : Int) ≤ 100))) else (some false))
def thrumref14_FewP.f (k : Nat) (l0 : List Int) (l1 : List (S26)) : Option (Bool) := thrumref14_FewP.l0 k l0 l1 l1 (l1.length : Int) 0
theorem thrumref14_FewP.mono_l : ∀ k, (∀ y0 y1 y2 y3 y4, LeO (thrumref14_FewP.l0 k y0 y1 y2 y3 y4) (thrumref14_FewP.l0 (k + 1) y0 y1 y2 y3 y4))
 | 0 => fun _ _ _ _ _ r h => by simp [thrumref14_FewP.l0] at h
 | k + 1 => by
  have ih0 := thrumref14_FewP.mono_l k
  ·
   intro y0 y1 y2 y3 y4
   unfold thrumref14_FewP.l0
   repeat' first
   | (with_reducible exact ih0 _ _ _ _ _)
   | (with_reducible exact LeO.refl _)
   | (with_reducible exact LeO.none _)
   | (with_reducible refine LeO.ite ?_ ?_)
   | (with_reducible refine LeO.bind ?_ (fun _ => ?_))
   | exact ih0 _ _ _ _ _
   | exact LeO.none _
   | refine LeO.ite ?_ ?_
   | refine LeO.bind ?_ (fun _ => ?_)
theorem thrumref14_FewP.mono : ∀ a0 a1 k, LeO (thrumref14_FewP.f k a0 a1) (thrumref14_FewP.f (k + 1) a0 a1) := by
 intro a0 a1 k
 have ih0 := thrumref14_FewP.mono_l k
 unfold thrumref14_FewP.f
 repeat' first
   | (with_reducible exact ih0 _ _ _ _ _)
   | (with_reducible exact LeO.refl _)
   | (with_reducible exact LeO.none _)
   | (with_reducible refine LeO.ite ?_ ?_)
   | (with_reducible refine LeO.bind ?_ (fun _ => ?_))
   | exact ih0 _ _ _ _ _
   | exact LeO.none _
   | refine LeO.ite ?_ ?_
   | refine LeO.bind ?_ (fun _ => ?_)
set_option maxHeartbeats 8000000 in
set_option maxRecDepth 100000 in
theorem thrumref14_FewP.calls (k : Nat) (A0 : Option Addr) (c0 : Nat) (l0 : List Int) (A1 : Option Addr) (c1 : Nat) (l1 : List (S26)) (r : Bool) (w : World) (hr0 : Kd.C (Kd.int .i64) w A0 l0.length l0) (hc0 : l0.length ≤ c0) (hr1 : Kd.C k26 w A1 l1.length l1) (hc1 : l1.length ≤ c1) (h : thrumref14_FewP.f k l0 l1 = some r) :
  Calls Try.prog 9 #[.slice A0 l0.length c0, .slice A1 l1.length c1] w fun e w' => e = .returned (.bool r) ∧ Below w.heap.size w w' := by
 have hu26 := Try.underlying26
 have HR0 := Aside0.mk hr0
 have HC0 := Aside0.mk hc0
 clear hr0 hc0
 have HR1 := Aside0.mk hr1
 have HC1 := Aside0.mk hc1
 clear hr1 hc1
 have HB := Aside0.mk (Below.refl w.heap.size w)
 have H : (thrumref14_FewP.l0 k l0 l1 l1 (l1.length : Int) 0) = some r := h
 clear h
 have H' := Aside0.mk H
 clear H
 go_enter Try.func9, Try.ntmps9
 go_wp2
 go_loopg [9] k (fun kq v9 w' => ∃ (x9_1 : Int), v9 = .int .i64 x9_1 ∧ Aside0 (thrumref14_FewP.l0 kq l0 l1 l1 (l1.length : Int) x9_1 = some r) ∧ Aside0 (kq ≤ k) ∧ Aside0 (Below w.heap.size w w'))
 case atStart => exact ⟨(0), (by first | rfl | (simp; done) | (simp [*]; done)), H', ⟨Nat.le_refl _⟩, ⟨by repeat (first | (with_reducible first | exact HB.out | apply zzA | apply zzN | apply zzD) | exact HB.out)⟩⟩
 case round =>
  clear H'
  try clear c1
  try clear p2
  obtain ⟨x9_1, rfl, HA, HK1, HB⟩ := hrel
  cases gk with
  | zero => exact absurd HA.out (by simp [thrumref14_FewP.l0])
  | succ k1 =>
   have H := HA.out
   clear HA
   simp only [thrumref14_FewP.l0] at H
   by_cases c3 : x9_1 < (l1.length : Int)
   ·
    rw [if_pos c3] at H
    have c3b0 : decide (x9_1 < (l1.length : Int)) = true := decide_eq_true c3
    clear c3
    by_cases c4 : 0 ≤ x9_1
    ·
     rw [if_pos c4] at H
     have c4b0 : decide (0 ≤ x9_1) = true := decide_eq_true c4
     clear c4
     by_cases c5 : x9_1 < (l1.length : Int)
     ·
      rw [if_pos c5] at H
      have c5b0 : decide (x9_1 < (l1.length : Int)) = true := decide_eq_true c5
      clear c5
      by_cases c6 : (((rd_T26 l1 x9_1).f0).length : Int) > 100
      ·
       rw [if_pos c6] at H
       have c6b0 : decide (100 < (((rd_T26 l1 x9_1).f0).length : Int)) = true := decide_eq_true c6
       have c6b1 : decide (100 < ((rd_T26 l1 x9_1).f0).length) = true := decide_eq_true (by omega)
       clear c6
       obtain rfl := Option.some.inj H
       have p155 : 0 ≤ (x9_1 : Int) := of_decide_eq_true (by first | (with_reducible assumption) | assumption)
       have q155 : x9_1 < (l1.length : Int) := of_decide_eq_true (by first | (with_reducible assumption) | assumption)
       obtain ⟨ad155, A155_0, c155_0, e155, hx155_0, hx155_1, hl155_0, hi155_0⟩ := at_T26 HR1.out x9_1 p155 q155
       cases e155
       replace hx155_0 := (HB.out.cell (World.block_lt_of_cell? w _ hx155_0)).trans hx155_0
       replace hx155_1 := (HB.out.cell (World.block_lt_of_cell? w _ hx155_1)).trans hx155_1
       have HR155_0 := Aside0.mk hi155_0
       have HC155_0 := Aside0.mk hl155_0
       clear hi155_0 hl155_0
       replace p155 := eq_true p155
       replace q155 := eq_true q155
       go_wp2_with (first | ((with_reducible refine gate_dst (N := 6) rfl ?_); (try (refine gate_guard (by rfl) ?_; dsimp only)); refine box_event ?hg (N := 6) ?hd (cs := #[.slice none 0 0, .int .i64 0]) (t := 26) ?hr ?_; (case hd => rfl); (case hg => rfl); (case hr => first | (go_simp; done) | (go_simp; rfl)); intro gb156 hg w7 hbox hb; have n0_ := Aside0.mk (zzT (by repeat (first | (with_reducible first | exact HB.out | apply zzA | apply zzN | apply zzD) | exact HB.out)) hb); have n1_ := Aside0.mk (hbox); have n2_ := Aside0.mk ((by rw [hg]; exact (zzS (by repeat (first | (with_reducible first | exact HB.out | apply zzA | apply zzN | apply zzD) | exact HB.out))) : w.heap.size ≤ gb156)); have n3_ := Aside0.mk ((by rw [hg]; exact (zzS (by repeat (first | (with_reducible first | exact HB.out | apply zzA | apply zzN | apply zzD) | exact HB.out))) : w.heap.size ≤ gb156)); clear HB; have HB := n0_; have BK156 := n1_; have GW156 := n2_; have GE156 := n3_; clear n0_ n1_ n2_ n3_; clear hb hbox hg; have hcz8_0 : w7.cell? ⟨gb156, 0, none⟩ = some (.slice none 0 0) := (blk_cell BK156.out 0).trans rfl; have hcz8_1 : w7.cell? ⟨gb156, 1, none⟩ = some (.int .i64 0) := (blk_cell BK156.out 1).trans rfl; have hfz8_0 := blk_frozen BK156.out 0; have hfz8_1 := blk_frozen BK156.out 1))
       go_ret
       exact ⟨by first | rfl | (simp [errW_none, errW_some] <;> rfl) | (simp [*, errW_none, errW_some] <;> rfl), by repeat (first | (with_reducible first | exact HB.out | apply zzA | apply zzN | apply zzD | refine below_set ?_ GE156.out) | exact HB.out)⟩
      ·
       rw [if_neg c6] at H
       have c6b0 : decide (100 < (((rd_T26 l1 x9_1).f0).length : Int)) = false := decide_eq_false c6
       have c6b1 : decide (100 < ((rd_T26 l1 x9_1).f0).length) = false := decide_eq_false (by omega)
       clear c6
       have H' := Aside0.mk H
       clear H
       have p155 : 0 ≤ (x9_1 : Int) := of_decide_eq_true (by first | (with_reducible assumption) | assumption)
       have q155 : x9_1 < (l1.length : Int) := of_decide_eq_true (by first | (with_reducible assumption) | assumption)
       obtain ⟨ad155, A155_0, c155_0, e155, hx155_0, hx155_1, hl155_0, hi155_0⟩ := at_T26 HR1.out x9_1 p155 q155
       cases e155
       replace hx155_0 := (HB.out.cell (World.block_lt_of_cell? w _ hx155_0)).trans hx155_0
       replace hx155_1 := (HB.out.cell (World.block_lt_of_cell? w _ hx155_1)).trans hx155_1
       have HR155_0 := Aside0.mk hi155_0
       have HC155_0 := Aside0.mk hl155_0
       clear hi155_0 hl155_0
       replace p155 := eq_true p155
       replace q155 := eq_true q155
       go_wp2_with (first | ((with_reducible refine gate_dst (N := 6) rfl ?_); (try (refine gate_guard (by rfl) ?_; dsimp only)); refine box_event ?hg (N := 6) ?hd (cs := #[.slice none 0 0, .int .i64 0]) (t := 26) ?hr ?_; (case hd => rfl); (case hg => rfl); (case hr => first | (go_simp; done) | (go_simp; rfl)); intro gb156 hg w9 hbox hb; have n0_ := Aside0.mk (zzT (by repeat (first | (with_reducible first | exact HB.out | apply zzA | apply zzN | apply zzD) | exact HB.out)) hb); have n1_ := Aside0.mk (hbox); have n2_ := Aside0.mk ((by rw [hg]; exact (zzS (by repeat (first | (with_reducible first | exact HB.out | apply zzA | apply zzN | apply zzD) | exact HB.out))) : w.heap.size ≤ gb156)); have n3_ := Aside0.mk ((by rw [hg]; exact (zzS (by repeat (first | (with_reducible first | exact HB.out | apply zzA | apply zzN | apply zzD) | exact HB.out))) : w.heap.size ≤ gb156)); clear HB; have HB := n0_; have BK156 := n1_; have GW156 := n2_; have GE156 := n3_; clear n0_ n1_ n2_ n3_; clear hb hbox hg; have hcz10_0 : w9.cell? ⟨gb156, 0, none⟩ = some (.slice none 0 0) := (blk_cell BK156.out 0).trans rfl; have hcz10_1 : w9.cell? ⟨gb156, 1, none⟩ = some (.int .i64 0) := (blk_cell BK156.out 1).trans rfl; have hfz10_0 := blk_frozen BK156.out 0; have hfz10_1 := blk_frozen BK156.out 1))
       go_roundg k1
       case measure => have := HK1.out; omega
       case rel => exact ⟨(wrap64 (x9_1 + 1)), (by first | rfl | (simp; done) | (simp [*]; done)), H', ⟨by have := HK1.out; omega⟩, ⟨by repeat (first | (with_reducible first | exact HB.out | apply zzA | apply zzN | apply zzD | refine below_set ?_ GE156.out) | exact HB.out)⟩⟩
     ·
      rw [if_neg c5] at H
      exact absurd H (by simp)
    ·
     rw [if_neg c4] at H
     exact absurd H (by simp)
   ·
    rw [if_neg c3] at H
    have c3b0 : decide (x9_1 < (l1.length : Int)) = false := decide_eq_false c3
    clear c3
    by_cases c11 : (l0.length : Int) ≤ 500
    ·
     rw [if_pos c11] at H
     have c11b0 : decide ((l0.length : Int) ≤ 500) = true := decide_eq_true c11
     have c11b1 : decide (l0.length ≤ 500) = true := decide_eq_true (by omega)
     clear c11
     obtain rfl := Option.some.inj H
     go_wp2
     go_ret
     exact ⟨by first | rfl | (simp [errW_none, errW_some] <;> rfl) | (simp [*, errW_none, errW_some] <;> rfl), by repeat (first | (with_reducible first | exact HB.out | apply zzA | apply zzN | apply zzD) | exact HB.out)⟩
    ·
     rw [if_neg c11] at H
     have c11b0 : decide ((l0.length : Int) ≤ 500) = false := decide_eq_false c11
     have c11b1 : decide (l0.length ≤ 500) = false := decide_eq_false (by omega)
     clear c11
     obtain rfl := Option.some.inj H
     go_wp2
     go_ret
     exact ⟨by first | rfl | (simp [errW_none, errW_some] <;> rfl) | (simp [*, errW_none, errW_some] <;> rfl), by repeat (first | (with_reducible first | exact HB.out | apply zzA | apply zzN | apply zzD) | exact HB.out)⟩

-- behind linear_Dim.of's words
theorem thrumref14_FewP.loop (x0 : List Int) (x1 : List S26) (hb : x1.length ≤ 9223372036854775807) : ∀ (d i : Nat), d + i = x1.length →
    thrumref14_FewP.l0 (d + 1) x0 x1 x1 (x1.length : Int) (i : Int) = some (decide ((∀ s ∈ x1.drop i, s.f0.length ≤ 100) ∧ x0.length ≤ 500 ∧ x1.length ≤ 100)) := by
  intro d
  induction d with
  | zero =>
    intro i hd
    rw [thrumref14_FewP.l0, if_neg (by omega), List.drop_eq_nil_of_le (by omega)]
    by_cases c : (x0.length : Int) ≤ 500
    · rw [if_pos c]; congr 1; exact decide_eq_decide.2 ⟨fun h => ⟨by simp, by omega, by omega⟩, fun h => by omega⟩
    · rw [if_neg c, decide_eq_false (fun h => c (by omega))]
  | succ d ih =>
    intro i hd
    have hi : i < x1.length := by omega
    rw [thrumref14_FewP.l0, if_pos (by omega), if_pos (by omega), if_pos (by omega), rd_sm hi, List.drop_eq_getElem_cons hi]
    by_cases c : (x1[i].f0.length : Int) > 100
    · rw [if_pos c, decide_eq_false (fun h => by have := h.1 _ (List.mem_cons.2 (.inl rfl)); omega)]
    · rw [if_neg c, wrap64_of (by unfold I64; omega), show (i : Int) + 1 = ((i + 1 : Nat) : Int) by omega, ih (i + 1) (by omega)]
      congr 1
      refine decide_eq_decide.2 ⟨fun h => ⟨fun s hs => by rcases List.mem_cons.1 hs with e | e; (rw [e]; omega); (exact h.1 s e), h.2⟩, fun h => ⟨fun s hs => h.1 s (List.mem_cons.2 (.inr hs)), h.2⟩⟩
def thrumref14_Few.f (l0 : List Int) (l1 : List S26) : Option Bool := some (decide ((∀ s ∈ l1, s.f0.length ≤ 100) ∧ l0.length ≤ 500 ∧ l1.length ≤ 100))
theorem thrumref14_Few.calls (A0 : Option Addr) (c0 : Nat) (l0 : List Int) (A1 : Option Addr) (c1 : Nat) (l1 : List (S26)) (r : Bool) (w : World) (hr0 : Kd.C (Kd.int .i64) w A0 l0.length l0) (hc0 : l0.length ≤ c0) (hr1 : Kd.C k26 w A1 l1.length l1) (hc1 : l1.length ≤ c1) (h : thrumref14_Few.f l0 l1 = some r) :
    Calls Try.prog 9 #[.slice A0 l0.length c0, .slice A1 l1.length c1] w fun e w' => e = .returned (.bool r) ∧ Below w.heap.size w w' := by
  have hm := Kd.C_max hr1
  refine thrumref14_FewP.calls (l1.length + 1) A0 c0 l0 A1 c1 l1 r w hr0 hc0 hr1 hc1 (Eq.trans ?_ h)
  exact thrumref14_FewP.loop l0 l1 hm l1.length 0 (by omega)


/-! ### mlp_Split: function 11 -/
def mlp_Split.f (a0 : Int) (l1 : List Int) : Option (List (List Int) × List Int × Int) := some (splitM a0 l1)
set_option maxHeartbeats 4000000 in
set_option maxRecDepth 100000 in
theorem mlp_Split.calls (a0 : Int) (A1 : Option Addr) (c1 : Nat) (l1 : List Int) (r1 : List (List Int)) (r2 : List Int) (r3 : Int) (w : World) (hr1 : Kd.C (Kd.int .i64) w A1 l1.length l1) (hc1 : l1.length ≤ c1) (h : mlp_Split.f a0 l1 = some (r1, r2, r3)) :
    Calls Try.prog 11 #[.int .i64 a0, .slice A1 l1.length c1] w fun e w' => ∃ v0_ v1_ : Value, e = .returned (.tuple #[v0_, v1_, .int .i64 r3]) ∧ Kd.S (Kd.slice 2 (Kd.int .i64)) 22 w' w.heap.size (fun k_ => some k_ ≠ (v1_ : Value).ownBlock) v0_ r1 ∧ Kd.R (Kd.int .i64) 2 w' w.heap.size (fun _ => True) v1_ r2 ∧ Below w.heap.size w w' := by
  have h := Option.some.inj h
  have hu54 := Try.underlying54
  have hu52 := Try.underlying52
  have hu22 := Try.underlying22
  by_cases c : (splitM a0 l1).2.2 = 0
  · obtain ⟨k, m, rfl, hk1, hk8, hm2, hm17, hkm, hlm, hs⟩ := splitM_good c
    obtain ⟨ad, rfl, _⟩ := hr1.2.2 (by omega)
    rw [hs] at h
    obtain ⟨h1, h2, h3⟩ : rowsM k m l1 = r1 ∧ l1.drop (k * m) = r2 ∧ 0 = r3 := by cases h; exact ⟨rfl, rfl, rfl⟩
    have hld : r2.length = k + 1 := by rw [← h2, List.length_drop]; omega
    have hrl : r1.length = k := by rw [← h1, rowsM_len]
    have hrj : ∀ j, j < k → r1[j]? = some (Go.Proofs.Ytalamamjodihaaa.Sp.rowAt m l1 j) := by intro j hj; rw [← h1]; unfold rowsM; rw [List.getElem?_map, List.getElem?_range hj]; rfl
    have HSP := Aside0.mk (mlp_split.good k m ad c1 l1 w hk1 hk8 hm2 hm17 hkm hr1 hc1)
    have hcd := drop_C (p := k * m) (by omega) hc1 hr1
    rw [h2, hld] at hcd
    have HROW := Aside0.mk (fun (x : Nat) (hx : x < k) => cut_C (k := k) (m := m) (ad := ad) (c := c1) (l := l1) (W := w) (by omega) (by omega) hc1 hr1 hx)
    have HCL := Aside0.mk (fun (ad' : Addr) (r : List Int) (W : World) (hC : Kd.C (Kd.int .i64) W (some ad') r.length r) (hl : r.length = m) => slices_Clone_int64_int64.calls (some ad') r.length r r W hC (Nat.le_refl _) (slices_Clone_int64_int64.of _ (by omega)))
    have HCL : Aside0 (∀ (ad' : Addr) (r : List Int) (W : World), Kd.C (Kd.int .i64) W (some ad') r.length r → r.length = m → Calls Try.prog 32 #[.slice (some ad') m m] W fun e w' => ∃ v0_ : Value, e = .returned (v0_) ∧ Kd.R (Kd.int .i64) 2 w' W.heap.size (fun _ => True) v0_ r ∧ Below W.heap.size W w') := ⟨fun ad' r W hC hl => by have := HCL.out ad' r W hC hl; rw [hl] at this; exact this⟩
    have HCL2 : Aside0 (∀ (W : World), Kd.C (Kd.int .i64) W (some (ad.add (k * m))) (k + 1) r2 → Calls Try.prog 32 #[.slice (some (ad.add (k * m))) (k + 1) (c1 - k * m)] W fun e w' => ∃ v0_ : Value, e = .returned (v0_) ∧ Kd.R (Kd.int .i64) 2 w' W.heap.size (fun _ => True) v0_ r2 ∧ Below W.heap.size W w') := ⟨fun W hC => by rw [← hld] at hC ⊢; exact slices_Clone_int64_int64.calls _ _ _ _ W hC (by omega) (slices_Clone_int64_int64.of _ (by omega))⟩
    subst h3
    have HCD := Aside0.mk hcd
    have HRJ := Aside0.mk hrj
    have HRL0 := Aside0.mk hrl
    generalize hp : k * m = p at HSP HCD HCL2
    clear h h1 h2 hs hlm hkm hr1 hc1 c hcd hp hrj hrl hld
    go_enter Try.func11, Try.ntmps11
    go_wp2_with (go_at_call 30; (with_reducible refine HSP.out.mono ?_); rintro e w1 ⟨v0, rfl, hS, hb⟩; obtain ⟨g, cr, hve, hrest⟩ := hS.form hk1; subst hve; clear hrest; have HS := Aside0.mk hS; have HB := Aside0.mk hb; clear hS hb)
    have hgl : g < w1.heap.size := own_lt HS.out g rfl
    have hgb : w.heap.size ≤ g := own_base HS.out g rfl
    have HB1 := Aside0.mk (HB.out.alloc HB.out.size (Obj.cells #[.slice (some (ad.add p)) (k + 1) (c1 - p), .slice (some ⟨g, 0, none⟩) k cr, .int .i64 ((m : Int) - 1)] 54))
    have HX1 := Aside0.mk (blk_new w1 (Obj.cells #[.slice (some (ad.add p)) (k + 1) (c1 - p), .slice (some ⟨g, 0, none⟩) k cr, .int .i64 ((m : Int) - 1)] 54))
    have HS1 := Aside0.mk (HS.out.alloc (Obj.cells #[.slice (some (ad.add p)) (k + 1) (c1 - p), .slice (some ⟨g, 0, none⟩) k cr, .int .i64 ((m : Int) - 1)] 54))
    have hwb := HB.out.size
    generalize World.alloc w1 (Obj.cells #[.slice (some (ad.add p)) (k + 1) (c1 - p), .slice (some ⟨g, 0, none⟩) k cr, .int .i64 ((m : Int) - 1)] 54) = W1 at HB1 HX1 HS1 ⊢
    generalize w1.heap.size = B at HX1 hgl hwb ⊢
    clear HS HB
    go_loopw [23] (fun i W => ∃ (j : Nat) (vs : List Value) (f : Nat → Nat), i = .int .i64 j ∧ Aside0 (j ≤ k) ∧ Aside0 (vs.length = j) ∧ Aside0 (W.heap[B]? = some (Obj.cells #[.slice (some (ad.add p)) (k + 1) (c1 - p), .slice (some ⟨g, 0, none⟩) k cr, .int .i64 ((m : Int) - 1)] 54 (0, 0))) ∧ Aside0 (W.ownsRow w.heap.size 22 1 (.slice (some ⟨g, 0, none⟩) k cr) k (vs ++ (cutsM ad m k).drop j)) ∧ Aside0 (∀ (i : Nat) (u : Value) (r : List Int), vs[i]? = some u → r1[i]? = some r → Kd.R (Kd.int .i64) 2 W w.heap.size (fun q => q ≠ g ∧ f q = i) u r) ∧ Aside0 (Below w.heap.size w W)) (fun i _ => k - (intOf i).toNat)
    case atStart => exact ⟨0, [], fun _ => 0, rfl, ⟨Nat.zero_le _⟩, ⟨rfl⟩, HX1, ⟨by rw [List.drop_zero, List.nil_append]; exact HS1.out⟩, ⟨fun i u r hu => by simp at hu⟩, HB1⟩
    case round =>
      obtain ⟨j, vs, f, rfl, ⟨hjk⟩, ⟨hvl⟩, HBX, HSX, HRX, HB⟩ := hrel
      clear HX1 HS1 HB1
      by_cases hlt : j < k
      · have hxj : (vs ++ (cutsM ad m k).drop j)[j]? = some (.slice (some (ad.add (j * m))) m m) := by
          rw [List.getElem?_append_right (by omega), hvl, Nat.sub_self, List.getElem?_drop, Nat.add_zero]
          unfold cutsM
          rw [List.getElem?_map, List.getElem?_range hlt]
          rfl
        obtain ⟨hcx, hfx⟩ := own_cell1 HSX.out hxj
        have hrow := HROW.out j hlt
        have hlrow := hrow.2
        have HRL := Aside0.mk hlrow
        have HRD := Aside0.mk (Kd.C_below hrow.1 HB.out)
        have HLT := Aside0.mk hlt
        have HVL := Aside0.mk hvl
        have hq1 : wr.cell? ⟨B, 1, none⟩ = some (.slice (some ⟨g, 0, none⟩) k cr) := (blk_cell HBX.out 1).trans rfl
        have HRJJ := Aside0.mk (HRJ.out j hlt)
        have HXJ := Aside0.mk hxj
        clear hrow hlrow hxj hvl
        go_wp2
        refine start_ (n := 7) (S := fun w' => w'.cell? ⟨B, 1, none⟩ = some (.slice (some ⟨g, 0, none⟩) k cr)) (ds := [6]) #[false, false, false, false, false, false, false] (by kernel_rfl) rfl rfl (hq1) (fun hHeld => ?_)
        refine pure_ (i := 0) (N := some 28) (v := ?_) (a' := ?_) #[true, false, false, false, false, false, false] rfl rfl (by kernel_rfl) (fun _ _ _ h => h) (Or.inl ⟨by rfl, ?_⟩) ?_ ?_
        rotate_left
        · intro w'
          go_simp
          with_reducible rfl
        rotate_left
        · simp only [Act.put, List.setIfInBounds_toArray, List.set_cons_zero, List.set_cons_succ, i64_w, i32_w]
          rfl
        refine pure_ (i := 2) (N := some 30) (v := ?_) (a' := ?_) #[true, false, true, false, false, false, false] rfl rfl (by kernel_rfl) (fun _ _ _ h => h) (Or.inl ⟨by rfl, ?_⟩) ?_ ?_
        rotate_left
        · intro w'
          go_simp
          with_reducible rfl
        rotate_left
        · simp only [Act.put, List.setIfInBounds_toArray, List.set_cons_zero, List.set_cons_succ, i64_w, i32_w]
          rfl
        refine pure_ (i := 3) (N := some 31) (v := ?_) (a' := ?_) #[true, false, true, true, false, false, false] rfl rfl (by kernel_rfl) (fun _ _ _ h => h) (Or.inl ⟨by rfl, ?_⟩) ?_ ?_
        rotate_left
        · intro w'
          go_simp
          with_reducible rfl
        rotate_left
        · simp only [Act.put, List.setIfInBounds_toArray, List.set_cons_zero, List.set_cons_succ, i64_w, i32_w]
          rfl
        refine take_ (i := 1) (N := some 29) (v := ?_) (a' := ?_) #[true, true, true, true, false, false, false] rfl rfl (by kernel_rfl) (fun _ _ _ h => h) (Or.inl ⟨by rfl, ?_⟩) hHeld ?_ ?_
        rotate_left
        · intro w' s0
          go_simp
          with_reducible rfl
        rotate_left
        · simp only [Act.put, List.setIfInBounds_toArray, List.set_cons_zero, List.set_cons_succ, i64_w, i32_w]
          rfl
        refine one_ (i := 4) (N := some 32) #[true, true, true, true, true, false, false] rfl rfl (by kernel_rfl) (by decide) (fun K hK => ?_)
        refine goes_ Try.func32 (by kernel_rfl) rfl #[.slice (some (ad.add (j * m))) m m] (by rfl) rfl rfl (by simp only [List.map_toArray, List.map_cons, List.map_nil]; rfl) ?_
        with_reducible refine (HCL.out _ _ _ (by first | exact HRD.out | exact ccD HRD.out) HRL.out).mono ?_
        rintro e W3 ⟨v_, rfl, hR, hb3⟩
        refine ⟨_, rfl, ?_⟩
        have HB3 := Aside0.mk hb3
        have hbx := blk_below (by first | exact HBX.out | exact kkD HBX.out) hb3
        obtain ⟨Ac, cc, hve⟩ := Kd.R_slice hR
        rw [HRL.out] at hve
        subst hve
        have HO := Aside0.mk hR
        have hcx3 := (own_cell1 (pw_own_below (w := wr.drew) HSX.out hb3) HXJ.out).1
        have hfx3 := (own_cell1 (pw_own_below (w := wr.drew) HSX.out hb3) HXJ.out).2
        clear hR hb3
        refine hK.out _ _ ((blk_cell hbx 1).trans rfl) (fun hHeld => ?_)
        clear hK K
        refine norm_ (a' := ?_) ?_ ?_
        rotate_left
        · show Act.put _ (some 32) _ = _
          simp only [Act.put, List.setIfInBounds_toArray, List.set_cons_zero, List.set_cons_succ, i64_w, i32_w]
          rfl
        refine pure_ (i := 5) (N := some 33) (v := ?_) (a' := ?_) #[true, true, true, true, true, true, false] rfl rfl (by kernel_rfl) (fun _ _ _ h => h) (Or.inl ⟨by rfl, ?_⟩) ?_ ?_
        rotate_left
        · intro w'
          go_simp
          with_reducible rfl
        rotate_left
        · simp only [Act.put, List.setIfInBounds_toArray, List.set_cons_zero, List.set_cons_succ, i64_w, i32_w]
          rfl
        refine last_ (i := 6) (N := none) #[true, true, true, true, true, true, true] rfl rfl (by kernel_rfl) (by decide) (fun K hK => ?_)
        refine skip_ (w1 := ?_) (by rfl) rfl ?_ ?_
        rotate_left
        · go_simp
          rfl
        refine hK.out _ _ ?_
        clear hK K
        refine done_ (by kernel_rfl) ?_
        go_wp2
        have hgw : g < wr.heap.size := own_lt HSX.out g rfl
        have hbw := HB.out.size
        have hset : (vs ++ (cutsM ad m k).drop j).set j (.slice Ac m cc) = (vs ++ [.slice Ac m cc]) ++ (cutsM ad m k).drop (j + 1) := by
          rw [List.set_append_right _ _ (by rw [HVL.out]; exact Nat.le_refl _), HVL.out, Nat.sub_self, List.drop_eq_getElem_cons (by unfold cutsM; simp; exact HLT.out), List.set_cons_zero]
          simp
        have hown := own_put1 (pw_own_below (w := wr.drew) HSX.out HB3.out) HLT.out (.slice Ac m cc)
        rw [hset] at hown
        refine ⟨⟨j + 1, vs ++ [.slice Ac m cc], fun q => if wr.heap.size ≤ q then j else f q, by (try rw [wrap64_of (show I64 ((j : Int) + 1) by unfold I64; omega)]); rfl, ⟨HLT.out⟩, ⟨by rw [List.length_append, HVL.out]; rfl⟩, ⟨blk_far (blk_below (w := wr.drew) HBX.out HB3.out) (by show B ≠ g; omega) _⟩, ⟨hown⟩, ⟨?_⟩, ⟨(below_then (below_drew HB.out) hbw HB3.out).setCell (p := ⟨g, j, none⟩) hgb _⟩⟩, by have := HLT.out; (try rw [wrap64_of (show I64 ((j : Int) + 1) by unfold I64; omega)]); simp [intOf]; omega⟩
        intro i u r hu hr
        have hil := (List.getElem?_eq_some_iff.1 hu).1
        rw [List.length_append, HVL.out, List.length_singleton] at hil
        by_cases hij : i < j
        · rw [List.getElem?_append_left (by rw [HVL.out]; exact hij)] at hu
          have h2 := Kd.R_far (p := ⟨g, j, none⟩) (Kd.R_below (w := wr.drew) (Kd.R_bound (HRX.out i u r hu hr)) HB3.out) (fun q hq => hq.1.1) (.slice Ac m cc)
          exact Kd.R_mono h2 (fun q hq => ⟨hq.1.1, by show (if wr.heap.size ≤ q then j else f q) = i; rw [if_neg (Nat.not_le.2 (show q < wr.heap.size from hq.2.2.1))]; exact hq.1.2⟩)
        · obtain rfl : i = j := by omega
          rw [List.getElem?_append_right (by rw [HVL.out]; exact Nat.le_refl _), HVL.out, Nat.sub_self] at hu
          obtain rfl : Value.slice Ac m cc = u := by simpa using hu
          obtain rfl : Go.Proofs.Ytalamamjodihaaa.Sp.rowAt m l1 i = r := Option.some.inj (HRJJ.out.symm.trans hr)
          have h2 := Kd.R_far (p := ⟨g, i, none⟩) (Kd.R_bound HO.out) (fun q hq => by have := hq.2.1; show q ≠ g; intro e; subst e; exact absurd hgw (Nat.not_lt.2 this)) (.slice Ac m cc)
          exact Kd.R_lower (Kd.R_mono h2 (fun q hq => ⟨fun e => by have := hq.2.1; subst e; exact absurd hgw (Nat.not_lt.2 this), if_pos hq.2.1⟩)) hbw
      · have hjk2 : j = k := by omega
        subst hjk2
        have hdn : (cutsM ad m j).drop j = [] := List.drop_eq_nil_of_le (by unfold cutsM; simp)
        have hsx := HSX.out
        rw [hdn, List.append_nil] at hsx
        have HSY := Aside0.mk hsx
        have HLD := Aside0.mk (Kd.C_below HCD.out HB.out)
        have HVL := Aside0.mk hvl
        have hq1 : wr.cell? ⟨B, 1, none⟩ = some (.slice (some ⟨g, 0, none⟩) j cr) := (blk_cell HBX.out 1).trans rfl
        have hq0 : wr.cell? ⟨B, 0, none⟩ = some (.slice (some (ad.add p)) (j + 1) (c1 - p)) := (blk_cell HBX.out 0).trans rfl
        clear hsx hdn hvl HSX hjk hlt
        go_wp2
        refine start_ (n := 9) (S := fun w' => w'.cell? ⟨B, 1, none⟩ = some (.slice (some ⟨g, 0, none⟩) j cr) ∧ w'.cell? ⟨B, 0, none⟩ = some (.slice (some (ad.add p)) (j + 1) (c1 - p))) (ds := []) #[false, false, false, false, false, false, false, false, false] (by kernel_rfl) rfl rfl ⟨hq1, hq0⟩ (fun hHeld => ?_)
        refine pure_ (i := 0) (N := some 35) (v := ?_) (a' := ?_) #[true, false, false, false, false, false, false, false, false] rfl rfl (by kernel_rfl) (fun _ _ _ h => h) (Or.inl ⟨by rfl, ?_⟩) ?_ ?_
        rotate_left
        · intro w'
          go_simp
          with_reducible rfl
        rotate_left
        · simp only [Act.put, List.setIfInBounds_toArray, List.set_cons_zero, List.set_cons_succ, i64_w, i32_w]
          rfl
        refine pure_ (i := 2) (N := some 37) (v := ?_) (a' := ?_) #[true, false, true, false, false, false, false, false, false] rfl rfl (by kernel_rfl) (fun _ _ _ h => h) (Or.inl ⟨by rfl, ?_⟩) ?_ ?_
        rotate_left
        · intro w'
          go_simp
          with_reducible rfl
        rotate_left
        · simp only [Act.put, List.setIfInBounds_toArray, List.set_cons_zero, List.set_cons_succ, i64_w, i32_w]
          rfl
        refine pure_ (i := 3) (N := some 38) (v := ?_) (a' := ?_) #[true, false, true, true, false, false, false, false, false] rfl rfl (by kernel_rfl) (fun _ _ _ h => h) (Or.inl ⟨by rfl, ?_⟩) ?_ ?_
        rotate_left
        · intro w'
          go_simp
          with_reducible rfl
        rotate_left
        · simp only [Act.put, List.setIfInBounds_toArray, List.set_cons_zero, List.set_cons_succ, i64_w, i32_w]
          rfl
        refine take_ (i := 1) (N := some 36) (v := ?_) (a' := ?_) #[true, true, true, true, false, false, false, false, false] rfl rfl (by kernel_rfl) (fun _ _ _ h => h) (Or.inl ⟨by rfl, ?_⟩) hHeld ?_ ?_
        rotate_left
        · rintro w' ⟨s0, s1⟩
          go_simp
          with_reducible rfl
        rotate_left
        · simp only [Act.put, List.setIfInBounds_toArray, List.set_cons_zero, List.set_cons_succ, i64_w, i32_w]
          rfl
        refine take_ (i := 4) (N := some 39) (v := ?_) (a' := ?_) #[true, true, true, true, true, false, false, false, false] rfl rfl (by kernel_rfl) (fun _ _ _ h => h) (Or.inl ⟨by rfl, ?_⟩) hHeld ?_ ?_
        rotate_left
        · rintro w' ⟨s0, s1⟩
          go_simp
          with_reducible rfl
        rotate_left
        · simp only [Act.put, List.setIfInBounds_toArray, List.set_cons_zero, List.set_cons_succ, i64_w, i32_w]
          rfl
        refine one_ (i := 5) (N := some 40) #[true, true, true, true, true, true, false, false, false] rfl rfl (by kernel_rfl) (by decide) (fun K hK => ?_)
        refine goes_ Try.func32 (by kernel_rfl) rfl #[.slice (some (ad.add p)) (j + 1) (c1 - p)] (by rfl) rfl rfl (by simp only [List.map_toArray, List.map_cons, List.map_nil]; rfl) ?_
        with_reducible refine (HCL2.out _ (by first | exact HLD.out | exact ccD HLD.out)).mono ?_
        rintro e W3 ⟨v_, rfl, hR, hb3⟩
        refine ⟨_, rfl, ?_⟩
        have HB3 := Aside0.mk hb3
        have hbx := blk_below (by first | exact HBX.out | exact kkD HBX.out) hb3
        have HO := Aside0.mk hR
        clear hR hb3
        refine hK.out _ _ ⟨(blk_cell hbx 1).trans rfl, (blk_cell hbx 0).trans rfl⟩ (fun hHeld => ?_)
        clear hK K
        refine norm_ (a' := ?_) ?_ ?_
        rotate_left
        · show Act.put _ (some 40) _ = _
          simp only [Act.put, List.setIfInBounds_toArray, List.set_cons_zero, List.set_cons_succ, i64_w, i32_w]
          rfl
        refine pure_ (i := 6) (N := some 4) (v := ?_) (a' := ?_) #[true, true, true, true, true, true, true, false, false] rfl rfl (by kernel_rfl) (fun _ _ _ h => h) (Or.inl ⟨by rfl, ?_⟩) ?_ ?_
        rotate_left
        · intro w'
          go_simp
          with_reducible rfl
        rotate_left
        · simp only [Act.put, List.setIfInBounds_toArray, List.set_cons_zero, List.set_cons_succ, i64_w, i32_w]
          rfl
        refine pure_ (i := 7) (N := some 5) (v := ?_) (a' := ?_) #[true, true, true, true, true, true, true, true, false] rfl rfl (by kernel_rfl) (fun _ _ _ h => h) (Or.inl ⟨by rfl, ?_⟩) ?_ ?_
        rotate_left
        · intro w'
          go_simp
          with_reducible rfl
        rotate_left
        · simp only [Act.put, List.setIfInBounds_toArray, List.set_cons_zero, List.set_cons_succ, i64_w, i32_w]
          rfl
        refine pure_ (i := 8) (N := some 6) (v := ?_) (a' := ?_) #[true, true, true, true, true, true, true, true, true] rfl rfl (by kernel_rfl) (fun _ _ _ h => h) (Or.inl ⟨by rfl, ?_⟩) ?_ ?_
        rotate_left
        · intro w'
          go_simp
          with_reducible rfl
        rotate_left
        · simp only [Act.put, List.setIfInBounds_toArray, List.set_cons_zero, List.set_cons_succ, i64_w, i32_w]
          rfl
        refine done_ (by kernel_rfl) ?_
        go_wp2
        (try simp only [Exit.inBlock, Exit.then])
        refine bodyPost_ret (results_tmp3 rfl _ _ _) rfl ?_
        have hgw : g < wr.heap.size := own_lt HSY.out g rfl
        have hbw := HB.out.size
        have hnew : ∀ q, q < wr.heap.size → some q ≠ v_.ownBlock := fun q hq e => absurd hq (Nat.not_lt.2 (Kd.R_base HO.out q e.symm))
        have hS3 := pw_own_below (w := wr.drew) HSY.out HB3.out
        have hvj := HVL.out
        refine ⟨_, _, rfl, S_parts (vs := vs) (by rw [hvj]; exact hS3) (fun q hq => by cases hq; exact hnew g hgw) (by rw [hvj]; exact HRL0.out.symm) f (fun i u r hu hr => ?_), Kd.R_lower HO.out hbw, below_then (below_drew HB.out) hbw HB3.out⟩
        exact Kd.R_mono (Kd.R_below (w := wr.drew) (Kd.R_bound (HRX.out i u r hu hr)) HB3.out) (fun q hq => ⟨⟨hnew q hq.2.2.1, fun e => hq.1.1 (Option.some.inj e)⟩, hq.1.2⟩)
  · have HSP := Aside0.mk (mlp_split.bad a0 A1 c1 l1 w hr1 hc1 c)
    rw [splitM_bad c] at h
    obtain ⟨h1, h2, h3⟩ : [] = r1 ∧ [] = r2 ∧ (splitM a0 l1).2.2 = r3 := by cases h; exact ⟨rfl, rfl, rfl⟩
    subst h1
    subst h2
    subst h3
    generalize (splitM a0 l1).2.2 = e at HSP c ⊢
    have he0 : (e == 0) = false := beq_eq_false_iff_ne.2 c
    have he1 : (e != 0) = true := bne_iff_ne.2 c
    clear h hr1 hc1 c
    go_enter Try.func11, Try.ntmps11
    go_wp2_with (go_at_call 30; (with_reducible refine HSP.out.mono ?_); rintro e w1 ⟨rfl, hb⟩; have HB := Aside0.mk hb; clear hb)
    (try simp only [Exit.inBlock, Exit.then])
    refine bodyPost_ret (results_tmp3 rfl _ _ _) rfl ?_
    exact ⟨_, _, rfl, Kd.S_nil _ _ _ _ _, Kd.R_nil _ _ _ _ _, zzA HB.out _⟩


/-! ### thrumref02_SameP: function 23 -/
def thrumref02_SameP.l0 : Nat → List Int → List Int → Int → Int → Option (Bool)
 | 0, _, _, _, _ => none
 | k + 1, x0, x1, x12, x13 => if x13 < x12 then (if 0 ≤ x13 then (if x13 < (x0.length : Int) then (if x13 < (x1.length : Int) then (if (rd x0 x13) = (rd x1 x13) then (thrumref02_SameP.l0 k x0 x1 x12 (wrap64 (x13 + 1))) else (some false)) else (none)) else (none)) else (none)) else (some true)
def thrumref02_SameP.f (k : Nat) (l0 : List Int) (l1 : List Int) : Option (Bool) := if (l0.length : Int) = (l1.length : Int) then (thrumref02_SameP.l0 k l0 l1 (l0.length : Int) 0) else (some false)
theorem thrumref02_SameP.mono_l : ∀ k, (∀ y0 y1 y2 y3, LeO (thrumref02_SameP.l0 k y0 y1 y2 y3) (thrumref02_SameP.l0 (k + 1) y0 y1 y2 y3))
 | 0 => fun _ _ _ _ r h => by simp [thrumref02_SameP.l0] at h
 | k + 1 => by
  have ih0 := thrumref02_SameP.mono_l k
  ·
   intro y0 y1 y2 y3
   unfold thrumref02_SameP.l0
   repeat' first
   | (with_reducible exact ih0 _ _ _ _)
   | (with_reducible exact LeO.refl _)
   | (with_reducible exact LeO.none _)
   | (with_reducible refine LeO.ite ?_ ?_)
   | (with_reducible refine LeO.bind ?_ (fun _ => ?_))
   | exact ih0 _ _ _ _
   | exact LeO.none _
   | refine LeO.ite ?_ ?_
   | refine LeO.bind ?_ (fun _ => ?_)
theorem thrumref02_SameP.mono : ∀ a0 a1 k, LeO (thrumref02_SameP.f k a0 a1) (thrumref02_SameP.f (k + 1) a0 a1) := by
 intro a0 a1 k
 have ih0 := thrumref02_SameP.mono_l k
 unfold thrumref02_SameP.f
 repeat' first
   | (with_reducible exact ih0 _ _ _ _)
   | (with_reducible exact LeO.refl _)
   | (with_reducible exact LeO.none _)
   | (with_reducible refine LeO.ite ?_ ?_)
   | (with_reducible refine LeO.bind ?_ (fun _ => ?_))
   | exact ih0 _ _ _ _
   | exact LeO.none _
   | refine LeO.ite ?_ ?_
   | refine LeO.bind ?_ (fun _ => ?_)
set_option maxHeartbeats 8000000 in
set_option maxRecDepth 100000 in
theorem thrumref02_SameP.calls (k : Nat) (A0 : Option Addr) (c0 : Nat) (l0 : List Int) (A1 : Option Addr) (c1 : Nat) (l1 : List Int) (r : Bool) (w : World) (hr0 : Kd.C (Kd.int .i64) w A0 l0.length l0) (hc0 : l0.length ≤ c0) (hr1 : Kd.C (Kd.int .i64) w A1 l1.length l1) (hc1 : l1.length ≤ c1) (h : thrumref02_SameP.f k l0 l1 = some r) :
  Calls Try.prog 23 #[.slice A0 l0.length c0, .slice A1 l1.length c1] w fun e w' => e = .returned (.bool r) ∧ Drawn0 w w' := by
 have HR0 := Aside0.mk hr0
 have HC0 := Aside0.mk hc0
 clear hr0 hc0
 have HR1 := Aside0.mk hr1
 have HC1 := Aside0.mk hc1
 clear hr1 hc1
 have H : (if (l0.length : Int) = (l1.length : Int) then (thrumref02_SameP.l0 k l0 l1 (l0.length : Int) 0) else (some false)) = some r := h
 clear h
 by_cases c3 : (l0.length : Int) = (l1.length : Int)
 ·
  rw [if_pos c3] at H
  have c3b0 : ((l0.length : Int) == (l1.length : Int)) = true := beq_iff_eq.mpr c3
  have c3b1 : ((l0.length : Int) != (l1.length : Int)) = false := bne_eq_false_iff_eq.mpr c3
  have c3b2 : (l0.length == l1.length) = true := by first | simpa using c3 | (simp at c3 ⊢; omega)
  clear c3
  have H' := Aside0.mk H
  clear H
  go_enter Try.func23, Try.ntmps23
  go_wp2
  repeat (go_quiet (fail); try go_wp2)
  go_loopg [13] k (fun kq v13 w' => ∃ (x13_1 : Int), v13 = .int .i64 x13_1 ∧ Aside0 (thrumref02_SameP.l0 kq l0 l1 (l0.length : Int) x13_1 = some r) ∧ Aside0 (kq ≤ k) ∧ Drawn0 w w')
  case atStart => exact ⟨(0), (by first | rfl | (simp; done) | (simp [*]; done)), H', ⟨Nat.le_refl _⟩, by repeat (first | exact ddR _ | apply ddS)⟩
  case round =>
   clear H'
   try clear c1
   try clear c2
   try clear p2
   try clear c3
   try clear c3b0
   try clear c3b1
   try clear c3b2
   obtain ⟨x13_1, rfl, HA, HK1, ⟨m1, rfl⟩⟩ := hrel
   cases gk with
   | zero => exact absurd HA.out (by simp [thrumref02_SameP.l0])
   | succ k1 =>
    have H := HA.out
    clear HA
    simp only [thrumref02_SameP.l0] at H
    by_cases c4 : x13_1 < (l0.length : Int)
    ·
     rw [if_pos c4] at H
     have c4b0 : decide (x13_1 < (l0.length : Int)) = true := decide_eq_true c4
     clear c4
     by_cases c5 : 0 ≤ x13_1
     ·
      rw [if_pos c5] at H
      have c5b0 : decide (0 ≤ x13_1) = true := decide_eq_true c5
      clear c5
      by_cases c6 : x13_1 < (l0.length : Int)
      ·
       rw [if_pos c6] at H
       have c6b0 : decide (x13_1 < (l0.length : Int)) = true := decide_eq_true c6
       clear c6
       by_cases c7 : x13_1 < (l1.length : Int)
       ·
        rw [if_pos c7] at H
        have c7b0 : decide (x13_1 < (l1.length : Int)) = true := decide_eq_true c7
        clear c7
        by_cases c8 : (rd l0 x13_1) = (rd l1 x13_1)
        ·
         rw [if_pos c8] at H
         have c8b0 : ((rd l0 x13_1) == (rd l1 x13_1)) = true := beq_iff_eq.mpr c8
         have c8b1 : ((rd l0 x13_1) != (rd l1 x13_1)) = false := bne_eq_false_iff_eq.mpr c8
         clear c8
         have H' := Aside0.mk H
         clear H
         have p157 : 0 ≤ (x13_1 : Int) := of_decide_eq_true (by first | (with_reducible assumption) | assumption)
         have q157 : x13_1 < (l0.length : Int) := of_decide_eq_true (by first | (with_reducible assumption) | assumption)
         obtain ⟨ad157, e157, hx157_0⟩ := Kd.at_int HR0.out x13_1 p157 q157
         cases e157
         replace p157 := eq_true p157
         replace q157 := eq_true q157
         have p158 : 0 ≤ (x13_1 : Int) := of_decide_eq_true (by first | (with_reducible assumption) | assumption)
         have q158 : x13_1 < (l1.length : Int) := of_decide_eq_true (by first | (with_reducible assumption) | assumption)
         obtain ⟨ad158, e158, hx158_0⟩ := Kd.at_int HR1.out x13_1 p158 q158
         cases e158
         replace p158 := eq_true p158
         replace q158 := eq_true q158
         go_wp2
         repeat (go_quiet (fail); try go_wp2)
         go_roundg k1
         case measure => have := HK1.out; omega
         case rel => exact ⟨(wrap64 (x13_1 + 1)), (by first | rfl | (simp; done) | (simp [*]; done)), H', ⟨by have := HK1.out; omega⟩, by repeat (first | exact ddR _ | apply ddS)⟩
        ·
         rw [if_neg c8] at H
         have c8b0 : ((rd l0 x13_1) == (rd l1 x13_1)) = false := beq_eq_false_iff_ne.mpr c8
         have c8b1 : ((rd l0 x13_1) != (rd l1 x13_1)) = true := bne_iff_ne.mpr c8
         obtain rfl := Option.some.inj H
         have p157 : 0 ≤ (x13_1 : Int) := of_decide_eq_true (by first | (with_reducible assumption) | assumption)
         have q157 : x13_1 < (l0.length : Int) := of_decide_eq_true (by first | (with_reducible assumption) | assumption)
         obtain ⟨ad157, e157, hx157_0⟩ := Kd.at_int HR0.out x13_1 p157 q157
         cases e157
         replace p157 := eq_true p157
         replace q157 := eq_true q157
         have p158 : 0 ≤ (x13_1 : Int) := of_decide_eq_true (by first | (with_reducible assumption) | assumption)
         have q158 : x13_1 < (l1.length : Int) := of_decide_eq_true (by first | (with_reducible assumption) | assumption)
         obtain ⟨ad158, e158, hx158_0⟩ := Kd.at_int HR1.out x13_1 p158 q158
         cases e158
         replace p158 := eq_true p158
         replace q158 := eq_true q158
         go_wp2
         repeat (go_quiet (fail); try go_wp2)
         go_ret
         exact ⟨by first | rfl | (simp; done) | (simp [*]; done), by repeat (first | exact ddR _ | apply ddS)⟩
       ·
        rw [if_neg c7] at H
        exact absurd H (by simp)
      ·
       rw [if_neg c6] at H
       exact absurd H (by simp)
     ·
      rw [if_neg c5] at H
      exact absurd H (by simp)
    ·
     rw [if_neg c4] at H
     have c4b0 : decide (x13_1 < (l0.length : Int)) = false := decide_eq_false c4
     clear c4
     obtain rfl := Option.some.inj H
     go_wp2
     repeat (go_quiet (fail); try go_wp2)
     go_ret
     exact ⟨by first | rfl | (simp; done) | (simp [*]; done), by repeat (first | exact ddR _ | apply ddS)⟩
 ·
  rw [if_neg c3] at H
  have c3b0 : ((l0.length : Int) == (l1.length : Int)) = false := beq_eq_false_iff_ne.mpr c3
  have c3b1 : ((l0.length : Int) != (l1.length : Int)) = true := bne_iff_ne.mpr c3
  have c3b2 : (l0.length == l1.length) = false := by first | simpa using c3 | (simp at c3 ⊢; omega)
  obtain rfl := Option.some.inj H
  go_enter Try.func23, Try.ntmps23
  go_wp2
  repeat (go_quiet (fail); try go_wp2)
  go_ret
  exact ⟨by first | rfl | (simp; done) | (simp [*]; done), by repeat (first | exact ddR _ | apply ddS)⟩

theorem thrumref02_SameP.loop (x0 x1 : List Int) (hl : x0.length = x1.length) (hb : x0.length ≤ 9223372036854775807) : ∀ (d i : Nat), d + i = x0.length →
    thrumref02_SameP.l0 (d + 1) x0 x1 (x0.length : Int) (i : Int) = some (decide (x0.drop i = x1.drop i)) := by
  intro d
  induction d with
  | zero =>
    intro i hd
    rw [thrumref02_SameP.l0, if_neg (by omega), List.drop_eq_nil_of_le (by omega), List.drop_eq_nil_of_le (by omega)]; simp
  | succ d ih =>
    intro i hd
    have hi : i < x0.length := by omega
    have hi1 : i < x1.length := by omega
    rw [thrumref02_SameP.l0, if_pos (by omega), if_pos (by omega), if_pos (by omega), if_pos (by omega), List.drop_eq_getElem_cons hi, List.drop_eq_getElem_cons hi1, show rd x0 (i : Int) = x0[i] from rd_nat hi, show rd x1 (i : Int) = x1[i] from rd_nat hi1]
    by_cases c : x0[i] = x1[i]
    · rw [if_pos c, wrap64_of (by unfold I64; omega), show (i : Int) + 1 = ((i + 1 : Nat) : Int) by omega, ih (i + 1) (by omega)]
      simp only [List.cons.injEq, c, true_and]
    · rw [if_neg c]; simp only [List.cons.injEq, c, false_and, decide_false]
def thrumref02_Same.f (l0 l1 : List Int) : Option Bool := some (decide (l0 = l1))
theorem thrumref02_Same.calls (A0 : Option Addr) (c0 : Nat) (l0 : List Int) (A1 : Option Addr) (c1 : Nat) (l1 : List Int) (r : Bool) (w : World) (hr0 : Kd.C (Kd.int .i64) w A0 l0.length l0) (hc0 : l0.length ≤ c0) (hr1 : Kd.C (Kd.int .i64) w A1 l1.length l1) (hc1 : l1.length ≤ c1) (h : thrumref02_Same.f l0 l1 = some r) :
    Calls Try.prog 23 #[.slice A0 l0.length c0, .slice A1 l1.length c1] w fun e w' => e = .returned (.bool r) ∧ Drawn0 w w' := by
  refine thrumref02_SameP.calls (l0.length + 1) A0 c0 l0 A1 c1 l1 r w hr0 hc0 hr1 hc1 (Eq.trans ?_ h)
  have hm := Kd.C_max hr0
  unfold thrumref02_SameP.f thrumref02_Same.f
  by_cases c : l0.length = l1.length
  · rw [if_pos (by omega)]
    exact (thrumref02_SameP.loop l0 l1 c hm l0.length 0 (by omega)).trans (by simp)
  · rw [if_neg (by omega)]
    have : l0 ≠ l1 := fun e => c (by rw [e])
    simp [this]


/-! ### api_Sample_58: function 58 -/
/-- The first one's place of which p is true, counted from k on, or -1. -/
def findFrom {α : Type} (p : α → Bool) : List α → Nat → Int
  | [], _ => -1
  | x :: l, k => if p x = true then (k : Int) else findFrom p l (k + 1)
theorem findFrom_any {α : Type} (p : α → Bool) : ∀ (l : List α) (k : Nat), decide (0 ≤ findFrom p l k) = l.any p
  | [], k => rfl
  | x :: l, k => by
    rw [findFrom, List.any_cons]
    by_cases c : p x = true
    · rw [if_pos c, c, Bool.true_or, decide_eq_true (by omega)]
    · rw [if_neg c, Bool.eq_false_iff.2 c, Bool.false_or]
      exact findFrom_any p l (k + 1)
set_option maxHeartbeats 4000000 in
set_option maxRecDepth 100000 in
theorem slices_IndexFuncS.calls (K : Nat) (caps : Array Value) (p : S26 → Bool) (A2 : Option Addr) (c2 : Nat) (l2 : List S26) (w : World)
    (hent : ∀ (args : Array Value) (w : World), (callFunc K args).run Try.prog w = .ok (.enter K args) w)
    (hr2 : Kd.C k26 w A2 l2.length l2) (hc2 : l2.length ≤ c2)
    (hK : ∀ W (x : S26) A c, Below w.heap.size w W → Kd.C (Kd.int .i64) W A x.f0.length x.f0 → x.f0.length ≤ c →
      Calls Try.prog K (#[.agg #[.slice A x.f0.length c, .int .i64 x.f1]] ++ caps) W fun ed W' => ed = .returned (.bool (p x)) ∧ Below W.heap.size W W') :
    Calls Try.prog 58 #[.slice A2 l2.length c2, .func (.func K) #[] caps] w fun e w' => e = .returned (.int .i64 (findFrom p l2 0)) ∧ Below w.heap.size w w' := by
  have hu := Try.underlying26
  have HR2 := Aside0.mk hr2
  have HC2 := Aside0.mk hc2
  have HK := Aside0.mk hK
  have hmx := Kd.C_max hr2
  have HM := Aside0.mk hmx
  have HB := Aside0.mk (Below.refl w.heap.size w)
  obtain ⟨res, hres⟩ : ∃ r, findFrom p l2 0 = r := ⟨_, rfl⟩
  rw [hres]
  have HG := Aside0.mk hres
  clear hr2 hc2 hK hmx hres
  go_enter Try.func58, Try.ntmps58
  go_wp2_with fail
  go_loopw [8] (fun vi W => ∃ (k : Nat), vi = .int .i64 k ∧ Aside0 (k ≤ l2.length) ∧ Aside0 (findFrom p (l2.drop k) k = res) ∧ Aside0 (Below w.heap.size w W)) (fun i _ => l2.length - (intOf i).toNat)
  case atStart => exact ⟨0, rfl, ⟨Nat.zero_le _⟩, ⟨by rw [List.drop_zero]; exact HG.out⟩, HB⟩
  case round =>
    obtain ⟨k, rfl, ⟨hk⟩, ⟨hgo⟩, HB⟩ := hrel
    clear HG
    by_cases hlt : k < l2.length
    · have hM := HM.out
      obtain ⟨ad, A, c, rfl, hx0, hx1, hl, hi⟩ := at_T26 HR2.out (k : Int) (by omega) (by omega)
      obtain ⟨x, hx⟩ : ∃ x, rd_T26 l2 (k : Int) = x := ⟨_, rfl⟩
      have hmem : l2[k] = x := (rd_sm hlt).symm.trans hx
      rw [hx] at hx0 hx1 hl hi
      simp only [Int.toNat_natCast] at hx0 hx1
      replace hx0 := (HB.out.cell (World.block_lt_of_cell? _ _ hx0)).trans hx0
      replace hx1 := (HB.out.cell (World.block_lt_of_cell? _ _ hx1)).trans hx1
      have HRX := Aside0.mk hi
      have HCX := Aside0.mk hl
      have HLT := Aside0.mk hlt
      rw [List.drop_eq_getElem_cons hlt, hmem, findFrom] at hgo
      clear hl hi hx hmem hk
      by_cases hp : p x = true
      · rw [if_pos hp] at hgo
        subst hgo
        go_wp2_with (go_at_fn K; refine (HK.out _ x A c HB.out (Kd.C_below HRX.out HB.out) HCX.out).mono ?_; rintro ed W3 ⟨rfl, hb3⟩; rw [hp]; have HB3 := Aside0.mk (below_then HB.out HB.out.size hb3); clear hb3)
        go_ret
        exact ⟨rfl, HB3.out⟩
      · rw [if_neg hp] at hgo
        have HG := Aside0.mk hgo
        have hpf : p x = false := Bool.eq_false_iff.2 hp
        clear hgo hp
        go_wp2_with (go_at_fn K; refine (HK.out _ x A c HB.out (Kd.C_below HRX.out HB.out) HCX.out).mono ?_; rintro ed W3 ⟨rfl, hb3⟩; rw [hpf]; have HB3 := Aside0.mk (below_then HB.out HB.out.size hb3); clear hb3)
        exact ⟨⟨k + 1, by first | rfl | (rw [wrap64_of (show I64 ((k : Int) + 1) by unfold I64; omega)]; rfl), ⟨HLT.out⟩, HG, HB3⟩, by have := HLT.out; have := HM.out; (try rw [wrap64_of (show I64 ((k : Int) + 1) by unfold I64; omega)]); simp [intOf]; omega⟩
    · have hkn : k = l2.length := by omega
      subst hkn
      rw [List.drop_length, findFrom] at hgo
      subst hgo
      clear hk
      go_wp2
      go_ret
      exact ⟨rfl, HB.out⟩


/-! ### api_Sample_43: function 43 -/
set_option maxHeartbeats 4000000 in
set_option maxRecDepth 100000 in
theorem slices_ContainsFuncS.calls (K : Nat) (caps : Array Value) (p : S26 → Bool) (A2 : Option Addr) (c2 : Nat) (l2 : List S26) (w : World)
    (hent : ∀ (args : Array Value) (w : World), (callFunc K args).run Try.prog w = .ok (.enter K args) w)
    (hr2 : Kd.C k26 w A2 l2.length l2) (hc2 : l2.length ≤ c2)
    (hK : ∀ W (x : S26) A c, Below w.heap.size w W → Kd.C (Kd.int .i64) W A x.f0.length x.f0 → x.f0.length ≤ c →
      Calls Try.prog K (#[.agg #[.slice A x.f0.length c, .int .i64 x.f1]] ++ caps) W fun ed W' => ed = .returned (.bool (p x)) ∧ Below W.heap.size W W') :
    Calls Try.prog 43 #[.slice A2 l2.length c2, .func (.func K) #[] caps] w fun e w' => e = .returned (.bool (l2.any p)) ∧ Below w.heap.size w w' := by
  rw [← findFrom_any p l2 0]
  have H := Aside0.mk (slices_IndexFuncS.calls K caps p A2 c2 l2 w hent hr2 hc2 hK)
  clear hr2 hc2 hK
  generalize findFrom p l2 0 = r at H
  go_enter Try.func43, Try.ntmps43
  go_wp2_with (go_at_call 58; (with_reducible refine H.out.mono ?_); rintro ed W3 ⟨rfl, hb3⟩)
  go_ret
  exact ⟨rfl, hb3⟩


-- NOT PRINTED: function 44 (mlp_Check_1)

/-! ### mlp_Check: function 25 -/
set_option maxHeartbeats 4000000 in
set_option maxRecDepth 100000 in
theorem mlp_Check_1.calls (b1 : Nat) (A : Option Addr) (c : Nat) (x : List Int) (y n : Int) (W : World) (hb : W.heap[b1]? = some (.cells #[.int .i64 n] 3 (0, 0))) :
    Calls Try.prog 44 (#[.agg #[.slice A x.length c, .int .i64 y]] ++ #[.pointer (some ⟨b1, 0, none⟩)]) W fun ed W' => ed = .returned (.bool ((x.length : Int) != n)) ∧ Below W.heap.size W W' := by
  have hu := Try.underlying26
  have hlt := blk_lt hb
  have hc : W.cell? ⟨b1, 0, none⟩ = some (.int .i64 n) := (blk_cell hb 0).trans rfl
  go_enter Try.func44, Try.ntmps44
  go_wp2
  go_ret
  exact ⟨rfl, zzA (Below.refl _ _) _⟩
def mlp_Check.f (a0 a1 : Int) (l2 : List Int) (l3 : List S26) : Option Int := some (checkM a0 a1 l2 (l3.map sm))
theorem checkM_any (a0 a1 : Int) (l2 : List Int) (l3 : List S26) : checkM a0 a1 l2 (l3.map sm) =
    if (dimM a0 a1).2 ≠ 0 then 1 else if (l2.length : Int) ≠ (dimM a0 a1).1 ∨ (l3.any fun s => (s.f0.length : Int) != a0) = true then 4 else
    if l3.length = 0 ∨ l3.length > 64 then 1 else 0 := by
  unfold checkM
  have h1 : (¬ ∀ s ∈ l3.map sm, (s.1.length : Int) = a0) ↔ (l3.any fun s => (s.f0.length : Int) != a0) = true := by
    simp [List.any_eq_true, sm]
  rw [List.length_map]
  simp only [h1]
set_option maxHeartbeats 8000000 in
set_option maxRecDepth 100000 in
theorem mlp_Check.calls (a0 : Int) (a1 : Int) (A2 : Option Addr) (c2 : Nat) (l2 : List Int) (A3 : Option Addr) (c3 : Nat) (l3 : List (S26)) (r : Int) (w : World) (hr2 : Kd.C (Kd.int .i64) w A2 l2.length l2) (hc2 : l2.length ≤ c2) (hr3 : Kd.C k26 w A3 l3.length l3) (hc3 : l3.length ≤ c3) (h : mlp_Check.f a0 a1 l2 l3 = some r) :
    Calls Try.prog 25 #[.int .i64 a0, .int .i64 a1, .slice A2 l2.length c2, .slice A3 l3.length c3] w fun e w' => e = .returned (.int .i64 r) ∧ Below w.heap.size w w' := by
  have hu := Try.underlying22
  have h := Option.some.inj h
  rw [checkM_any] at h
  have A0 := mlp_Dim.is a0 a1
  have hd1 := @dimM_bad a0 a1
  generalize dimM a0 a1 = p at A0 h hd1
  obtain ⟨d, e⟩ := p
  simp only [] at h hd1
  have A0 := Aside0.mk A0
  have HR3 := Aside0.mk hr3
  have HC3 := Aside0.mk hc3
  have hB2 : Below w.heap.size w (w.alloc (.cells #[.int .i64 a0] 3)) := zzA (Below.refl _ _) _
  have HB := Aside0.mk hB2
  have bI := Aside0.mk (Boxed.new w 3 (.int .i64 a0))
  clear hr3 hc3 hB2
  have hci := bI.out.cell
  by_cases he : e = 0
  · rw [if_neg (not_not_intro he)] at h
    subst he
    clear hd1
    obtain ⟨q1, hq1⟩ : ∃ b, (l3.any fun s : S26 => (s.f0.length : Int) != a0) = b := ⟨_, rfl⟩
    rw [hq1] at h
    have Q1 := Aside0.mk hq1
    clear hq1
    by_cases hl : (l2.length : Int) = d
    · have hl0 : ((l2.length : Int) != d) = false := bne_eq_false_iff_eq.2 hl
      cases q1 with
      | true =>
        rw [if_pos (.inr rfl)] at h
        subst h
        clear hl
        go_enter Try.func25, Try.ntmps25
        go_wp2_with (first | (go_at_call 19; (with_reducible refine (mlp_Dim.calls a0 a1 _ _ _ A0.out).mono ?_); rintro ed W1 ⟨rfl, hdr⟩; have HB1 := Aside0.mk (below_then HB.out HB.out.size hdr.below); have bI1 := Aside0.mk (blk_below bI.out hdr.below); clear hdr) | (go_at_call 43; refine (slices_ContainsFuncS.calls 44 #[.pointer (some ⟨w.heap.size, 0, none⟩)] (fun s => (s.f0.length : Int) != a0) A3 c3 l3 W1 (enters_of Try.func44 (by kernel_rfl) rfl) (Kd.C_below HR3.out HB1.out) HC3.out (fun W x A c hb h0 h1 => mlp_Check_1.calls w.heap.size A c x.f0 x.f1 a0 W (blk_below bI1.out hb))).mono ?_; rintro ed W2 ⟨rfl, hb⟩; rw [Q1.out]; have HB2 := Aside0.mk (below_then HB1.out HB1.out.size hb); clear hb))
        go_ret
        exact ⟨rfl, HB2.out⟩
      | false =>
        rw [if_neg (show ¬ ((l2.length : Int) ≠ d ∨ false = true) from fun h => h.elim (fun h => h hl) (fun h => by cases h))] at h
        clear hl
        by_cases z : l3.length = 0
        · rw [if_pos (.inl z)] at h
          subst h
          have z0 : ((l3.length : Int) == 0) = true := by rw [z]; rfl
          clear z
          go_enter Try.func25, Try.ntmps25
          go_wp2_with (first | (go_at_call 19; (with_reducible refine (mlp_Dim.calls a0 a1 _ _ _ A0.out).mono ?_); rintro ed W1 ⟨rfl, hdr⟩; have HB1 := Aside0.mk (below_then HB.out HB.out.size hdr.below); have bI1 := Aside0.mk (blk_below bI.out hdr.below); clear hdr) | (go_at_call 43; refine (slices_ContainsFuncS.calls 44 #[.pointer (some ⟨w.heap.size, 0, none⟩)] (fun s => (s.f0.length : Int) != a0) A3 c3 l3 W1 (enters_of Try.func44 (by kernel_rfl) rfl) (Kd.C_below HR3.out HB1.out) HC3.out (fun W x A c hb h0 h1 => mlp_Check_1.calls w.heap.size A c x.f0 x.f1 a0 W (blk_below bI1.out hb))).mono ?_; rintro ed W2 ⟨rfl, hb⟩; rw [Q1.out]; have HB2 := Aside0.mk (below_then HB1.out HB1.out.size hb); clear hb))
          go_ret
          exact ⟨rfl, HB2.out⟩
        · have z0 : ((l3.length : Int) == 0) = false := beq_eq_false_iff_ne.2 (by omega)
          by_cases z1 : l3.length > 64
          · rw [if_pos (.inr z1)] at h
            subst h
            have z2 : ((l3.length : Int) > 64) := by omega
            clear z z1
            go_enter Try.func25, Try.ntmps25
            go_wp2_with (first | (go_at_call 19; (with_reducible refine (mlp_Dim.calls a0 a1 _ _ _ A0.out).mono ?_); rintro ed W1 ⟨rfl, hdr⟩; have HB1 := Aside0.mk (below_then HB.out HB.out.size hdr.below); have bI1 := Aside0.mk (blk_below bI.out hdr.below); clear hdr) | (go_at_call 43; refine (slices_ContainsFuncS.calls 44 #[.pointer (some ⟨w.heap.size, 0, none⟩)] (fun s => (s.f0.length : Int) != a0) A3 c3 l3 W1 (enters_of Try.func44 (by kernel_rfl) rfl) (Kd.C_below HR3.out HB1.out) HC3.out (fun W x A c hb h0 h1 => mlp_Check_1.calls w.heap.size A c x.f0 x.f1 a0 W (blk_below bI1.out hb))).mono ?_; rintro ed W2 ⟨rfl, hb⟩; rw [Q1.out]; have HB2 := Aside0.mk (below_then HB1.out HB1.out.size hb); clear hb))
            go_ret
            exact ⟨rfl, HB2.out⟩
          · have z2 : ¬ ((l3.length : Int) > 64) := by omega
            rw [if_neg (show ¬ (l3.length = 0 ∨ l3.length > 64) from fun h => h.elim z z1)] at h
            subst h
            clear z z1
            go_enter Try.func25, Try.ntmps25
            go_wp2_with (first | (go_at_call 19; (with_reducible refine (mlp_Dim.calls a0 a1 _ _ _ A0.out).mono ?_); rintro ed W1 ⟨rfl, hdr⟩; have HB1 := Aside0.mk (below_then HB.out HB.out.size hdr.below); have bI1 := Aside0.mk (blk_below bI.out hdr.below); clear hdr) | (go_at_call 43; refine (slices_ContainsFuncS.calls 44 #[.pointer (some ⟨w.heap.size, 0, none⟩)] (fun s => (s.f0.length : Int) != a0) A3 c3 l3 W1 (enters_of Try.func44 (by kernel_rfl) rfl) (Kd.C_below HR3.out HB1.out) HC3.out (fun W x A c hb h0 h1 => mlp_Check_1.calls w.heap.size A c x.f0 x.f1 a0 W (blk_below bI1.out hb))).mono ?_; rintro ed W2 ⟨rfl, hb⟩; rw [Q1.out]; have HB2 := Aside0.mk (below_then HB1.out HB1.out.size hb); clear hb))
            go_ret
            exact ⟨rfl, HB2.out⟩
    · rw [if_pos (.inl hl)] at h
      subst h
      have hl0 : ((l2.length : Int) != d) = true := bne_iff_ne.2 hl
      clear hl
      go_enter Try.func25, Try.ntmps25
      go_wp2_with (first | (go_at_call 19; (with_reducible refine (mlp_Dim.calls a0 a1 _ _ _ A0.out).mono ?_); rintro ed W1 ⟨rfl, hdr⟩; have HB1 := Aside0.mk (below_then HB.out HB.out.size hdr.below); have bI1 := Aside0.mk (blk_below bI.out hdr.below); clear hdr))
      go_ret
      exact ⟨rfl, HB1.out⟩
  · rw [if_pos he] at h
    have he1 := hd1 he
    subst he1
    subst h
    clear hd1 he
    go_enter Try.func25, Try.ntmps25
    go_wp2_with (first | (go_at_call 19; (with_reducible refine (mlp_Dim.calls a0 a1 _ _ _ A0.out).mono ?_); rintro ed W1 ⟨rfl, hdr⟩; have HB1 := Aside0.mk (below_then HB.out HB.out.size hdr.below); have bI1 := Aside0.mk (blk_below bI.out hdr.below); clear hdr))
    go_ret
    exact ⟨rfl, HB1.out⟩


/-! ### fix_SubP: function 38 -/
def fix_SubP.f (a0 : Int) (a1 : Int) : Option (Int × Int) := if (Go.bits .and .i64 (Go.bits .xor .i64 a0 a1) (Go.bits .xor .i64 a0 (wrap64 (a0 - a1)))) < 0 then (some (0, 2)) else (some (wrap64 (a0 - a1), 0))
set_option maxHeartbeats 8000000 in
set_option maxRecDepth 100000 in
theorem fix_SubP.calls (a0 : Int) (a1 : Int) (r1 : Int) (r2 : Int) (w : World) (h : fix_SubP.f a0 a1 = some (r1, r2)) :
  Calls Try.prog 38 #[.int .i64 a0, .int .i64 a1] w fun e w' => e = .returned (.tuple #[.int .i64 r1, .int .i64 r2]) ∧ Drawn0 w w' := by
 have H : (if (Go.bits .and .i64 (Go.bits .xor .i64 a0 a1) (Go.bits .xor .i64 a0 (wrap64 (a0 - a1)))) < 0 then (some (0, 2)) else (some (wrap64 (a0 - a1), 0))) = some (r1, r2) := h
 clear h
 by_cases c3 : (Go.bits .and .i64 (Go.bits .xor .i64 a0 a1) (Go.bits .xor .i64 a0 (wrap64 (a0 - a1)))) < 0
 ·
  rw [if_pos c3] at H
  have c3b0 : decide ((Go.bits .and .i64 (Go.bits .xor .i64 a0 a1) (Go.bits .xor .i64 a0 (wrap64 (a0 - a1)))) < 0) = true := decide_eq_true c3
  clear c3
  simp only [Option.some.injEq, Prod.mk.injEq] at H
  obtain ⟨rfl, rfl⟩ := H
  go_enter Try.func38, Try.ntmps38
  go_wp2
  go_ret2
  exact ⟨by first | rfl | (simp; done) | (simp [*]; done), by repeat (first | exact ddR _ | apply ddS)⟩
 ·
  rw [if_neg c3] at H
  have c3b0 : decide ((Go.bits .and .i64 (Go.bits .xor .i64 a0 a1) (Go.bits .xor .i64 a0 (wrap64 (a0 - a1)))) < 0) = false := decide_eq_false c3
  clear c3
  simp only [Option.some.injEq, Prod.mk.injEq] at H
  obtain ⟨rfl, rfl⟩ := H
  go_enter Try.func38, Try.ntmps38
  go_wp2
  go_ret2
  exact ⟨by first | rfl | (simp; done) | (simp [*]; done), by repeat (first | exact ddR _ | apply ddS)⟩

def fix_Sub.f (a0 a1 : Int) : Option (Int × Int) := if I64 a0 ∧ I64 a1 then some (res (a0 - a1)) else none
theorem fix_Sub.of (a0 a1 : Int)  (h_ : I64 a0 ∧ I64 a1) : fix_Sub.f a0 a1 = some (res (a0 - a1)) := if_pos h_
theorem fix_Sub.calls (a0 : Int) (a1 : Int) (r1 : Int) (r2 : Int) (w : World) (h : fix_Sub.f a0 a1 = some (r1, r2)) :
    Calls Try.prog 38 #[.int .i64 a0, .int .i64 a1] w fun e w' => e = .returned (.tuple #[.int .i64 r1, .int .i64 r2]) ∧ Drawn0 w w' := by
  unfold fix_Sub.f at h
  split at h
  · rename_i hu
    refine fix_SubP.calls a0 a1 r1 r2 w (Eq.trans ?_ h)
    unfold fix_SubP.f
    have hw := wrap64_i64 (a0 - a1)
    have t := and_neg (xor_i64_i64 a0 a1) (xor_i64_i64 a0 (wrap64 (a0 - a1)))
    rw [xor_neg hu.1 hu.2, xor_neg hu.1 hw] at t
    obtain ⟨h0, h1⟩ := hu
    by_cases c : I64 (a0 - a1)
    · rw [res_of c, wrap64_of c] at *
      rw [if_neg (by rw [t]; omega)]
    · rw [res_not c]
      unfold I64 at h0 h1 c
      rw [if_pos (by rw [t, wrap64_def]; omega)]
  · cases h


/-! ### vec_each: function 74 -/
set_option maxHeartbeats 2000000 in
set_option maxRecDepth 100000 in
theorem vec_each.calls (K : Nat) (caps : Array Value) (g : Nat → Option (Int × Int)) (n : Nat) (hn : n ≤ 1000000) (w : World) (r1 : List Int) (r2 : Int)
    (hent : ∀ (args : Array Value) (w : World), (callFunc K args).run Try.prog w = .ok (.enter K args) w)
    (H : Tells Try.prog K caps g n w) (h : eachGo g n 0 [] = some (r1, r2)) :
    Calls Try.prog 74 #[.int .i64 n, .func (.func K) #[] caps] w fun e w' => ∃ v0_ : Value, e = .returned (.tuple #[v0_, .int .i64 r2]) ∧ Kd.R (Kd.int .i64) 2 w' w.heap.size (fun _ => True) v0_ r1 ∧ Below w.heap.size w w' := by
  have hmk := print_make (P := Try.prog) 22 2 .i64 8 Try.underlying22 info2 (by decide) n (by omega)
  have HH := Aside0.mk H
  have HG := Aside0.mk h
  clear H h
  go_enter Try.func74, Try.ntmps74
  go_wp2_with fail
  go_loopw [13] (fun i W => ∃ (k : Nat) (acc : List Int), i = .int .i64 k ∧ Aside0 (k ≤ n) ∧ Aside0 (acc.length = k) ∧ Aside0 (eachGo g (n - k) k acc = some (r1, r2)) ∧ Aside0 (Kd.R (Kd.int .i64) 2 W w.heap.size (fun _ => True) (.slice (some ⟨w.heap.size, 0, none⟩) n n) (acc ++ List.replicate (n - k) 0)) ∧ Aside0 (Below w.heap.size w W)) (fun i _ => n - (intOf i).toNat)
  case atStart => exact ⟨0, [], rfl, ⟨Nat.zero_le _⟩, ⟨rfl⟩, HG, ⟨by have ho := own_made w w.heap.size 2 .i64 n (Nat.le_refl _) (by omega); rw [show ([] : List Int) ++ List.replicate (n - 0) 0 = List.replicate n 0 by simp]; exact Kd.R_of_own (enc := Value.int .i64) (h1 := fun _ => rfl) (xs := List.replicate n (0 : Int)) (by rw [List.length_replicate]; exact ho) (fun _ _ => trivial)⟩, ⟨zzA (Below.refl _ _) _⟩⟩
  case round =>
    obtain ⟨k, acc, rfl, ⟨hk⟩, ⟨hacc⟩, ⟨hgo⟩, HO, HB⟩ := hrel
    clear HG
    by_cases hlt : k < n
    · obtain ⟨d, hd⟩ : ∃ d, n - k = d + 1 := ⟨n - k - 1, by omega⟩
      rw [hd, eachGo] at hgo
      obtain ⟨⟨x, e⟩, hgk, hgo⟩ := Option.bind_eq_some_iff.mp hgo
      have HC := Aside0.mk (HH.out k wr x e hlt HB.out hgk)
      have HHd := Aside0.mk hd
      clear hd hgk
      by_cases he : e = 0
      · subst he
        simp only [if_true] at hgo
        have HG := Aside0.mk hgo
        have HA := Aside0.mk hacc
        clear hgo hacc hk
        go_wp2_with (go_at_fn K; refine HC.out.mono ?_; rintro ed W1 ⟨rfl, hb⟩; have HO1 := Aside0.mk (Kd.R_below HO.out hb); have HB1 := Aside0.mk (below_then HB.out HB.out.size hb); clear hb; have hcell := (Kd.R_celln 0 HO1.out (k : Int) (by omega) (by omega)).1; have hfr := (Kd.R_celln 0 HO1.out (k : Int) (by omega) (by omega)).2; simp only [Int.toNat_natCast] at hcell hfr)
        have hp := Kd.R_putg HO1.out (k : Int) x
        have hset : (acc ++ List.replicate (n - k) 0).set (k : Int).toNat x = (acc ++ [x]) ++ List.replicate (n - (k + 1)) 0 := by
          rw [HHd.out, show n - (k + 1) = d by have := HHd.out; omega, Int.toNat_natCast, ← HA.out, List.set_append_right _ _ (Nat.le_refl _), Nat.sub_self, List.replicate_succ]
          simp
        rw [hset] at hp
        simp only [Int.toNat_natCast] at hp
        exact ⟨⟨k + 1, acc ++ [x], by go_num, ⟨by omega⟩, ⟨by have := HA.out; simp; omega⟩, ⟨by rw [show n - (k + 1) = d by have := HHd.out; omega]; exact HG.out⟩, ⟨hp.1⟩, ⟨HB1.out.setCell (Nat.le_refl _) _⟩⟩, by simp [intOf]; omega⟩
      · rw [if_neg he] at hgo
        cases hgo
        have he0 : (e == 0) = false := beq_eq_false_iff_ne.2 he
        have he1 : (e != 0) = true := bne_iff_ne.2 he
        clear he hacc hk
        go_wp2_with (go_at_fn K; refine HC.out.mono ?_; rintro ed W1 ⟨rfl, hb⟩; have HO1 := Aside0.mk (Kd.R_below HO.out hb); have HB1 := Aside0.mk (below_then HB.out HB.out.size hb); clear hb; have hcell := (Kd.R_celln 0 HO1.out (k : Int) (by omega) (by omega)).1; have hfr := (Kd.R_celln 0 HO1.out (k : Int) (by omega) (by omega)).2; simp only [Int.toNat_natCast] at hcell hfr)
        go_ret2
        exact ⟨_, rfl, Kd.R_nil _ _ _ _ _, HB1.out.setCell (Nat.le_refl _) _⟩
    · have hkn : n - k = 0 := by omega
      rw [hkn, eachGo] at hgo
      cases hgo
      have HO2 := HO.out
      rw [hkn, List.replicate_zero, List.append_nil] at HO2
      have HO3 := Aside0.mk HO2
      clear HO2 HO hkn hacc hk
      go_wp2
      go_ret2
      exact ⟨_, rfl, HO3.out, HB.out⟩


-- NOT PRINTED: function 75 (vec_Scale_1)

end Go.Proofs.Ytalamamjodihaaa.HP
