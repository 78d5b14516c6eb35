/- What Go functions do, each as a plain Lean function with the same answers, and the proof of it, in every world: printed by the session's driver over the kit's print, with texts by hand. -/
import Derived.Test.YtalamamjodihaaaHMx0
import Derived.Test.YtalamamjodihaaaHMx1
import Derived.Test.YtalamamjodihaaaHMx2
namespace Go.Proofs.Ytalamamjodihaaa.HM
open Go.RowKit Go.Proofs.YtalamamjodihaaaW.PrintWords Go.Proofs.YtalamamjodihaaaW.PrintLast Go.Proofs.YtalamamjodihaaaW.PrintMore
attribute [local go_sem] max2_int min2_int max_two min_two max_three min_three max_four min_four   -- for this text's walks alone
open Go.Proofs.Ytalamamjodihaaa.Sp
attribute [local go_sem] Go.Proofs.Ytalamamjodihaaa.Sp.u64_not
set_option linter.unusedVariables false
set_option linter.unusedSimpArgs false

/-! ### thrumref14_FewP: function 9 -/
def thrumref14_FewP.l0 : Nat → List Int → List (S26) → List (S26) → Int → Int → Option (Bool)
 | 0, _, _, _, _, _ => none
 | k + 1, x0, x1, x7, x8, x9 => if x9 < x8 then (if 0 ≤ x9 then (if x9 < (x7.length : Int) then (if (((rd_T26 x7 x9).f0).length : Int) > 100 then (some false) else (thrumref14_FewP.l0 k x0 x1 x7 x8 (wrap64 (x9 + 1)))) else (none)) else (none)) else (if (x0.length : Int) ≤ 500 then (some (decide ((x1.length : Int) ≤ 100))) else (some false))
def thrumref14_FewP.f (k : Nat) (l0 : List Int) (l1 : List (S26)) : Option (Bool) := thrumref14_FewP.l0 k l0 l1 l1 (l1.length : Int) 0
theorem thrumref14_FewP.mono_l : ∀ k, (∀ y0 y1 y2 y3 y4, LeO (thrumref14_FewP.l0 k y0 y1 y2 y3 y4) (thrumref14_FewP.l0 (k + 1) y0 y1 y2 y3 y4))
 | 0 => fun _ _ _ _ _ r h => by simp [thrumref14_FewP.l0] at h
 | k + 1 => by
  have ih0 := thrumref14_FewP.mono_l k
  ·
   intro y0 y1 y2 y3 y4
   unfold thrumref14_FewP.l0
   repeat' first
   | (with_reducible exact ih0 _ _ _ _ _)
   | (with_reducible exact LeO.refl _)
   | (with_reducible exact LeO.none _)
   | (with_reducible refine LeO.ite ?_ ?_)
   | (with_reducible refine LeO.bind ?_ (fun _ => ?_))
   | exact ih0 _ _ _ _ _
   | exact LeO.none _
   | refine LeO.ite ?_ ?_
   | refine LeO.bind ?_ (fun _ => ?_)
theorem thrumref14_FewP.mono : ∀ a0 a1 k, LeO (thrumref14_FewP.f k a0 a1) (thrumref14_FewP.f (k + 1) a0 a1) := by
 intro a0 a1 k
 have ih0 := thrumref14_FewP.mono_l k
 unfold thrumref14_FewP.f
 repeat' first
   | (with_reducible exact ih0 _ _ _ _ _)
   | (with_reducible exact LeO.refl _)
   | (with_reducible exact LeO.none _)
   | (with_reducible refine LeO.ite ?_ ?_)
   | (with_reducible refine LeO.bind ?_ (fun _ => ?_))
   | exact ih0 _ _ _ _ _
   | exact LeO.none _
   | refine LeO.ite ?_ ?_
   | refine LeO.bind ?_ (fun _ => ?_)
set_option maxHeartbeats 8000000 in
set_option maxRecDepth 100000 in
theorem thrumref14_FewP.calls (k : Nat) (A0 : Option Addr) (c0 : Nat) (l0 : List Int) (A1 : Option Addr) (c1 : Nat) (l1 : List (S26)) (r : Bool) (w : World) (hr0 : Kd.C (Kd.int .i64) w A0 l0.length l0) (hc0 : l0.length ≤ c0) (hr1 : Kd.C k26 w A1 l1.length l1) (hc1 : l1.length ≤ c1) (h : thrumref14_FewP.f k l0 l1 = some r) :
  Calls Try.prog 9 #[.slice A0 l0.length c0, .slice A1 l1.length c1] w fun e w' => e = .returned (.bool r) ∧ Below w.heap.size w w' := by
 have hu26 := Try.underlying26
 have HR0 := Aside0.mk hr0
 have HC0 := Aside0.mk hc0
 clear hr0 hc0
 have HR1 := Aside0.mk hr1
 have HC1 := Aside0.mk hc1
 clear hr1 hc1
 have HB := Aside0.mk (Below.refl w.heap.size w)
 have H : (thrumref14_FewP.l0 k l0 l1 l1 (l1.length : Int) 0) = some r := h
 clear h
 have H' := Aside0.mk H
 clear H
 go_enter Try.func9, Try.ntmps9
 go_wp2
 go_loopg [9] k (fun kq v9 w' => ∃ (x9_1 : Int), v9 = .int .i64 x9_1 ∧ Aside0 (thrumref14_FewP.l0 kq l0 l1 l1 (l1.length : Int) x9_1 = some r) ∧ Aside0 (kq ≤ k) ∧ Aside0 (Below w.heap.size w w'))
 case atStart => exact ⟨(0), (by first | rfl | (simp; done) | (simp [*]; done)), H', ⟨Nat.le_refl _⟩, ⟨by repeat (first | (with_reducible first | exact HB.out | apply zzA | apply zzN | apply zzD) | exact HB.out)⟩⟩
 case round =>
  clear H'
  try clear c1
  try clear p2
  obtain ⟨x9_1, rfl, HA, HK1, HB⟩ := hrel
  cases gk with
  | zero => exact absurd HA.out (by simp [thrumref14_FewP.l0])
  | succ k1 =>
   have H := HA.out
   clear HA
   simp only [thrumref14_FewP.l0] at H
   by_cases c3 : x9_1 < (l1.length : Int)
   ·
    rw [if_pos c3] at H
    have c3b0 : decide (x9_1 < (l1.length : Int)) = true := decide_eq_true c3
    clear c3
    by_cases c4 : 0 ≤ x9_1
    ·
     rw [if_pos c4] at H
     have c4b0 : decide (0 ≤ x9_1) = true := decide_eq_true c4
     clear c4
     by_cases c5 : x9_1 < (l1.length : Int)
     ·
      rw [if_pos c5] at H
      have c5b0 : decide (x9_1 < (l1.length : Int)) = true := decide_eq_true c5
      clear c5
      by_cases c6 : (((rd_T26 l1 x9_1).f0).length : Int) > 100
      ·
       rw [if_pos c6] at H
       have c6b0 : decide (100 < (((rd_T26 l1 x9_1).f0).length : Int)) = true := decide_eq_true c6
       have c6b1 : decide (100 < ((rd_T26 l1 x9_1).f0).length) = true := decide_eq_true (by omega)
       clear c6
       obtain rfl := Option.some.inj H
       have p155 : 0 ≤ (x9_1 : Int) := of_decide_eq_true (by first | (with_reducible assumption) | assumption)
       have q155 : x9_1 < (l1.length : Int) := of_decide_eq_true (by first | (with_reducible assumption) | assumption)
       obtain ⟨ad155, A155_0, c155_0, e155, hx155_0, hx155_1, hl155_0, hi155_0⟩ := at_T26 HR1.out x9_1 p155 q155
       cases e155
       replace hx155_0 := (HB.out.cell (World.block_lt_of_cell? w _ hx155_0)).trans hx155_0
       replace hx155_1 := (HB.out.cell (World.block_lt_of_cell? w _ hx155_1)).trans hx155_1
       have HR155_0 := Aside0.mk hi155_0
       have HC155_0 := Aside0.mk hl155_0
       clear hi155_0 hl155_0
       replace p155 := eq_true p155
       replace q155 := eq_true q155
       go_wp2_with (first | ((with_reducible refine gate_dst (N := 6) rfl ?_); (try (refine gate_guard (by rfl) ?_; dsimp only)); refine box_event ?hg (N := 6) ?hd (cs := #[.slice none 0 0, .int .i64 0]) (t := 26) ?hr ?_; (case hd => rfl); (case hg => rfl); (case hr => first | (go_simp; done) | (go_simp; rfl)); intro gb156 hg w7 hbox hb; have n0_ := Aside0.mk (zzT (by repeat (first | (with_reducible first | exact HB.out | apply zzA | apply zzN | apply zzD) | exact HB.out)) hb); have n1_ := Aside0.mk (hbox); have n2_ := Aside0.mk ((by rw [hg]; exact (zzS (by repeat (first | (with_reducible first | exact HB.out | apply zzA | apply zzN | apply zzD) | exact HB.out))) : w.heap.size ≤ gb156)); have n3_ := Aside0.mk ((by rw [hg]; exact (zzS (by repeat (first | (with_reducible first | exact HB.out | apply zzA | apply zzN | apply zzD) | exact HB.out))) : w.heap.size ≤ gb156)); clear HB; have HB := n0_; have BK156 := n1_; have GW156 := n2_; have GE156 := n3_; clear n0_ n1_ n2_ n3_; clear hb hbox hg; have hcz8_0 : w7.cell? ⟨gb156, 0, none⟩ = some (.slice none 0 0) := (blk_cell BK156.out 0).trans rfl; have hcz8_1 : w7.cell? ⟨gb156, 1, none⟩ = some (.int .i64 0) := (blk_cell BK156.out 1).trans rfl; have hfz8_0 := blk_frozen BK156.out 0; have hfz8_1 := blk_frozen BK156.out 1))
       go_ret
       exact ⟨by first | rfl | (simp [errW_none, errW_some] <;> rfl) | (simp [*, errW_none, errW_some] <;> rfl), by repeat (first | (with_reducible first | exact HB.out | apply zzA | apply zzN | apply zzD | refine below_set ?_ GE156.out) | exact HB.out)⟩
      ·
       rw [if_neg c6] at H
       have c6b0 : decide (100 < (((rd_T26 l1 x9_1).f0).length : Int)) = false := decide_eq_false c6
       have c6b1 : decide (100 < ((rd_T26 l1 x9_1).f0).length) = false := decide_eq_false (by omega)
       clear c6
       have H' := Aside0.mk H
       clear H
       have p155 : 0 ≤ (x9_1 : Int) := of_decide_eq_true (by first | (with_reducible assumption) | assumption)
       have q155 : x9_1 < (l1.length : Int) := of_decide_eq_true (by first | (with_reducible assumption) | assumption)
       obtain ⟨ad155, A155_0, c155_0, e155, hx155_0, hx155_1, hl155_0, hi155_0⟩ := at_T26 HR1.out x9_1 p155 q155
       cases e155
       replace hx155_0 := (HB.out.cell (World.block_lt_of_cell? w _ hx155_0)).trans hx155_0
       replace hx155_1 := (HB.out.cell (World.block_lt_of_cell? w _ hx155_1)).trans hx155_1
       have HR155_0 := Aside0.mk hi155_0
       have HC155_0 := Aside0.mk hl155_0
       clear hi155_0 hl155_0
       replace p155 := eq_true p155
       replace q155 := eq_true q155
       go_wp2_with (first | ((with_reducible refine gate_dst (N := 6) rfl ?_); (try (refine gate_guard (by rfl) ?_; dsimp only)); refine box_event ?hg (N := 6) ?hd (cs := #[.slice none 0 0, .int .i64 0]) (t := 26) ?hr ?_; (case hd => rfl); (case hg => rfl); (case hr => first | (go_simp; done) | (go_simp; rfl)); intro gb156 hg w9 hbox hb; have n0_ := Aside0.mk (zzT (by repeat (first | (with_reducible first | exact HB.out | apply zzA | apply zzN | apply zzD) | exact HB.out)) hb); have n1_ := Aside0.mk (hbox); have n2_ := Aside0.mk ((by rw [hg]; exact (zzS (by repeat (first | (with_reducible first | exact HB.out | apply zzA | apply zzN | apply zzD) | exact HB.out))) : w.heap.size ≤ gb156)); have n3_ := Aside0.mk ((by rw [hg]; exact (zzS (by repeat (first | (with_reducible first | exact HB.out | apply zzA | apply zzN | apply zzD) | exact HB.out))) : w.heap.size ≤ gb156)); clear HB; have HB := n0_; have BK156 := n1_; have GW156 := n2_; have GE156 := n3_; clear n0_ n1_ n2_ n3_; clear hb hbox hg; have hcz10_0 : w9.cell? ⟨gb156, 0, none⟩ = some (.slice none 0 0) := (blk_cell BK156.out 0).trans rfl; have hcz10_1 : w9.cell? ⟨gb156, 1, none⟩ = some (.int .i64 0) := (blk_cell BK156.out 1).trans rfl; have hfz10_0 := blk_frozen BK156.out 0; have hfz10_1 := blk_frozen BK156.out 1))
       go_roundg k1
       case measure => have := HK1.out; omega
       case rel => exact ⟨(wrap64 (x9_1 + 1)), (by first | rfl | (simp; done) | (simp [*]; done)), H', ⟨by have := HK1.out; omega⟩, ⟨by repeat (first | (with_reducible first | exact HB.out | apply zzA | apply zzN | apply zzD | refine below_set ?_ GE156.out) | exact HB.out)⟩⟩
     ·
      rw [if_neg c5] at H
      exact absurd H (by simp)
    ·
     rw [if_neg c4] at H
     exact absurd H (by simp)
   ·
    rw [if_neg c3] at H
    have c3b0 : decide (x9_1 < (l1.length : Int)) = false := decide_eq_false c3
    clear c3
    by_cases c11 : (l0.length : Int) ≤ 500
    ·
     rw [if_pos c11] at H
     have c11b0 : decide ((l0.length : Int) ≤ 500) = true := decide_eq_true c11
     have c11b1 : decide (l0.length ≤ 500) = true := decide_eq_true (by omega)
     clear c11
     obtain rfl := Option.some.inj H
     go_wp2
     go_ret
     exact ⟨by first | rfl | (simp [errW_none, errW_some] <;> rfl) | (simp [*, errW_none, errW_some] <;> rfl), by repeat (first | (with_reducible first | exact HB.out | apply zzA | apply zzN | apply zzD) | exact HB.out)⟩
    ·
     rw [if_neg c11] at H
     have c11b0 : decide ((l0.length : Int) ≤ 500) = false := decide_eq_false c11
     have c11b1 : decide (l0.length ≤ 500) = false := decide_eq_false (by omega)
     clear c11
     obtain rfl := Option.some.inj H
     go_wp2
     go_ret
     exact ⟨by first | rfl | (simp [errW_none, errW_some] <;> rfl) | (simp [*, errW_none, errW_some] <;> rfl), by repeat (first | (with_reducible first | exact HB.out | apply zzA | apply zzN | apply zzD) | exact HB.out)⟩

-- behind linear_Dim.of's words
theorem thrumref14_FewP.loop (x0 : List Int) (x1 : List S26) (hb : x1.length ≤ 9223372036854775807) : ∀ (d i : Nat), d + i = x1.length →
    thrumref14_FewP.l0 (d + 1) x0 x1 x1 (x1.length : Int) (i : Int) = some (decide ((∀ s ∈ x1.drop i, s.f0.length ≤ 100) ∧ x0.length ≤ 500 ∧ x1.length ≤ 100)) := by
  intro d
  induction d with
  | zero =>
    intro i hd
    rw [thrumref14_FewP.l0, if_neg (by omega), List.drop_eq_nil_of_le (by omega)]
    by_cases c : (x0.length : Int) ≤ 500
    · rw [if_pos c]; congr 1; exact decide_eq_decide.2 ⟨fun h => ⟨by simp, by omega, by omega⟩, fun h => by omega⟩
    · rw [if_neg c, decide_eq_false (fun h => c (by omega))]
  | succ d ih =>
    intro i hd
    have hi : i < x1.length := by omega
    rw [thrumref14_FewP.l0, if_pos (by omega), if_pos (by omega), if_pos (by omega), rd_sm hi, List.drop_eq_getElem_cons hi]
    by_cases c : (x1[i].f0.length : Int) > 100
    · rw [if_pos c, decide_eq_false (fun h => by have := h.1 _ (List.mem_cons.2 (.inl rfl)); omega)]
    · rw [if_neg c, wrap64_of (by unfold I64; omega), show (i : Int) + 1 = ((i + 1 : Nat) : Int) by omega, ih (i + 1) (by omega)]
      congr 1
      refine decide_eq_decide.2 ⟨fun h => ⟨fun s hs => by rcases List.mem_cons.1 hs with e | e; (rw [e]; omega); (exact h.1 s e), h.2⟩, fun h => ⟨fun s hs => h.1 s (List.mem_cons.2 (.inr hs)), h.2⟩⟩
def thrumref14_Few.f (l0 : List Int) (l1 : List S26) : Option Bool := some (decide ((∀ s ∈ l1, s.f0.length ≤ 100) ∧ l0.length ≤ 500 ∧ l1.length ≤ 100))
theorem thrumref14_Few.calls (A0 : Option Addr) (c0 : Nat) (l0 : List Int) (A1 : Option Addr) (c1 : Nat) (l1 : List (S26)) (r : Bool) (w : World) (hr0 : Kd.C (Kd.int .i64) w A0 l0.length l0) (hc0 : l0.length ≤ c0) (hr1 : Kd.C k26 w A1 l1.length l1) (hc1 : l1.length ≤ c1) (h : thrumref14_Few.f l0 l1 = some r) :
    Calls Try.prog 9 #[.slice A0 l0.length c0, .slice A1 l1.length c1] w fun e w' => e = .returned (.bool r) ∧ Below w.heap.size w w' := by
  have hm := Kd.C_max hr1
  refine thrumref14_FewP.calls (l1.length + 1) A0 c0 l0 A1 c1 l1 r w hr0 hc0 hr1 hc1 (Eq.trans ?_ h)
  exact thrumref14_FewP.loop l0 l1 hm l1.length 0 (by omega)


/-! ### mlp_Hidden: function 10 -/
def mlp_Hidden.f (a0 : Int) (l1 l2 : List Int) (a3 : Int) : Option (List Int × Int) := if V64 l1 ∧ V64 l2 then some (hidM a0 l1 l2 a3) else none
theorem mlp_Hidden.of (a0 : Int) (l1 l2 : List Int) (a3 : Int)  (h_ : V64 l1 ∧ V64 l2) : mlp_Hidden.f a0 l1 l2 a3 = some (hidM a0 l1 l2 a3) := if_pos h_
set_option maxHeartbeats 4000000 in
set_option maxRecDepth 100000 in
theorem mlp_Hidden.calls (a0 : Int) (A1 : Option Addr) (c1 : Nat) (l1 : List Int) (A2 : Option Addr) (c2 : Nat) (l2 : List Int) (a3 : Int) (r1 : List Int) (r2 : Int) (w : World) (hr1 : Kd.C (Kd.int .i64) w A1 l1.length l1) (hc1 : l1.length ≤ c1) (hr2 : Kd.C (Kd.int .i64) w A2 l2.length l2) (hc2 : l2.length ≤ c2) (h : mlp_Hidden.f a0 l1 l2 a3 = some (r1, r2)) :
    Calls Try.prog 10 #[.int .i64 a0, .slice A1 l1.length c1, .slice A2 l2.length c2, .int .i64 a3] w fun e w' => ∃ v0_ : Value, e = .returned (.tuple #[v0_, .int .i64 r2]) ∧ Kd.R (Kd.int .i64) 2 w' w.heap.size (fun _ => True) v0_ r1 ∧ Below w.heap.size w w' := by
  unfold mlp_Hidden.f at h
  split at h
  case isFalse => cases h
  rename_i hv
  have h := Option.some.inj h
  have hu54 := Try.underlying54
  have hu52 := Try.underlying52
  unfold hidM at h
  have HR2 := Aside0.mk hr2
  have HC2 := Aside0.mk hc2
  by_cases c : (splitM a0 l1).2.2 = 0
  · rw [if_pos c] at h
    obtain ⟨k, m, rfl, hk1, hk8, hm2, hm17, hkm, hlm, hs⟩ := splitM_good c
    obtain ⟨ad, rfl, _⟩ := hr1.2.2 (by omega)
    rw [hlm, hs] at h
    have AH : mlp_net_hidden.f (l1.drop (k * m)) (rowsM k m l1) ((m : Int) - 1) l2 a3 = some (r1, r2) := (mlp_net_hidden.of _ _ _ _ _ ⟨hv.2, rowsM_v64 hv.1, by rw [rowsM_len]; omega⟩).trans (congrArg some h)
    have HSP := Aside0.mk (mlp_split.good k m ad c1 l1 w hk1 hk8 hm2 hm17 hkm hr1 hc1)
    have HCD := Aside0.mk (drop_C (p := k * m) (by omega) hc1 hr1)
    have HCU := Aside0.mk (fun (W : World) (v : Value) (base : Nat) (hS : W.ownsRow base 22 1 v k (cutsM ad m k)) (hb : Below w.heap.size w W) => cuts_C (l := l1) (c := c1) (W := W) (v := v) (base := base) hS (by omega) (by omega) hc1 (Kd.C_below hr1 hb))
    have hld : (l1.drop (k * m)).length = k + 1 := by rw [List.length_drop]; omega
    have HH := Aside0.mk (fun (Ar : Option Addr) (cr : Nat) (W : World) h1 h3 h4 h5 => mlp_net_hidden.calls (some (ad.add (k * m))) (c1 - k * m) (l1.drop (k * m)) Ar cr (rowsM k m l1) ((m : Int) - 1) A2 c2 l2 a3 r1 r2 W h1 (by rw [hld]; omega) h3 h4 h5 hc2 AH)
    have hrl : ((List.range k).map (Go.Proofs.Ytalamamjodihaaa.Sp.rowAt m l1)).length = k := by simp
    have hrm : rowsM k m l1 = (List.range k).map (Go.Proofs.Ytalamamjodihaaa.Sp.rowAt m l1) := rfl
    rw [hrm] at HH
    rw [hld, hrl] at HH
    rw [hld] at HCD
    simp only [hrl] at HCU
    generalize (List.range k).map (Go.Proofs.Ytalamamjodihaaa.Sp.rowAt m l1) = R0 at HH HCU
    generalize l1.drop (k * m) = L0 at HH HCD
    generalize hp : k * m = p at HH HCD HSP
    clear AH h hs hlm hld hrl hrm hkm hr1 hc1 hr2 hc2 c hv
    go_enter Try.func10, Try.ntmps10
    go_wp2_with (first | (go_at_call 30; (with_reducible refine HSP.out.mono ?_); rintro e w1 ⟨v0, rfl, hS, hb⟩; have hcu := HCU.out w1 v0 w.heap.size hS hb; obtain ⟨Ar, cr, rfl, hcr, hCr⟩ := hcu; have HCR := Aside0.mk hCr; have HKR := Aside0.mk hcr; have HB := Aside0.mk hb; clear hS hb hCr hcr) | (go_at_call 31; (with_reducible refine (HH.out _ _ _ (ccA (Kd.C_below HCD.out HB.out) _) (ccA HCR.out _) HKR.out (ccA (Kd.C_below HR2.out HB.out) _)).mono ?_); rintro e w2 ⟨v0_, rfl, hR, hb2⟩; have HO := Aside0.mk hR; have HB2 := Aside0.mk (below_then (zzA HB.out _) (Nat.le_trans HB.out.size (by simp)) hb2); clear hR hb2; obtain ⟨Ao, co, eo⟩ := Kd.R_slice HO.out; subst eo))
    go_ret2
    exact ⟨_, rfl, Kd.R_lower HO.out (by have := HB.out.size; simp; omega), HB2.out⟩
  · rw [if_neg c] at h
    have HSP := Aside0.mk (mlp_split.bad a0 A1 c1 l1 w hr1 hc1 c)
    obtain ⟨h1, h2⟩ : [] = r1 ∧ (splitM a0 l1).2.2 = r2 := by cases h; exact ⟨rfl, rfl⟩
    subst h1
    subst h2
    generalize (splitM a0 l1).2.2 = e at HSP c ⊢
    have he0 : (e == 0) = false := beq_eq_false_iff_ne.2 c
    have he1 : (e != 0) = true := bne_iff_ne.2 c
    clear h hr1 hc1 hr2 hc2 c hv
    go_enter Try.func10, Try.ntmps10
    go_wp2_with (go_at_call 30; (with_reducible refine HSP.out.mono ?_); rintro e w1 ⟨rfl, hb⟩; have HB := Aside0.mk hb; clear hb)
    go_ret2
    exact ⟨_, rfl, Kd.R_nil _ _ _ _ _, zzA HB.out _⟩


end Go.Proofs.Ytalamamjodihaaa.HM
