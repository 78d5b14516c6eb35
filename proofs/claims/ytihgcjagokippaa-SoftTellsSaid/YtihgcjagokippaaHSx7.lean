/- What Go functions do, each as a plain Lean function with the same answers, and the proof of it, in every world: printed by the session's driver over the kit's print, with texts by hand. -/
import Derived.Test.YtihgcjagokippaaHSx0
import Derived.Test.YtihgcjagokippaaHSx1
import Derived.Test.YtihgcjagokippaaHSx2
import Derived.Test.YtihgcjagokippaaHSx5
import Derived.Test.YtihgcjagokippaaHSx6
import Derived.Test.YtihgcjagokippaaMini
namespace Go.Proofs.Ytihgcjagokippaa.HS
open Go.RowKit Go.Proofs.YtihgcjagokippaaW.PrintWords Go.Proofs.YtihgcjagokippaaW.PrintLast Go.Proofs.YtihgcjagokippaaW.PrintMore
attribute [local go_sem] max2_int min2_int max_two min_two max_three min_three max_four min_four   -- for this text's walks alone
open Go.Proofs.Ytihgcjagokippaa.Sp
attribute [local go_sem] Go.Proofs.Ytihgcjagokippaa.Sp.u64_not
set_option linter.unusedVariables false
set_option linter.unusedSimpArgs false

/-! ### soft_bendP: function 35 -/
def soft_bendP.l0 : Nat → Int → List Int → List Int → Int → Int → List Int → Int → Option (List Int × Int)
 | 0, _, _, _, _, _, _, _ => none
 | k + 1, x2, x6, x12, x13, x14, x176000, x176001 => if x14 < x13 then (if 0 ≤ x14 then (if x14 < (x12.length : Int) then ((vec_Scale.f x176000 (rd x12 x14) x2).bind fun bt177 => (if bt177.2 = 0 then (if x6.length + bt177.1.length < 17592186044416 then ((some (x6 ++ bt177.1 : List Int)).bind fun y181 => (if y181.length < 17592186044416 then (soft_bendP.l0 k x2 (y181 ++ [rd x12 x14]) x12 x13 (wrap64 (x14 + 1)) x176000 x176001) else (none))) else (none)) else (some (([] : List Int), bt177.2)))) else (none)) else (none)) else (some (x6, 0))
def soft_bendP.f (k : Nat) (l0_0 : List Int) (a0_1 : Int) (l1 : List Int) (a2 : Int) : Option (List Int × Int) := soft_bendP.l0 k a2 ([] : List Int) l1 (l1.length : Int) 0 l0_0 a0_1
theorem soft_bendP.mono_l : ∀ k, (∀ y0 y1 y2 y3 y4 y5 y6, LeO (soft_bendP.l0 k y0 y1 y2 y3 y4 y5 y6) (soft_bendP.l0 (k + 1) y0 y1 y2 y3 y4 y5 y6))
 | 0 => fun _ _ _ _ _ _ _ r h => by simp [soft_bendP.l0] at h
 | k + 1 => by
  have ih0 := soft_bendP.mono_l k
  ·
   intro y0 y1 y2 y3 y4 y5 y6
   unfold soft_bendP.l0
   repeat' first
   | (with_reducible exact ih0 _ _ _ _ _ _ _)
   | (with_reducible exact LeO.refl _)
   | (with_reducible exact LeO.none _)
   | (with_reducible refine LeO.ite ?_ ?_)
   | (with_reducible refine LeO.bind ?_ (fun _ => ?_))
theorem soft_bendP.mono : ∀ a0 a1 a2 a3 k, LeO (soft_bendP.f k a0 a1 a2 a3) (soft_bendP.f (k + 1) a0 a1 a2 a3) := by
 intro a0 a1 a2 a3 k
 have ih0 := soft_bendP.mono_l k
 unfold soft_bendP.f
 repeat' first
   | (with_reducible exact ih0 _ _ _ _ _ _ _)
   | (with_reducible exact LeO.refl _)
   | (with_reducible exact LeO.none _)
   | (with_reducible refine LeO.ite ?_ ?_)
   | (with_reducible refine LeO.bind ?_ (fun _ => ?_))
set_option maxHeartbeats 8000000 in
set_option maxRecDepth 100000 in
theorem soft_bendP.calls (k : Nat) (A0_0 : Option Addr) (c0_0 : Nat) (l0_0 : List Int) (a0_1 : Int) (A1 : Option Addr) (c1 : Nat) (l1 : List Int) (a2 : Int) (r1 : List Int) (r2 : Int) (w : World) (hr0_0 : Kd.C (Kd.int .i64) w A0_0 l0_0.length l0_0) (hc0_0 : l0_0.length ≤ c0_0) (hr1 : Kd.C (Kd.int .i64) w A1 l1.length l1) (hc1 : l1.length ≤ c1) (h : soft_bendP.f k l0_0 a0_1 l1 a2 = some (r1, r2)) :
  Calls Try.prog 35 #[.agg #[.slice A0_0 l0_0.length c0_0, .int .i64 a0_1], .slice A1 l1.length c1, .int .i64 a2] w fun e w' => ∃ v0_ : Value, e = .returned (.tuple #[v0_, .int .i64 r2]) ∧ Kd.R (Kd.int .i64) 2 w' w.heap.size (fun _ => True) v0_ r1 ∧ Below w.heap.size w w' := by
 have hu24 := Try.underlying24
 have HR0_0 := ZM hr0_0
 have HC0_0 := ZM hc0_0
 clear hr0_0 hc0_0
 have HR1 := ZM hr1
 have HC1 := ZM hc1
 clear hr1 hc1
 have HB := ZM (Below.refl w.heap.size w)
 have H : (soft_bendP.l0 k a2 ([] : List Int) l1 (l1.length : Int) 0 l0_0 a0_1) = some (r1, r2) := h
 clear h
 have H' := ZM H
 clear H
 go_enter Try.func35, Try.ntmps35
 go_wp2_with (first | ((with_reducible refine gate_dst (N := 3) rfl ?_); refine box_event ?hg (N := 3) ?hd (cs := #[.slice A0_0 l0_0.length c0_0, .int .i64 a0_1]) (t := 24) ?hr ?_; (case hd => rfl); (case hg => rfl); (case hr => exact Z10); intro gb175 hg w4 hbox hb; have BK175 := ZM (hbox); have GW175 := ZM ((by rw [hg]; exact (zzS Z1) : w.heap.size ≤ gb175)); have GE175 := ZM ((by rw [hg]; exact (zzS Z1) : w.heap.size ≤ gb175)); replace HB := ZM (zzT Z1 hb); clear hb hbox hg))
 go_loopg [6, 14] k (fun kq v6 v14 w' => ∃ (x6_1 : List Int) (x14_1 : Int), v14 = .int .i64 x14_1 ∧ Aside0 (soft_bendP.l0 kq a2 x6_1 l1 (l1.length : Int) x14_1 l0_0 a0_1 = some (r1, r2)) ∧ Aside0 (kq ≤ k) ∧ Aside0 (Kd.R (Kd.int .i64) 2 w' w.heap.size (fun _ => True) v6 x6_1) ∧ Aside0 (w'.heap[gb175]? = some (.cells #[(.slice A0_0 l0_0.length c0_0), .int .i64 a0_1] 24 (0, 0))) ∧ Aside0 (Below w.heap.size w w'))
 case atStart => exact ⟨(([] : List Int)), (0), Z5, H', ⟨Nat.le_refl _⟩, ⟨by first | exact Kd.R_nil _ _ _ _ _ | exact Kd.N_nil _ _ _ _ _ | exact Kd.V_nil _ _ _ _ _ | exact Kd.Q_nil _ _ _ _ _ | exact Kd.S_nil _ _ _ _ _⟩, ⟨by (with_reducible repeat (first | refine kkN ?_ _ | refine kkD ?_ | refine kkA ?_ _)); exact BK175.out⟩, ⟨by repeat (first | (with_reducible first | exact HB.out | apply zzA | apply zzN | apply zzD | refine below_set ?_ GE175.out) | exact HB.out)⟩⟩
 case round =>
  clear H'
  try clear c1
  obtain ⟨x6_1, x14_1, rfl, HA, HK1, HO_6, BK175, HB⟩ := hrel
  cases gk with
  | zero => exact absurd HA.out (by simp [soft_bendP.l0])
  | succ k1 =>
   have H := HA.out
   clear HA
   simp only [soft_bendP.l0] at H
   by_cases c5 : x14_1 < (l1.length : Int)
   case neg =>
    rw [if_neg c5] at H
    have c5b0 : decide (x14_1 < (l1.length : Int)) = false := decide_eq_false c5
    clear c5
    simp only [Option.some.injEq, Prod.mk.injEq] at H
    obtain ⟨rfl, rfl⟩ := H
    go_wp2
    go_ret2
    exact ⟨_, by first | rfl | (simp [errW_none, errW_some] <;> rfl) | (simp [*, errW_none, errW_some] <;> rfl), by (with_reducible repeat (first | apply rrA | apply rrN | apply rrD)); exact HO_6.out, by repeat (first | (with_reducible first | exact HB.out | apply zzA | apply zzN | apply zzD | refine below_set ?_ GE175.out) | exact HB.out)⟩
   rw [if_pos c5] at H
   have c5b0 : decide (x14_1 < (l1.length : Int)) = true := decide_eq_true c5
   clear c5
   by_cases c6 : 0 ≤ x14_1
   case neg =>
    rw [if_neg c6] at H
    exact absurd H (by simp)
   rw [if_pos c6] at H
   have c6b0 : decide (0 ≤ x14_1) = true := decide_eq_true c6
   clear c6
   by_cases c7 : x14_1 < (l1.length : Int)
   case neg =>
    rw [if_neg c7] at H
    exact absurd H (by simp)
   rw [if_pos c7] at H
   have c7b0 : decide (x14_1 < (l1.length : Int)) = true := decide_eq_true c7
   clear c7
   replace H := Option.bind_eq_some_iff.mp H
   obtain ⟨⟨t177, t178⟩, A80, H⟩ := H
   replace H : (if t178 = 0 then (if x6_1.length + t177.length < 17592186044416 then ((some (x6_1 ++ t177 : List Int)).bind fun y181 => (if y181.length < 17592186044416 then (soft_bendP.l0 k1 a2 (y181 ++ [rd l1 x14_1]) l1 (l1.length : Int) (wrap64 (x14_1 + 1)) l0_0 a0_1) else (none))) else (none)) else (some (([] : List Int), t178))) = some (r1, r2) := H
   have A8 := ZM A80
   clear A80
   by_cases c9 : t178 = 0
   case neg =>
    rw [if_neg c9] at H
    have c9b0 : (t178 == 0) = false := beq_eq_false_iff_ne.mpr c9
    have c9b1 : (t178 != 0) = true := bne_iff_ne.mpr c9
    simp only [Option.some.injEq, Prod.mk.injEq] at H
    obtain ⟨rfl, rfl⟩ := H
    have p176 : 0 ≤ (x14_1 : Int) := of_decide_eq_true Z3
    have q176 : x14_1 < (l1.length : Int) := of_decide_eq_true Z3
    obtain ⟨ad176, e176, hx176_0⟩ := Kd.at_int HR1.out x14_1 p176 q176
    cases e176
    replace hx176_0 := (HB.out.cell (World.block_lt_of_cell? w _ hx176_0)).trans hx176_0
    replace p176 := eq_true p176
    replace q176 := eq_true q176
    obtain ⟨hcz17_0, hcz17_1, hfz17_0, hfz17_1⟩ := Y2f BK175
    go_wp2_with (first | ((with_reducible refine gate_callee (f := 50) rfl ?_); refine goesL_ (some 23) rfl rfl Try.func50 (by kernel_rfl) rfl #[.slice A0_0 l0_0.length c0_0, .int .i64 (rd l1 x14_1), .int .i64 a2] rfl Z2 ?_; (with_reducible refine (vec_Scale.calls _ _ l0_0 (rd l1 x14_1) a2 t177 t178 _ ?side1 ?side2 A8.out).mono ?_); (case side1 => exact Z47); (case side2 => exact HC0_0.out); rintro e w18 ⟨v179, rfl, ho0, hb⟩; refine ⟨_, rfl, ?_⟩; have n0_ := ZM (Kd.R_elder' (Zr HO_6) (Kd.R_base ho0) hb); have n1_ := ZM (Kd.R_lower (Kd.R_new' ho0 (Kd.R_lt (Zr HO_6))) (zzS Z16)); have n2_ := ZM (blk_below (g := gb175) (o := .cells #[.slice A0_0 l0_0.length c0_0, .int .i64 a0_1] 24 (0, 0)) (Zk BK175) hb); have n3_ := ZM (zzT Z16 hb); clear HO_6; clear BK175; clear HB; have HO_6 := n0_; have HO180 := n1_; have BK175 := n2_; have HB := n3_; clear n0_ n1_ n2_ n3_; (try clear hb); (try clear hb2); (try clear hk); (try clear hi); (try clear ho0)))
    go_ret2
    exact ⟨_, by first | rfl | (simp [errW_none, errW_some] <;> rfl) | (simp [*, errW_none, errW_some] <;> rfl), by first | exact Kd.R_nil _ _ _ _ _ | exact Kd.N_nil _ _ _ _ _ | exact Kd.V_nil _ _ _ _ _ | exact Kd.Q_nil _ _ _ _ _ | exact Kd.S_nil _ _ _ _ _, by repeat (first | (with_reducible first | exact HB.out | apply zzA | apply zzN | apply zzD | refine below_set ?_ GE175.out) | exact HB.out)⟩
   rw [if_pos c9] at H
   have c9b0 : (t178 == 0) = true := beq_iff_eq.mpr c9
   have c9b1 : (t178 != 0) = false := bne_eq_false_iff_eq.mpr c9
   clear c9
   by_cases c10 : x6_1.length + t177.length < 17592186044416
   case neg =>
    rw [if_neg c10] at H
    exact absurd H (by simp)
   rw [if_pos c10] at H
   have LMc10 := ZM c10
   clear c10
   obtain ⟨y181, hy181⟩ : ∃ y_ : List Int, y_ = (x6_1 ++ t177) := ⟨_, rfl⟩
   replace H : (if y181.length < 17592186044416 then (soft_bendP.l0 k1 a2 (y181 ++ [rd l1 x14_1]) l1 (l1.length : Int) (wrap64 (x14_1 + 1)) l0_0 a0_1) else (none)) = some (r1, r2) := by first | (rw [hy181]; with_reducible exact H) | (have H2_ := (Option.bind_some _ _).symm.trans H; rw [hy181]; with_reducible exact H2_) | (have H2_ := (Option.bind_some _ _).symm.trans H; with_reducible exact H2_) | with_reducible exact H | (rw [hy181]; exact H) | exact H
   have Ny181 := ZM hy181
   clear hy181
   by_cases c11 : y181.length < 17592186044416
   case neg =>
    rw [if_neg c11] at H
    exact absurd H (by simp)
   rw [if_pos c11] at H
   have LMc11 := ZM c11
   clear c11
   obtain ⟨y184, hy184⟩ : ∃ y_ : List Int, y_ = (y181 ++ [rd l1 x14_1]) := ⟨_, rfl⟩
   replace H : (soft_bendP.l0 k1 a2 y184 l1 (l1.length : Int) (wrap64 (x14_1 + 1)) l0_0 a0_1) = some (r1, r2) := by first | (rw [hy184]; with_reducible exact H) | (have H2_ := (Option.bind_some _ _).symm.trans H; rw [hy184]; with_reducible exact H2_) | (have H2_ := (Option.bind_some _ _).symm.trans H; with_reducible exact H2_) | with_reducible exact H | (rw [hy184]; exact H) | exact H
   have Ny184 := ZM hy184
   clear hy184
   have H' := ZM H
   clear H
   have p176 : 0 ≤ (x14_1 : Int) := of_decide_eq_true Z3
   have q176 : x14_1 < (l1.length : Int) := of_decide_eq_true Z3
   obtain ⟨ad176, e176, hx176_0⟩ := Kd.at_int HR1.out x14_1 p176 q176
   cases e176
   replace hx176_0 := (HB.out.cell (World.block_lt_of_cell? w _ hx176_0)).trans hx176_0
   replace p176 := eq_true p176
   replace q176 := eq_true q176
   obtain ⟨hcz12_0, hcz12_1, hfz12_0, hfz12_1⟩ := Y2f BK175
   go_wp2_with (first | ((with_reducible refine gate_callee (f := 50) rfl ?_); refine goesL_ (some 23) rfl rfl Try.func50 (by kernel_rfl) rfl #[.slice A0_0 l0_0.length c0_0, .int .i64 (rd l1 x14_1), .int .i64 a2] rfl Z2 ?_; (with_reducible refine (vec_Scale.calls _ _ l0_0 (rd l1 x14_1) a2 t177 t178 _ ?side1 ?side2 A8.out).mono ?_); (case side1 => exact Z47); (case side2 => exact HC0_0.out); rintro e w13 ⟨v179, rfl, ho0, hb⟩; refine ⟨_, rfl, ?_⟩; have n0_ := ZM (Kd.R_elder' (Zr HO_6) (Kd.R_base ho0) hb); have n1_ := ZM (Kd.R_lower (Kd.R_new' ho0 (Kd.R_lt (Zr HO_6))) (zzS Z16)); have n2_ := ZM (blk_below (g := gb175) (o := .cells #[.slice A0_0 l0_0.length c0_0, .int .i64 a0_1] 24 (0, 0)) (Zk BK175) hb); have n3_ := ZM (zzT Z16 hb); clear HO_6; clear BK175; clear HB; have HO_6 := n0_; have HO180 := n1_; have BK175 := n2_; have HB := n3_; clear n0_ n1_ n2_ n3_; (try clear hb); (try clear hb2); (try clear hk); (try clear hi); (try clear ho0); obtain ⟨Ao15, co15, eo15⟩ := Kd.R_slice HO180.out; subst eo15) | ((with_reducible refine gate_builtin (b := .append) (xs := #[.tmp 29, .tmp 30]) rfl ?_); at_builtin; refine Kd.R_append_rows (Kd.int .i64) (w0 := w) w.heap.size rfl (.tmp 29) (.tmp 30) 22 2 (.int .i64 0) 8 rfl Try.underlying22 info2 rfl (by decide) (by omega) u6 x6_1 t177 _ _ _ (fun k_ => some k_ ≠ (.slice Ao15 t177.length co15 : Value).ownBlock) (fun _ => False) rfl rfl ?aO ?aR (fun _ _ h => h) (fun _ h => h.elim) ?aF ?aB ?aS ?aL ?_; (case aR => repeat (first | exact (Kd.R_reads' HO180.out).2.2 | (with_reducible refine ccA ?_ _) | (with_reducible refine ccN ?_ _) | (with_reducible refine ccD ?_))); (case aB => exact Z16); (case aF => exact (fun k_ hk => Kd.fresh' (Kd.R_lt (Zr HO180)) k_ hk)); (case aO => exact (by (with_reducible repeat (first | apply rrA | apply rrN | apply rrD)); exact Kd.R_mono HO_6.out (fun _ hk => hk.2))); (case aS => exact (zzS Z16)); (case aL => have := LMc10.out; omega); intro v182 w14 ho hb hg hat; rw [← Ny181.out] at ho; replace BK175 := ZM (blk_grown (g := gb175) (o := .cells #[.slice A0_0 l0_0.length c0_0, .int .i64 a0_1] 24 (0, 0)) (Zk BK175) hg (Kd.R_ne HO_6.out BK175.out (by decide))); replace HO180 := ZM (Kd.R_after (ok := (fun _ => True)) (Zr HO180) hg hat); have HO183 := ZM (ho); replace HB := ZM (hb); clear HO_6; clear ho hb hg hat) | ((with_reducible refine gate_builtin (b := .append) (xs := #[.tmp 31, .tmp 33]) rfl ?_); at_builtin; refine Kd.R_append (Kd.int .i64) (w0 := w) w.heap.size rfl (.tmp 31) (.tmp 33) 22 2 (.int .i64 0) 8 rfl Try.underlying22 info2 rfl (by decide) (by omega) v182 y181 (rd l1 x14_1) [.int .i64 (rd l1 x14_1)] (fun k_ => some k_ ≠ (.slice Ao15 t177.length co15 : Value).ownBlock) (fun _ => False) rfl rfl ?aP (fun _ hk => hk.elim) ?aF ?aO ?aB ?aS ?aL ?_; (case aP => exact rfl); (case aB => exact Z16); (case aF => exact (fun k_ hk => Kd.fresh' (Kd.R_lt (Zr HO180)) k_ hk)); (case aO => exact (Zr HO183)); (case aS => exact (zzS Z16)); (case aL => have := LMc11.out; omega); intro v185 w16 ho hb hg hat; rw [← Ny184.out] at ho; replace BK175 := ZM (blk_grown (g := gb175) (o := .cells #[.slice A0_0 l0_0.length c0_0, .int .i64 a0_1] 24 (0, 0)) (Zk BK175) hg (Kd.R_ne HO183.out BK175.out (by decide))); replace HO180 := ZM (Kd.R_after (ok := (fun _ => True)) (Zr HO180) hg hat); have HO186 := ZM (ho); replace HB := ZM (hb); clear HO183; clear ho hb hg hat))
   go_roundg k1
   case measure => have := HK1.out; omega
   case rel => exact ⟨(y184), (wrap64 (x14_1 + 1)), Z5, H', ⟨by have := HK1.out; omega⟩, ⟨by (with_reducible repeat (first | apply rrA | apply rrN | apply rrD)); exact Kd.R_mono HO186.out (fun _ hk => trivial)⟩, ⟨by (with_reducible repeat (first | refine kkN ?_ _ | refine kkD ?_ | refine kkA ?_ _)); exact BK175.out⟩, ⟨by repeat (first | (with_reducible first | exact HB.out | apply zzA | apply zzN | apply zzD | refine below_set ?_ GE175.out) | exact HB.out)⟩⟩
def soft_bend.f (l0_0 : List Int) (a0_1 : Int) (l1 : List Int) (a2 : Int) : Option (List Int × Int) := if V64 l0_0 ∧ V64 l1 ∧ l1.length ≤ 4096 then some (bendRows l0_0 a2 l1) else none
theorem soft_bend.of (l0_0 : List Int) (a0_1 : Int) (l1 : List Int) (a2 : Int)  (h_ : V64 l0_0 ∧ V64 l1 ∧ l1.length ≤ 4096) : soft_bend.f l0_0 a0_1 l1 a2 = some (bendRows l0_0 a2 l1) := if_pos h_
theorem soft_bendP.loop (x : List Int) (y f : Int) (off : List Int) (hx : V64 x) (ho : V64 off) (hl : off.length ≤ 4096) : ∀ (d i : Nat) (acc : List Int), d + i = off.length → acc.length ≤ 4097 * i →
    soft_bendP.l0 (d + 1) f acc off (off.length : Int) (i : Int) x y = some (if (bendRows x f (off.drop i)).2 = 0 then (acc ++ (bendRows x f (off.drop i)).1, 0) else ([], (bendRows x f (off.drop i)).2)) := by
  intro d
  induction d with
  | zero =>
    intro i acc hd ha
    rw [soft_bendP.l0, if_neg (by omega), List.drop_eq_nil_of_le (by omega), bendRows, if_pos rfl, List.append_nil]
  | succ d ih =>
    intro i acc hd ha
    have hi : i < off.length := by omega
    have hrd : rd off (i : Int) = off[i] := by unfold rd; rw [Int.toNat_natCast, List.getD_eq_getElem?_getD, List.getElem?_eq_getElem hi, Option.getD_some]
    rw [soft_bendP.l0, if_pos (by omega), if_pos (by omega), if_pos (by omega), hrd, vec_Scale.of _ _ _ ⟨hx, ho _ (List.getElem_mem hi)⟩, Option.bind_some, List.drop_eq_getElem_cons hi, bendRows]
    have hle := scaleV_lle x off[i] f
    by_cases c : (scaleV x off[i] f).2 = 0
    · rw [if_pos c, if_pos c, if_pos (by omega), Option.bind_some, if_pos (by rw [List.length_append]; omega), wrap64_of (by unfold I64; omega), show (i : Int) + 1 = ((i + 1 : Nat) : Int) by omega,
        ih (i + 1) _ (by omega) (by rw [List.length_append, List.length_append, List.length_singleton]; omega)]
      by_cases c2 : (bendRows x f (off.drop (i + 1))).2 = 0
      · rw [if_pos c2, if_pos c2, if_pos rfl, List.append_assoc, List.append_assoc]; rfl
      · rw [if_neg c2, if_neg c2, if_neg c2]
    · rw [if_neg c, if_neg c, if_neg c]
theorem bendRows_err {x : List Int} {f : Int} : ∀ {os : List Int}, (bendRows x f os).2 ≠ 0 → (bendRows x f os).1 = []
  | [], h => absurd rfl h
  | o :: os, h => by
    rw [bendRows] at h ⊢
    split
    · rename_i c
      rw [if_pos c] at h
      split
      · rename_i c2; rw [if_pos c2] at h; exact absurd rfl h
      · rfl
    · rfl
theorem soft_bendP.is (x : List Int) (y : Int) (off : List Int) (f : Int) (hx : V64 x) (ho : V64 off) (hl : off.length ≤ 4096) : soft_bendP.f (off.length + 1) x y off f = some (bendRows x f off) := by
  unfold soft_bendP.f
  have := soft_bendP.loop x y f off hx ho hl off.length 0 [] (by omega) (by simp)
  rw [show ((0 : Nat) : Int) = 0 from rfl, List.drop_zero, List.nil_append] at this
  rw [this]
  by_cases c : (bendRows x f off).2 = 0
  · rw [if_pos c, ← c]
  · rw [if_neg c, ← bendRows_err c]
theorem soft_bend.calls (A0_0 : Option Addr) (c0_0 : Nat) (l0_0 : List Int) (a0_1 : Int) (A1 : Option Addr) (c1 : Nat) (l1 : List Int) (a2 : Int) (r1 : List Int) (r2 : Int) (w : World) (hr0_0 : Kd.C (Kd.int .i64) w A0_0 l0_0.length l0_0) (hc0_0 : l0_0.length ≤ c0_0) (hr1 : Kd.C (Kd.int .i64) w A1 l1.length l1) (hc1 : l1.length ≤ c1) (h : soft_bend.f l0_0 a0_1 l1 a2 = some (r1, r2)) :
    Calls Try.prog 35 #[.agg #[.slice A0_0 l0_0.length c0_0, .int .i64 a0_1], .slice A1 l1.length c1, .int .i64 a2] w fun e w' => ∃ v0_ : Value, e = .returned (.tuple #[v0_, .int .i64 r2]) ∧ Kd.R (Kd.int .i64) 2 w' w.heap.size (fun _ => True) v0_ r1 ∧ Below w.heap.size w w' := by
  unfold soft_bend.f at h
  split at h
  case isFalse => cases h
  rename_i hv
  exact soft_bendP.calls (l1.length + 1) A0_0 c0_0 l0_0 a0_1 A1 c1 l1 a2 r1 r2 w hr0_0 hc0_0 hr1 hc1 ((soft_bendP.is l0_0 a0_1 l1 a2 hv.1 hv.2.1 hv.2.2).trans h)


-- NOT PRINTED: function 87 (vec_Add_1)

/-! ### vec_Add: function 74 -/
set_option maxHeartbeats 2000000 in
set_option maxRecDepth 100000 in
theorem vec_Add_1.calls (b1 b2 : Nat) (A0 : Option Addr) (c0 : Nat) (l0 : List Int) (A1 : Option Addr) (c1 : Nat) (l1 : List Int) (i : Nat) (W : World) (x e : Int)
    (hb1 : W.cell? ⟨b1, 0, none⟩ = some (.slice A0 l0.length c0)) (hb2 : W.cell? ⟨b2, 0, none⟩ = some (.slice A1 l1.length c1))
    (hr0 : Kd.C (Kd.int .i64) W A0 l0.length l0) (hr1 : Kd.C (Kd.int .i64) W A1 l1.length l1) (h0 : i < l0.length) (h1 : i < l1.length)
    (h : fix_Add.f (rd l0 i) (rd l1 i) = some (x, e)) :
    Calls Try.prog 87 #[.int .i64 i, .pointer (some ⟨b1, 0, none⟩), .pointer (some ⟨b2, 0, none⟩)] W fun ed W' => ed = .returned (.tuple #[.int .i64 x, .int .i64 e]) ∧ Drawn0 W W' := by
 obtain ⟨ad0, rfl, hc0⟩ := Kd.at_int hr0 (i : Int) (by omega) (by omega)
 obtain ⟨ad1, rfl, hc1⟩ := Kd.at_int hr1 (i : Int) (by omega) (by omega)
 simp only [Int.toNat_natCast] at hc0 hc1
 have HC := ZM h
 clear hr0 hr1 h
 go_enter Try.func87, Try.ntmps87
 go_wp2
 go_quiet ((go_at_call 55; (with_reducible refine (fix_Add.calls (rd l0 i) (rd l1 i) x e _ HC.out).mono ?_); rintro ed W2 ⟨rfl, ⟨nd, rfl⟩⟩; (try first | exact ⟨rfl, _, wwN _ _ _⟩ | exact ⟨rfl, _, ww3 _ _ _ _⟩ | exact ⟨rfl, _, rfl⟩)))
 go_wp2
 go_ret2
 exact ⟨rfl, ⟨_, rfl⟩⟩
def vec_Add.f (l0 l1 : List Int) : Option (List Int × Int) := if V64 l0 ∧ V64 l1 then some (addV l0 l1) else none
theorem vec_Add.of (l0 l1 : List Int)  (h_ : V64 l0 ∧ V64 l1) : vec_Add.f l0 l1 = some (addV l0 l1) := if_pos h_
set_option maxHeartbeats 2000000 in
set_option maxRecDepth 100000 in
theorem vec_Add.calls (A0 : Option Addr) (c0 : Nat) (l0 : List Int) (A1 : Option Addr) (c1 : Nat) (l1 : List Int) (r1 : List Int) (r2 : Int) (w : World) (hr0 : Kd.C (Kd.int .i64) w A0 l0.length l0) (hc0 : l0.length ≤ c0) (hr1 : Kd.C (Kd.int .i64) w A1 l1.length l1) (hc1 : l1.length ≤ c1) (h : vec_Add.f l0 l1 = some (r1, r2)) :
    Calls Try.prog 74 #[.slice A0 l0.length c0, .slice A1 l1.length c1] w fun e w' => ∃ v0_ : Value, e = .returned (.tuple #[v0_, .int .i64 r2]) ∧ Kd.R (Kd.int .i64) 2 w' w.heap.size (fun _ => True) v0_ r1 ∧ Below w.heap.size w w' := by
 unfold vec_Add.f at h
 split at h
 case isFalse => cases h
 rename_i hv
 have h := Option.some.inj h
 unfold addV at h
 have HR0 := ZM hr0
 have HC0 := ZM hc0
 have HR1 := ZM hr1
 have HC1 := ZM hc1
 clear hr0 hc0 hr1 hc1
 have HV := ZM hv
 clear hv
 try have hu22 := Try.underlying22
 have HP0 : Aside0 (vec_pair.f l0 l1 = some (pairE l0 l1)) := ⟨rfl⟩
 by_cases hp0 : pairE l0 l1 = 0
 · rw [if_pos hp0] at h
   rw [hp0] at HP0
   have HL : Aside0 (l0.length = l1.length) := ⟨pairE_len hp0⟩
   have HN : Aside0 (l0.length ≤ 4096) := ⟨pairE_le hp0⟩
   have HH := ZM h
   clear h hp0
   have HX0 : Aside0 (((w.alloc (Obj.cells #[Value.slice A0 l0.length c0] 22)).alloc (Obj.cells #[Value.slice A1 l1.length c1] 22)).cell? ⟨w.heap.size, 0, none⟩ = some (.slice A0 l0.length c0)) := ⟨by simp [go_sem]⟩
   have HX1 : Aside0 (((w.alloc (Obj.cells #[Value.slice A0 l0.length c0] 22)).alloc (Obj.cells #[Value.slice A1 l1.length c1] 22)).cell? ⟨w.heap.size + 1, 0, none⟩ = some (.slice A1 l1.length c1)) := ⟨by simp [go_sem]⟩
   have HB : Aside0 (Below w.heap.size w ((w.alloc (Obj.cells #[Value.slice A0 l0.length c0] 22)).alloc (Obj.cells #[Value.slice A1 l1.length c1] 22))) := ⟨zzA (zzA (Below.refl _ _) _) _⟩
   go_enter Try.func74, Try.ntmps74
   go_wp2_with (first | (go_at_call 75; (with_reducible refine (vec_pair.calls A0 c0 l0 A1 c1 l1 0 _ (Kd.C_below HR0.out HB.out) HC0.out (Kd.C_below HR1.out HB.out) HC1.out HP0.out).mono ?_); rintro ed W1 ⟨rfl, hd⟩; have hb := hd; clear hd; have HB := ZM (below_then HB.out HB.out.size hb); have HX0 := ZM (pw_cell_below hb HX0.out); have HX1 := ZM (pw_cell_below hb HX1.out); have hx0 := HX0.out; have hx1 := HX1.out; clear hb) | (go_at_call 71; (with_reducible refine (vec_each.calls 87 _ (fun i : Nat => fix_Add.f (rd l0 i) (rd l1 i)) l0.length (by have := HN.out; omega) _ r1 r2 ?ent ?tells ?go).mono ?_); (case ent => exact enters_of Try.func87 rfl rfl); (case tells => intro i W x e hi hb hg; refine (vec_Add_1.calls (w.heap.size) (w.heap.size + 1) A0 c0 l0 A1 c1 l1 i W x e (pw_cell_below hb HX0.out) (pw_cell_below hb HX1.out) (Kd.C_below (Kd.C_below HR0.out HB.out) hb) (Kd.C_below (Kd.C_below HR1.out HB.out) hb) (by have := HL.out; omega) (by have := HL.out; omega) hg).mono ?_; rintro ed W' ⟨rfl, hd⟩; exact ⟨rfl, hd.below⟩); (case go => exact (each_spec (ps := List.zipWith (fun x y => res (x + y)) l0 l1) (by have := HL.out; rw [List.length_zipWith]; omega) (fun j h => by rw [zip_get _ _ HL.out j h]; exact fix_Add.of _ _ ⟨HV.out.1.rd _, HV.out.2.rd _⟩)).trans (congrArg some HH.out)); rintro ed W2 ⟨v_, rfl, hR, hb⟩; have HO := ZM (Kd.R_lower hR HB.out.size); have HB2 := ZM (below_then HB.out HB.out.size hb); clear hR hb))
   go_ret2
   exact ⟨_, rfl, HO.out, HB2.out⟩
 · rw [if_neg hp0] at h
   cases h
   have HX0 : Aside0 (((w.alloc (Obj.cells #[Value.slice A0 l0.length c0] 22)).alloc (Obj.cells #[Value.slice A1 l1.length c1] 22)).cell? ⟨w.heap.size, 0, none⟩ = some (.slice A0 l0.length c0)) := ⟨by simp [go_sem]⟩
   have HX1 : Aside0 (((w.alloc (Obj.cells #[Value.slice A0 l0.length c0] 22)).alloc (Obj.cells #[Value.slice A1 l1.length c1] 22)).cell? ⟨w.heap.size + 1, 0, none⟩ = some (.slice A1 l1.length c1)) := ⟨by simp [go_sem]⟩
   have HB : Aside0 (Below w.heap.size w ((w.alloc (Obj.cells #[Value.slice A0 l0.length c0] 22)).alloc (Obj.cells #[Value.slice A1 l1.length c1] 22))) := ⟨zzA (zzA (Below.refl _ _) _) _⟩
   have he0 : (pairE l0 l1 == 0) = false := beq_eq_false_iff_ne.2 hp0
   have he1 : (pairE l0 l1 != 0) = true := bne_iff_ne.2 hp0
   obtain ⟨e_, hE⟩ : ∃ e_ : Int, pairE l0 l1 = e_ := ⟨_, rfl⟩
   rw [hE] at HP0 he0 he1
   simp only [hE]
   clear hE hp0
   go_enter Try.func74, Try.ntmps74
   go_wp2_with (first | (go_at_call 75; (with_reducible refine (vec_pair.calls A0 c0 l0 A1 c1 l1 e_ _ (Kd.C_below HR0.out HB.out) HC0.out (Kd.C_below HR1.out HB.out) HC1.out HP0.out).mono ?_); rintro ed W1 ⟨rfl, hd⟩; have hb := hd; clear hd; have HB := ZM (below_then HB.out HB.out.size hb); have HX0 := ZM (pw_cell_below hb HX0.out); have HX1 := ZM (pw_cell_below hb HX1.out); have hx0 := HX0.out; have hx1 := HX1.out; clear hb))
   go_ret2
   exact ⟨_, rfl, Kd.R_nil _ _ _ _ _, HB.out⟩
/-! ### vec_SumP: function 51 -/
def vec_SumP.l0 : Nat → List Int → List (List Int) → Int → Int → Option (List Int × Int)
 | 0, _, _, _, _ => none
 | k + 1, x2, x6, x7, x8 => if x8 < x7 then (if 0 ≤ x8 then (if x8 < (x6.length : Int) then (if x8 = 0 then ((slices_Clone_int64_int64.f (rd_L1 x6 x8)).bind fun t188 => ((vec_Check.f (rd_L1 x6 x8)).bind fun t191 => (if t191 = 0 then (vec_SumP.l0 k t188 x6 x7 (wrap64 (x8 + 1))) else (some (([] : List Int), t191))))) else ((vec_Add.f x2 (rd_L1 x6 x8)).bind fun bt192 => (if bt192.2 = 0 then (vec_SumP.l0 k bt192.1 x6 x7 (wrap64 (x8 + 1))) else (some (([] : List Int), bt192.2))))) else (none)) else (none)) else (some (x2, 0))
def vec_SumP.f (k : Nat) (l0 : List (List Int)) : Option (List Int × Int) := vec_SumP.l0 k ([] : List Int) l0 (l0.length : Int) 0
theorem vec_SumP.mono_l : ∀ k, (∀ y0 y1 y2 y3, LeO (vec_SumP.l0 k y0 y1 y2 y3) (vec_SumP.l0 (k + 1) y0 y1 y2 y3))
 | 0 => fun _ _ _ _ r h => by simp [vec_SumP.l0] at h
 | k + 1 => by
  have ih0 := vec_SumP.mono_l k
  ·
   intro y0 y1 y2 y3
   unfold vec_SumP.l0
   repeat' first
   | (with_reducible exact ih0 _ _ _ _)
   | (with_reducible exact LeO.refl _)
   | (with_reducible exact LeO.none _)
   | (with_reducible refine LeO.ite ?_ ?_)
   | (with_reducible refine LeO.bind ?_ (fun _ => ?_))
theorem vec_SumP.mono : ∀ a0 k, LeO (vec_SumP.f k a0) (vec_SumP.f (k + 1) a0) := by
 intro a0 k
 have ih0 := vec_SumP.mono_l k
 unfold vec_SumP.f
 repeat' first
   | (with_reducible exact ih0 _ _ _ _)
   | (with_reducible exact LeO.refl _)
   | (with_reducible exact LeO.none _)
   | (with_reducible refine LeO.ite ?_ ?_)
   | (with_reducible refine LeO.bind ?_ (fun _ => ?_))
set_option maxHeartbeats 8000000 in
set_option maxRecDepth 100000 in
theorem vec_SumP.calls (k : Nat) (A0 : Option Addr) (c0 : Nat) (l0 : List (List Int)) (r1 : List Int) (r2 : Int) (w : World) (hr0 : Kd.C (Kd.slice 2 (Kd.int .i64)) w A0 l0.length l0) (hc0 : l0.length ≤ c0) (h : vec_SumP.f k l0 = some (r1, r2)) :
  Calls Try.prog 51 #[.slice A0 l0.length c0] w fun e w' => ∃ v0_ : Value, e = .returned (.tuple #[v0_, .int .i64 r2]) ∧ Kd.R (Kd.int .i64) 2 w' w.heap.size (fun _ => True) v0_ r1 ∧ Below w.heap.size w w' := by
 have HR0 := ZM hr0
 have HC0 := ZM hc0
 clear hr0 hc0
 have HB := ZM (Below.refl w.heap.size w)
 have H : (vec_SumP.l0 k ([] : List Int) l0 (l0.length : Int) 0) = some (r1, r2) := h
 clear h
 have H' := ZM H
 clear H
 go_enter Try.func51, Try.ntmps51
 go_wp2
 go_loopg [2, 8] k (fun kq v2 v8 w' => ∃ (x2_1 : List Int) (x8_1 : Int), v8 = .int .i64 x8_1 ∧ Aside0 (vec_SumP.l0 kq x2_1 l0 (l0.length : Int) x8_1 = some (r1, r2)) ∧ Aside0 (kq ≤ k) ∧ Aside0 (Kd.R (Kd.int .i64) 2 w' w.heap.size (fun _ => True) v2 x2_1) ∧ Aside0 (Below w.heap.size w w'))
 case atStart => exact ⟨(([] : List Int)), (0), Z5, H', ⟨Nat.le_refl _⟩, ⟨by first | exact Kd.R_nil _ _ _ _ _ | exact Kd.N_nil _ _ _ _ _ | exact Kd.V_nil _ _ _ _ _ | exact Kd.Q_nil _ _ _ _ _ | exact Kd.S_nil _ _ _ _ _⟩, ⟨by repeat (first | (with_reducible first | exact HB.out | apply zzA | apply zzN | apply zzD) | exact HB.out)⟩⟩
 case round =>
  clear H'
  obtain ⟨x2_1, x8_1, rfl, HA, HK1, HO_2, HB⟩ := hrel
  cases gk with
  | zero => exact absurd HA.out (by simp [vec_SumP.l0])
  | succ k1 =>
   have H := HA.out
   clear HA
   simp only [vec_SumP.l0] at H
   by_cases c2 : x8_1 < (l0.length : Int)
   case neg =>
    rw [if_neg c2] at H
    have c2b0 : decide (x8_1 < (l0.length : Int)) = false := decide_eq_false c2
    clear c2
    simp only [Option.some.injEq, Prod.mk.injEq] at H
    obtain ⟨rfl, rfl⟩ := H
    go_wp2
    go_ret2
    exact ⟨_, by first | rfl | (simp [errW_none, errW_some] <;> rfl) | (simp [*, errW_none, errW_some] <;> rfl), by (with_reducible repeat (first | apply rrA | apply rrN | apply rrD)); exact HO_2.out, by repeat (first | (with_reducible first | exact HB.out | apply zzA | apply zzN | apply zzD) | exact HB.out)⟩
   rw [if_pos c2] at H
   have c2b0 : decide (x8_1 < (l0.length : Int)) = true := decide_eq_true c2
   clear c2
   by_cases c3 : 0 ≤ x8_1
   case neg =>
    rw [if_neg c3] at H
    exact absurd H (by simp)
   rw [if_pos c3] at H
   have c3b0 : decide (0 ≤ x8_1) = true := decide_eq_true c3
   clear c3
   by_cases c4 : x8_1 < (l0.length : Int)
   case neg =>
    rw [if_neg c4] at H
    exact absurd H (by simp)
   rw [if_pos c4] at H
   have c4b0 : decide (x8_1 < (l0.length : Int)) = true := decide_eq_true c4
   clear c4
   by_cases c5 : x8_1 = 0
   case neg =>
    rw [if_neg c5] at H
    have c5b0 : (x8_1 == 0) = false := beq_eq_false_iff_ne.mpr c5
    have c5b1 : (x8_1 != 0) = true := bne_iff_ne.mpr c5
    replace H := Option.bind_eq_some_iff.mp H
    obtain ⟨⟨t192, t193⟩, A110, H⟩ := H
    replace H : (if t193 = 0 then (vec_SumP.l0 k1 t192 l0 (l0.length : Int) (wrap64 (x8_1 + 1))) else (some (([] : List Int), t193))) = some (r1, r2) := H
    have A11 := ZM A110
    clear A110
    by_cases c12 : t193 = 0
    case neg =>
     rw [if_neg c12] at H
     have c12b0 : (t193 == 0) = false := beq_eq_false_iff_ne.mpr c12
     have c12b1 : (t193 != 0) = true := bne_iff_ne.mpr c12
     simp only [Option.some.injEq, Prod.mk.injEq] at H
     obtain ⟨rfl, rfl⟩ := H
     have p187 : 0 ≤ (x8_1 : Int) := of_decide_eq_true Z3
     have q187 : x8_1 < (l0.length : Int) := of_decide_eq_true Z3
     obtain ⟨ad187, A187_0, c187_0, e187, hx187_0, hl187_0, hi187_0⟩ := at_L1 HR0.out x8_1 p187 q187
     cases e187
     replace hx187_0 := (HB.out.cell (World.block_lt_of_cell? w _ hx187_0)).trans hx187_0
     have HR187_0 := ZM hi187_0
     have HC187_0 := ZM hl187_0
     clear hi187_0 hl187_0
     replace p187 := eq_true p187
     replace q187 := eq_true q187
     obtain ⟨Ao15, co15, eo15⟩ := Kd.R_slice HO_2.out
     subst eo15
     go_wp2_with (first | ((with_reducible refine gate_callee (f := 74) rfl ?_); refine goesL_ (some 22) rfl rfl Try.func74 (by kernel_rfl) rfl #[.slice Ao15 x2_1.length co15, .slice A187_0 (rd_L1 l0 x8_1).length c187_0] rfl Z2 ?_; (with_reducible refine (vec_Add.calls _ _ x2_1 _ _ (rd_L1 l0 x8_1) t192 t193 _ ?side1 ?side2 ?side3 ?side4 A11.out).mono ?_); (case side1 => exact Z49); (case side2 => exact (Kd.R_reads' HO_2.out).2.1); (case side3 => exact Z21); (case side4 => exact HC187_0.out); rintro e w16 ⟨v194, rfl, ho0, hb⟩; refine ⟨_, rfl, ?_⟩; have n0_ := ZM (Kd.R_elder' (Zr HO_2) (Kd.R_base ho0) hb); have n1_ := ZM (Kd.R_lower (Kd.R_new' ho0 (Kd.R_lt (Zr HO_2))) (zzS Z1)); have n2_ := ZM (zzT Z1 hb); clear HO_2; clear HB; have HO_2 := n0_; have HO195 := n1_; have HB := n2_; clear n0_ n1_ n2_; (try clear hb); (try clear hb2); (try clear hk); (try clear hi); (try clear ho0)))
     go_ret2
     exact ⟨_, by first | rfl | (simp [errW_none, errW_some] <;> rfl) | (simp [*, errW_none, errW_some] <;> rfl), by first | exact Kd.R_nil _ _ _ _ _ | exact Kd.N_nil _ _ _ _ _ | exact Kd.V_nil _ _ _ _ _ | exact Kd.Q_nil _ _ _ _ _ | exact Kd.S_nil _ _ _ _ _, by repeat (first | (with_reducible first | exact HB.out | apply zzA | apply zzN | apply zzD) | exact HB.out)⟩
    rw [if_pos c12] at H
    have c12b0 : (t193 == 0) = true := beq_iff_eq.mpr c12
    have c12b1 : (t193 != 0) = false := bne_eq_false_iff_eq.mpr c12
    clear c12
    have H' := ZM H
    clear H
    have p187 : 0 ≤ (x8_1 : Int) := of_decide_eq_true Z3
    have q187 : x8_1 < (l0.length : Int) := of_decide_eq_true Z3
    obtain ⟨ad187, A187_0, c187_0, e187, hx187_0, hl187_0, hi187_0⟩ := at_L1 HR0.out x8_1 p187 q187
    cases e187
    replace hx187_0 := (HB.out.cell (World.block_lt_of_cell? w _ hx187_0)).trans hx187_0
    have HR187_0 := ZM hi187_0
    have HC187_0 := ZM hl187_0
    clear hi187_0 hl187_0
    replace p187 := eq_true p187
    replace q187 := eq_true q187
    obtain ⟨Ao13, co13, eo13⟩ := Kd.R_slice HO_2.out
    subst eo13
    go_wp2_with (first | ((with_reducible refine gate_callee (f := 74) rfl ?_); refine goesL_ (some 22) rfl rfl Try.func74 (by kernel_rfl) rfl #[.slice Ao13 x2_1.length co13, .slice A187_0 (rd_L1 l0 x8_1).length c187_0] rfl Z2 ?_; (with_reducible refine (vec_Add.calls _ _ x2_1 _ _ (rd_L1 l0 x8_1) t192 t193 _ ?side1 ?side2 ?side3 ?side4 A11.out).mono ?_); (case side1 => exact Z49); (case side2 => exact (Kd.R_reads' HO_2.out).2.1); (case side3 => exact Z21); (case side4 => exact HC187_0.out); rintro e w14 ⟨v194, rfl, ho0, hb⟩; refine ⟨_, rfl, ?_⟩; have n0_ := ZM (Kd.R_elder' (Zr HO_2) (Kd.R_base ho0) hb); have n1_ := ZM (Kd.R_lower (Kd.R_new' ho0 (Kd.R_lt (Zr HO_2))) (zzS Z1)); have n2_ := ZM (zzT Z1 hb); clear HO_2; clear HB; have HO_2 := n0_; have HO195 := n1_; have HB := n2_; clear n0_ n1_ n2_; (try clear hb); (try clear hb2); (try clear hk); (try clear hi); (try clear ho0)))
    go_roundg k1
    case measure => have := HK1.out; omega
    case rel => exact ⟨(t192), (wrap64 (x8_1 + 1)), Z5, H', ⟨by have := HK1.out; omega⟩, ⟨by (with_reducible repeat (first | apply rrA | apply rrN | apply rrD)); exact Kd.R_mono HO195.out (fun _ hk => trivial)⟩, ⟨by repeat (first | (with_reducible first | exact HB.out | apply zzA | apply zzN | apply zzD) | exact HB.out)⟩⟩
   rw [if_pos c5] at H
   have c5b0 : (x8_1 == 0) = true := beq_iff_eq.mpr c5
   have c5b1 : (x8_1 != 0) = false := bne_eq_false_iff_eq.mpr c5
   clear c5
   replace H := Option.bind_eq_some_iff.mp H
   obtain ⟨t188, A60, H⟩ := H
   replace H : ((vec_Check.f (rd_L1 l0 x8_1)).bind fun t191 => (if t191 = 0 then (vec_SumP.l0 k1 t188 l0 (l0.length : Int) (wrap64 (x8_1 + 1))) else (some (([] : List Int), t191)))) = some (r1, r2) := H
   have A6 := ZM A60
   clear A60
   replace H := Option.bind_eq_some_iff.mp H
   obtain ⟨t191, A70, H⟩ := H
   replace H : (if t191 = 0 then (vec_SumP.l0 k1 t188 l0 (l0.length : Int) (wrap64 (x8_1 + 1))) else (some (([] : List Int), t191))) = some (r1, r2) := H
   have A7 := ZM A70
   clear A70
   by_cases c8 : t191 = 0
   case neg =>
    rw [if_neg c8] at H
    have c8b0 : (t191 == 0) = false := beq_eq_false_iff_ne.mpr c8
    have c8b1 : (t191 != 0) = true := bne_iff_ne.mpr c8
    simp only [Option.some.injEq, Prod.mk.injEq] at H
    obtain ⟨rfl, rfl⟩ := H
    have p187 : 0 ≤ (x8_1 : Int) := of_decide_eq_true Z3
    have q187 : x8_1 < (l0.length : Int) := of_decide_eq_true Z3
    obtain ⟨ad187, A187_0, c187_0, e187, hx187_0, hl187_0, hi187_0⟩ := at_L1 HR0.out x8_1 p187 q187
    cases e187
    replace hx187_0 := (HB.out.cell (World.block_lt_of_cell? w _ hx187_0)).trans hx187_0
    have HR187_0 := ZM hi187_0
    have HC187_0 := ZM hl187_0
    clear hi187_0 hl187_0
    replace p187 := eq_true p187
    replace q187 := eq_true q187
    go_wp2_with (first | ((with_reducible refine gate_callee (f := 30) rfl ?_); refine goesL_ (some 16) rfl rfl Try.func30 (by kernel_rfl) rfl #[.slice A187_0 (rd_L1 l0 x8_1).length c187_0] rfl Z2 ?_; (with_reducible refine (slices_Clone_int64_int64.calls _ _ (rd_L1 l0 x8_1) t188 _ ?side1 ?side2 A6.out).mono ?_); (case side1 => exact Z21); (case side2 => exact HC187_0.out); rintro e w10 ⟨v189, rfl, ho0, hb⟩; refine ⟨_, rfl, ?_⟩; have n0_ := ZM (Kd.R_elder' (Zr HO_2) (Kd.R_base ho0) hb); have n1_ := ZM (Kd.R_lower (Kd.R_new' ho0 (Kd.R_lt (Zr HO_2))) (zzS Z1)); have n2_ := ZM (zzT Z1 hb); clear HO_2; clear HB; have HO_2 := n0_; have HO190 := n1_; have HB := n2_; clear n0_ n1_ n2_; (try clear hb); (try clear hb2); (try clear hk); (try clear hi); (try clear ho0)) | ((with_reducible refine gate_callee (f := 45) rfl ?_); refine goesL_ (some 18) rfl rfl Try.func45 (by kernel_rfl) rfl #[.slice A187_0 (rd_L1 l0 x8_1).length c187_0] rfl Z2 ?_; (with_reducible refine (vec_Check.calls _ _ (rd_L1 l0 x8_1) t191 _ ?side1 ?side2 A7.out).mono ?_); (case side1 => exact Z21); (case side2 => exact HC187_0.out); rintro e w' ⟨rfl, ⟨nd, rfl⟩⟩; refine ⟨_, rfl, ?_⟩))
    go_ret2
    exact ⟨_, by first | rfl | (simp [errW_none, errW_some] <;> rfl) | (simp [*, errW_none, errW_some] <;> rfl), by first | exact Kd.R_nil _ _ _ _ _ | exact Kd.N_nil _ _ _ _ _ | exact Kd.V_nil _ _ _ _ _ | exact Kd.Q_nil _ _ _ _ _ | exact Kd.S_nil _ _ _ _ _, by repeat (first | (with_reducible first | exact HB.out | apply zzA | apply zzN | apply zzD) | exact HB.out)⟩
   rw [if_pos c8] at H
   have c8b0 : (t191 == 0) = true := beq_iff_eq.mpr c8
   have c8b1 : (t191 != 0) = false := bne_eq_false_iff_eq.mpr c8
   clear c8
   have H' := ZM H
   clear H
   have p187 : 0 ≤ (x8_1 : Int) := of_decide_eq_true Z3
   have q187 : x8_1 < (l0.length : Int) := of_decide_eq_true Z3
   obtain ⟨ad187, A187_0, c187_0, e187, hx187_0, hl187_0, hi187_0⟩ := at_L1 HR0.out x8_1 p187 q187
   cases e187
   replace hx187_0 := (HB.out.cell (World.block_lt_of_cell? w _ hx187_0)).trans hx187_0
   have HR187_0 := ZM hi187_0
   have HC187_0 := ZM hl187_0
   clear hi187_0 hl187_0
   replace p187 := eq_true p187
   replace q187 := eq_true q187
   go_wp2_with (first | ((with_reducible refine gate_callee (f := 30) rfl ?_); refine goesL_ (some 16) rfl rfl Try.func30 (by kernel_rfl) rfl #[.slice A187_0 (rd_L1 l0 x8_1).length c187_0] rfl Z2 ?_; (with_reducible refine (slices_Clone_int64_int64.calls _ _ (rd_L1 l0 x8_1) t188 _ ?side1 ?side2 A6.out).mono ?_); (case side1 => exact Z21); (case side2 => exact HC187_0.out); rintro e w9 ⟨v189, rfl, ho0, hb⟩; refine ⟨_, rfl, ?_⟩; have n0_ := ZM (Kd.R_elder' (Zr HO_2) (Kd.R_base ho0) hb); have n1_ := ZM (Kd.R_lower (Kd.R_new' ho0 (Kd.R_lt (Zr HO_2))) (zzS Z1)); have n2_ := ZM (zzT Z1 hb); clear HO_2; clear HB; have HO_2 := n0_; have HO190 := n1_; have HB := n2_; clear n0_ n1_ n2_; (try clear hb); (try clear hb2); (try clear hk); (try clear hi); (try clear ho0)) | ((with_reducible refine gate_callee (f := 45) rfl ?_); refine goesL_ (some 18) rfl rfl Try.func45 (by kernel_rfl) rfl #[.slice A187_0 (rd_L1 l0 x8_1).length c187_0] rfl Z2 ?_; (with_reducible refine (vec_Check.calls _ _ (rd_L1 l0 x8_1) t191 _ ?side1 ?side2 A7.out).mono ?_); (case side1 => exact Z21); (case side2 => exact HC187_0.out); rintro e w' ⟨rfl, ⟨nd, rfl⟩⟩; refine ⟨_, rfl, ?_⟩))
   go_roundg k1
   case measure => have := HK1.out; omega
   case rel => exact ⟨(t188), (wrap64 (x8_1 + 1)), Z5, H', ⟨by have := HK1.out; omega⟩, ⟨by (with_reducible repeat (first | apply rrA | apply rrN | apply rrD)); exact Kd.R_mono HO190.out (fun _ hk => trivial)⟩, ⟨by repeat (first | (with_reducible first | exact HB.out | apply zzA | apply zzN | apply zzD) | exact HB.out)⟩⟩
theorem vec_SumP.loop (x0 : List (List Int)) (hv : ∀ v ∈ x0, V64 v) (hb : x0.length ≤ 9223372036854775807) : ∀ (d i : Nat) (acc : List Int), 0 < i → d + i = x0.length → V64 acc →
    vec_SumP.l0 (d + 1) acc x0 (x0.length : Int) (i : Int) = some (sumFrom (x0.drop i) acc) := by
  intro d
  induction d with
  | zero =>
    intro i acc h0 hd ha
    rw [vec_SumP.l0, if_neg (by omega), List.drop_eq_nil_of_le (by omega)]; rfl
  | succ d ih =>
    intro i acc h0 hd ha
    have hi : i < x0.length := by omega
    have e : rd_L1 x0 (i : Int) = x0[i] := by simp [rd_L1, List.getD_eq_getElem?_getD, List.getElem?_eq_getElem hi]
    rw [vec_SumP.l0, if_pos (by omega), if_pos (by omega), if_pos (by omega), if_neg (by omega), e, vec_Add.of _ _ ⟨ha, hv _ (List.getElem_mem hi)⟩, List.drop_eq_getElem_cons hi]
    simp only [Option.bind_some, sumFrom]
    by_cases c : (addV acc x0[i]).2 = 0
    · rw [if_pos c, if_pos c, wrap64_of (by unfold I64; omega), show (i : Int) + 1 = ((i + 1 : Nat) : Int) by omega]
      exact ih (i + 1) _ (by omega) (by omega) (addV_v64 _ _)
    · rw [if_neg c, if_neg c]
def vec_Sum.f (l0 : List (List Int)) : Option (List Int × Int) := if (∀ v ∈ l0, V64 v) ∧ fewV l0 = true then some (sumsV l0) else none
theorem vec_Sum.calls (A0 : Option Addr) (c0 : Nat) (l0 : List (List Int)) (r1 : List Int) (r2 : Int) (w : World) (hr0 : Kd.C (Kd.slice 2 (Kd.int .i64)) w A0 l0.length l0) (hc0 : l0.length ≤ c0) (h : vec_Sum.f l0 = some (r1, r2)) :
    Calls Try.prog 51 #[.slice A0 l0.length c0] w fun e w' => ∃ v0_ : Value, e = .returned (.tuple #[v0_, .int .i64 r2]) ∧ Kd.R (Kd.int .i64) 2 w' w.heap.size (fun _ => True) v0_ r1 ∧ Below w.heap.size w w' := by
  unfold vec_Sum.f at h
  split at h
  case isFalse => cases h
  rename_i hv
  obtain ⟨hv, hf⟩ := hv
  have hm := Kd.C_max hr0
  refine vec_SumP.calls (l0.length + 1) A0 c0 l0 r1 r2 w hr0 hc0 (Eq.trans ?_ h)
  unfold vec_SumP.f
  cases l0 with
  | nil => rw [vec_SumP.l0, if_neg (by simp)]; rfl
  | cons v l =>
    have e : rd_L1 (v :: l) 0 = v := rfl
    have hl : ((v :: l).length : Int) = (l.length : Int) + 1 := by simp
    have hv0 : v.length ≤ 5000 := by simp only [fewV, List.all_cons, Bool.and_eq_true, decide_eq_true_eq] at hf; exact hf.1
    rw [vec_SumP.l0, if_pos (by omega), if_pos (by omega), if_pos (by omega), if_pos rfl, e, slices_Clone_int64_int64.of _ (by omega), vec_Check.of]
    show _ = some (if checkE v = 0 then sumFrom l v else ([], checkE v))
    simp only [Option.bind_some]
    by_cases c : checkE v = 0
    · rw [if_pos c, if_pos c, wrap64_of (by unfold I64; omega)]
      exact vec_SumP.loop (v :: l) hv hm l.length 1 v (by omega) (by simp) (hv v (by simp))
    · rw [if_neg c, if_neg c]


/-! ### fix_QuotP: function 52 -/
def fix_QuotP.f (a0 : Int) (a1 : Int) : Option (Int × Int) := (fix_Div.f a0 a1 0).bind fun bt196 => (some (bt196.1, bt196.2))
set_option maxHeartbeats 8000000 in
set_option maxRecDepth 100000 in
theorem fix_QuotP.calls (a0 : Int) (a1 : Int) (r1 : Int) (r2 : Int) (w : World) (h : fix_QuotP.f a0 a1 = some (r1, r2)) :
  Calls Try.prog 52 #[.int .i64 a0, .int .i64 a1] w fun e w' => e = .returned (.tuple #[.int .i64 r1, .int .i64 r2]) ∧ Drawn0 w w' := by
 have H : ((fix_Div.f a0 a1 0).bind fun bt196 => (some (bt196.1, bt196.2))) = some (r1, r2) := h
 clear h
 replace H := Option.bind_eq_some_iff.mp H
 obtain ⟨⟨t196, t197⟩, A30, H⟩ := H
 replace H : (some (t196, t197)) = some (r1, r2) := H
 have A3 := ZM A30
 clear A30
 simp only [Option.some.injEq, Prod.mk.injEq] at H
 obtain ⟨rfl, rfl⟩ := H
 go_enter Try.func52, Try.ntmps52
 go_wp2_with (first | ((with_reducible refine gate_callee (f := 40) rfl ?_); refine goesL_ (some 8) rfl rfl Try.func40 (by kernel_rfl) rfl #[.int .i64 a0, .int .i64 a1, .int .i64 0] rfl Z2 ?_; (with_reducible refine (fix_Div.calls a0 a1 0 t196 t197 _ A3.out).mono ?_); rintro e w' ⟨rfl, ⟨nd, rfl⟩⟩; refine ⟨_, rfl, ?_⟩))
 go_ret2
 exact ⟨by first | rfl | (simp; done) | (simp [*]; done), by repeat (first | exact ddR _ | apply ddS)⟩
def fix_Quot.f (a0 a1 : Int) : Option (Int × Int) := if I64 a0 ∧ I64 a1 then some (divF a0 a1 0) else none
theorem fix_Quot.of (a0 a1 : Int)  (h_ : I64 a0 ∧ I64 a1) : fix_Quot.f a0 a1 = some (divF a0 a1 0) := if_pos h_
theorem fix_Quot.calls (a0 : Int) (a1 : Int) (r1 : Int) (r2 : Int) (w : World) (h : fix_Quot.f a0 a1 = some (r1, r2)) :
    Calls Try.prog 52 #[.int .i64 a0, .int .i64 a1] w fun e w' => e = .returned (.tuple #[.int .i64 r1, .int .i64 r2]) ∧ Drawn0 w w' := by
  unfold fix_Quot.f at h
  split at h
  · rename_i hu
    refine fix_QuotP.calls a0 a1 r1 r2 w (Eq.trans ?_ h)
    unfold fix_QuotP.f fix_Div.f
    rw [if_pos hu]; simp
  · cases h


/-! ### linear_Mean: function 36 -/
def linear_Mean.f (a0 : Int) (l1 : List (List Int)) : Option (List Int × Int) := if I64 a0 ∧ (∀ v ∈ l1, V64 v) ∧ fewV l1 = true then some (meanL a0 l1) else none
theorem linear_Mean.of (a0 : Int) (l1 : List (List Int)) (h : I64 a0 ∧ (∀ v ∈ l1, V64 v) ∧ fewV l1 = true) : linear_Mean.f a0 l1 = some (meanL a0 l1) := if_pos h
set_option maxHeartbeats 4000000 in
set_option maxRecDepth 100000 in
theorem linear_Mean.calls (a0 : Int) (A1 : Option Addr) (c1 : Nat) (l1 : List (List Int)) (r1 : List Int) (r2 : Int) (w : World) (hr1 : Kd.C (Kd.slice 2 (Kd.int .i64)) w A1 l1.length l1) (hc1 : l1.length ≤ c1) (h : linear_Mean.f a0 l1 = some (r1, r2)) :
    Calls Try.prog 36 #[.int .i64 a0, .slice A1 l1.length c1] w fun e w' => ∃ v0_ : Value, e = .returned (.tuple #[v0_, .int .i64 r2]) ∧ Kd.R (Kd.int .i64) 2 w' w.heap.size (fun _ => True) v0_ r1 ∧ Below w.heap.size w w' := by
 unfold linear_Mean.f at h
 split at h
 case isFalse => cases h
 rename_i hv
 have h := Option.some.inj h
 have HV := ZM hv
 clear hv
 unfold meanL at h
 have HR1 := ZM hr1
 have HC1 := ZM hc1
 clear hr1 hc1
 by_cases c : a0 < 1
 · rw [if_pos c] at h
   cases h
   have cb : decide (a0 < 1) = true := decide_eq_true c
   clear c
   go_enter Try.func36, Try.ntmps36
   go_wp2
   go_ret2
   exact ⟨_, rfl, Kd.R_nil _ _ _ _ _, by repeat (first | exact Below.refl _ _ | apply zzN)⟩
 · rw [if_neg c] at h
   have cb : decide (a0 < 1) = false := decide_eq_false c
   clear c
   obtain ⟨⟨t, e⟩, ht⟩ : ∃ p, sumsV l1 = p := ⟨_, rfl⟩
   have hlen := sumsV_lle l1
   have hv64 := sumsV_v64 l1 HV.out.2.1
   rw [ht] at h hlen hv64
   simp only [] at h hlen hv64
   have HL := ZM hlen
   have HT := ZM hv64
   have A4 : Aside0 (vec_Sum.f l1 = some (t, e)) := ⟨(show vec_Sum.f l1 = some (sumsV l1) from if_pos HV.out.2).trans (congrArg some ht)⟩
   clear hlen hv64 ht
   by_cases he : e = 0
   · rw [if_pos he] at h
     subst he
     rw [← seqFrom_start] at h
     have HG := ZM h
     clear h
     go_enter Try.func36, Try.ntmps36
     go_wp2_with (go_at_call 51; (with_reducible refine (vec_Sum.calls A1 c1 l1 t 0 _ HR1.out HC1.out A4.out).mono ?_); rintro ed W1 ⟨v_, rfl, hR, hb⟩; have HO := ZM (Kd.R_lower hR (Nat.le_refl _)); have HB := ZM hb; clear hR hb; obtain ⟨Ao, co, eo⟩ := Kd.R_slice HO.out; subst eo)
     go_loopw [22] (fun i W => ∃ (k : Nat) (acc : List Int), i = .int .i64 k ∧ Aside0 (k ≤ t.length) ∧ Aside0 (acc.length = k) ∧ Aside0 (seqFrom (fun x => divF x a0 0) (t.drop k) acc = (r1, r2)) ∧ Aside0 (Kd.R (Kd.int .i64) 2 W w.heap.size (fun _ => True) (.slice Ao t.length co) (acc ++ t.drop k)) ∧ Aside0 (Below w.heap.size w W)) (fun i _ => t.length - (intOf i).toNat)
     case atStart => exact ⟨0, [], rfl, ⟨Nat.zero_le _⟩, ⟨rfl⟩, ⟨by rw [List.drop_zero]; exact HG.out⟩, ⟨by rw [List.drop_zero, List.nil_append]; exact HO.out⟩, HB⟩
     case round =>
      obtain ⟨k, acc, rfl, ⟨hk⟩, ⟨hacc⟩, ⟨hgo⟩, HO, HB⟩ := hrel
      clear HG
      by_cases hlt : k < t.length
      · obtain ⟨g, hg⟩ : ∃ g, Ao = some ⟨g, 0, none⟩ := by
         have hx := HO.out
         obtain ⟨g, cap, he, _⟩ := Kd.R_form hx (by rw [List.length_append, List.length_drop]; omega)
         injection he with h1 _ _
         exact ⟨g, h1⟩
        subst hg
        have hrd : rd (acc ++ t.drop k) (k : Int) = rd t k := by
         rw [rd_nat hlt, rd_nat (by rw [List.length_append, List.length_drop]; omega), List.getElem_append_right (by omega)]
         simp [hacc]
        have hcell := (Kd.R_celln 0 HO.out (k : Int) (by omega) (by omega)).1
        have hfr := (Kd.R_celln 0 HO.out (k : Int) (by omega) (by omega)).2
        rw [show rdOf 0 (acc ++ t.drop k) (k : Int) = rd t k from hrd] at hcell
        simp only [Int.toNat_natCast] at hcell hfr
        rw [List.drop_eq_getElem_cons hlt] at hgo
        obtain ⟨⟨q, f⟩, hq⟩ : ∃ p, divF (rd t k) a0 0 = p := ⟨_, rfl⟩
        have HA : Aside0 (fix_Quot.f (rd t k) a0 = some (q, f)) := ⟨(fix_Quot.of _ _ ⟨HT.out.rd _, HV.out.1⟩).trans (congrArg some hq)⟩
        have e1 : t[k] = rd t k := (rd_nat hlt).symm
        have hset : (acc ++ t.drop k).set k q = (acc ++ [q]) ++ t.drop (k + 1) := by
         rw [List.set_append_right _ _ (by omega), hacc, Nat.sub_self, List.drop_eq_getElem_cons hlt, List.set_cons_zero]
         simp
        have HS := ZM hset
        have HKL := ZM hacc
        have HLT := ZM hlt
        clear hset hrd hacc hk
        by_cases hf : f = 0
        · rw [seqFrom_ok (g := fun x => divF x a0 0) (by rw [e1, hq]; exact hf), e1, hq] at hgo
          subst hf
          have HG := ZM hgo
          clear hgo hq e1
          go_wp2_with (go_at_call 52; (with_reducible refine (fix_Quot.calls (rd t k) a0 q 0 _ HA.out).mono ?_); rintro ed W2 ⟨rfl, ⟨nd, rfl⟩⟩)
          have hp := (Kd.R_putg (rrN HO.out nd) (k : Int) q).1
          simp only [Int.toNat_natCast] at hp
          rw [HS.out] at hp
          have hL := HL.out
          exact ⟨⟨k + 1, acc ++ [q], by rw [wrap64_of (show I64 ((k : Int) + 1) by unfold I64; omega)]; rfl, ⟨HLT.out⟩, ⟨by have := HKL.out; simp; omega⟩, HG, ⟨hp⟩, ⟨(zzN HB.out _).setCell Z38 _⟩⟩, by rw [wrap64_of (show I64 ((k : Int) + 1) by unfold I64; omega)]; simp [intOf]; omega⟩
        · rw [seqFrom_bad (g := fun x => divF x a0 0) (by rw [e1, hq]; exact hf), e1, hq] at hgo
          obtain ⟨h1, h2⟩ : [] = r1 ∧ f = r2 := by cases hgo; exact ⟨rfl, rfl⟩
          clear hgo
          subst h1
          subst h2
          have he0 : (f == 0) = false := beq_eq_false_iff_ne.2 hf
          have he1 : (f != 0) = true := bne_iff_ne.2 hf
          clear hf hq e1
          go_wp2_with (go_at_call 52; (with_reducible refine (fix_Quot.calls (rd t k) a0 q f _ HA.out).mono ?_); rintro ed W2 ⟨rfl, ⟨nd, rfl⟩⟩)
          go_ret2
          exact ⟨_, rfl, Kd.R_nil _ _ _ _ _, (zzN HB.out _).setCell Z38 _⟩
      · have hkn : k = t.length := by omega
        rw [hkn, List.drop_length, seqFrom_nil] at hgo
        cases hgo
        have HO2 := HO.out
        rw [hkn, List.drop_length, List.append_nil] at HO2
        have HO3 := ZM HO2
        subst hkn
        clear HO2 HO hk
        go_wp2
        go_ret2
        exact ⟨_, rfl, HO3.out, HB.out⟩
   · rw [if_neg he] at h
     obtain ⟨h1, h2⟩ : r1 = [] ∧ r2 = e := by cases h; exact ⟨rfl, rfl⟩
     rw [h1, h2]
     clear h h1 h2
     have he0 : (e == 0) = false := beq_eq_false_iff_ne.2 he
     have he1 : (e != 0) = true := bne_iff_ne.2 he
     clear he
     go_enter Try.func36, Try.ntmps36
     go_wp2_with (go_at_call 51; (with_reducible refine (vec_Sum.calls A1 c1 l1 t e _ HR1.out HC1.out A4.out).mono ?_); rintro ed W1 ⟨v_, rfl, hR, hb⟩; have HO := ZM (Kd.R_lower hR (Nat.le_refl _)); have HB := ZM hb; clear hR hb; obtain ⟨Ao, co, eo⟩ := Kd.R_slice HO.out; subst eo)
     go_ret2
     exact ⟨_, rfl, Kd.R_nil _ _ _ _ _, HB.out⟩
/-! ### soft_GradP: function 20 -/
def soft_GradP.l0 : Nat → Int → List Int → Int → List (S24) → Int → List (List Int) → List (S24) → Int → Int → Option (List Int × Int)
 | 0, _, _, _, _, _, _, _, _, _ => none
 | k + 1, x0, x1, x2, x3, x10, x11, x20, x21, x22 => if x22 < x21 then (if 0 ≤ x22 then (if x22 < (x20.length : Int) then (if x10 = 0 then ((soft_Off.f x0 x1 ((rd_T24 x20 x22).f0) ((rd_T24 x20 x22).f1) x2).bind fun bt205 => (if bt205.2 = 0 then ((soft_bend.f ((rd_T24 x20 x22).f0) ((rd_T24 x20 x22).f1) bt205.1 x2).bind fun bt209 => (if x11.length < 5864062014805 then (soft_GradP.l0 k x0 x1 x2 x3 bt209.2 (x11 ++ [bt209.1]) x20 x21 (wrap64 (x22 + 1))) else (none))) else (if x11.length < 5864062014805 then (soft_GradP.l0 k x0 x1 x2 x3 bt205.2 (x11 ++ [([] : List Int)]) x20 x21 (wrap64 (x22 + 1))) else (none)))) else (if x11.length < 5864062014805 then (soft_GradP.l0 k x0 x1 x2 x3 x10 (x11 ++ [([] : List Int)]) x20 x21 (wrap64 (x22 + 1))) else (none))) else (none)) else (none)) else (if x10 = 0 then ((linear_Mean.f (x3.length : Int) x11).bind fun bt199 => (some (bt199.1, bt199.2))) else (some (([] : List Int), x10)))
def soft_GradP.f (k : Nat) (a0 : Int) (l1 : List Int) (a2 : Int) (l3 : List (S24)) : Option (List Int × Int) := (soft_fits.f a0 l1 l3).bind fun t198 => (soft_GradP.l0 k a0 l1 a2 l3 t198 ([] : List (List Int)) l3 (l3.length : Int) 0)
theorem soft_GradP.mono_l : ∀ k, (∀ y0 y1 y2 y3 y4 y5 y6 y7 y8, LeO (soft_GradP.l0 k y0 y1 y2 y3 y4 y5 y6 y7 y8) (soft_GradP.l0 (k + 1) y0 y1 y2 y3 y4 y5 y6 y7 y8))
 | 0 => fun _ _ _ _ _ _ _ _ _ r h => by simp [soft_GradP.l0] at h
 | k + 1 => by
  have ih0 := soft_GradP.mono_l k
  ·
   intro y0 y1 y2 y3 y4 y5 y6 y7 y8
   unfold soft_GradP.l0
   repeat' first
   | (with_reducible exact ih0 _ _ _ _ _ _ _ _ _)
   | (with_reducible exact LeO.refl _)
   | (with_reducible exact LeO.none _)
   | (with_reducible refine LeO.ite ?_ ?_)
   | (with_reducible refine LeO.bind ?_ (fun _ => ?_))
theorem soft_GradP.mono : ∀ a0 a1 a2 a3 k, LeO (soft_GradP.f k a0 a1 a2 a3) (soft_GradP.f (k + 1) a0 a1 a2 a3) := by
 intro a0 a1 a2 a3 k
 have ih0 := soft_GradP.mono_l k
 unfold soft_GradP.f
 repeat' first
   | (with_reducible exact ih0 _ _ _ _ _ _ _ _ _)
   | (with_reducible exact LeO.refl _)
   | (with_reducible exact LeO.none _)
   | (with_reducible refine LeO.ite ?_ ?_)
   | (with_reducible refine LeO.bind ?_ (fun _ => ?_))
set_option maxHeartbeats 8000000 in
set_option maxRecDepth 100000 in
theorem soft_GradP.calls (k : Nat) (a0 : Int) (A1 : Option Addr) (c1 : Nat) (l1 : List Int) (a2 : Int) (A3 : Option Addr) (c3 : Nat) (l3 : List (S24)) (r1 : List Int) (r2 : Int) (w : World) (hr1 : Kd.C (Kd.int .i64) w A1 l1.length l1) (hc1 : l1.length ≤ c1) (hr3 : Kd.C k24 w A3 l3.length l3) (hc3 : l3.length ≤ c3) (h : soft_GradP.f k a0 l1 a2 l3 = some (r1, r2)) :
  Calls Try.prog 20 #[.int .i64 a0, .slice A1 l1.length c1, .int .i64 a2, .slice A3 l3.length c3] w fun e w' => ∃ v0_ : Value, e = .returned (.tuple #[v0_, .int .i64 r2]) ∧ Kd.R (Kd.int .i64) 2 w' w.heap.size (fun _ => True) v0_ r1 ∧ Below w.heap.size w w' := by
 have hu24 := Try.underlying24
 have HR1 := ZM hr1
 have HC1 := ZM hc1
 clear hr1 hc1
 have HR3 := ZM hr3
 have HC3 := ZM hc3
 clear hr3 hc3
 have HB := ZM (Below.refl w.heap.size w)
 have H : ((soft_fits.f a0 l1 l3).bind fun t198 => (soft_GradP.l0 k a0 l1 a2 l3 t198 ([] : List (List Int)) l3 (l3.length : Int) 0)) = some (r1, r2) := h
 clear h
 replace H := Option.bind_eq_some_iff.mp H
 obtain ⟨t198, A50, H⟩ := H
 replace H : (soft_GradP.l0 k a0 l1 a2 l3 t198 ([] : List (List Int)) l3 (l3.length : Int) 0) = some (r1, r2) := H
 have A5 := ZM A50
 clear A50
 have H' := ZM H
 clear H
 go_enter Try.func20, Try.ntmps20
 go_wp2_with (first | ((with_reducible refine gate_callee (f := 34) rfl ?_); refine goesL_ (some 19) rfl rfl Try.func34 (by kernel_rfl) rfl #[.int .i64 a0, .slice A1 l1.length c1, .slice A3 l3.length c3] rfl Z2 ?_; (with_reducible refine (soft_fits.calls a0 _ _ l1 _ _ l3 t198 _ ?side1 ?side2 ?side3 ?side4 A5.out).mono ?_); (case side1 => exact Z6); (case side2 => exact HC1.out); (case side3 => repeat (first | exact HR3.out | (with_reducible refine ccA ?_ _) | (with_reducible refine ccN ?_ _) | (with_reducible refine ccD ?_))); (case side4 => exact HC3.out); rintro e w6 ⟨rfl, hb⟩; refine ⟨_, rfl, ?_⟩; replace HB := ZM (zzT Z1 hb); (try clear hb); (try clear hb2); (try clear hk); (try clear hi)))
 go_loopg [10, 11, 22] k (fun kq v10 v11 v22 w' => ∃ (x10_1 : Int) (x11_1 : List (List Int)) (x22_1 : Int), v10 = .int .i64 x10_1 ∧ v22 = .int .i64 x22_1 ∧ Aside0 (soft_GradP.l0 kq a0 l1 a2 l3 x10_1 x11_1 l3 (l3.length : Int) x22_1 = some (r1, r2)) ∧ Aside0 (kq ≤ k) ∧ Aside0 (Kd.S (Kd.slice 2 (Kd.int .i64)) 22 w' w.heap.size (fun _ => True) v11 x11_1) ∧ Aside0 (Below w.heap.size w w'))
 case atStart => exact ⟨(t198), (([] : List (List Int))), (0), Z5, Z5, H', ⟨Nat.le_refl _⟩, ⟨by first | exact Kd.S_nil _ _ _ _ _ | exact Kd.N_nil _ _ _ _ _ | exact Kd.V_nil _ _ _ _ _ | exact Kd.Q_nil _ _ _ _ _ | exact Kd.R_nil _ _ _ _ _⟩, ⟨by repeat (first | (with_reducible first | exact HB.out | apply zzA | apply zzN | apply zzD) | exact HB.out)⟩⟩
 case round =>
  clear H'
  try clear c1
  try clear c3
  obtain ⟨x10_1, x11_1, x22_1, rfl, rfl, HA, HK1, HO_11, HB⟩ := hrel
  cases gk with
  | zero => exact absurd HA.out (by simp [soft_GradP.l0])
  | succ k1 =>
   have H := HA.out
   clear HA
   simp only [soft_GradP.l0] at H
   by_cases c7 : x22_1 < (l3.length : Int)
   case neg =>
    rw [if_neg c7] at H
    have c7b0 : decide (x22_1 < (l3.length : Int)) = false := decide_eq_false c7
    clear c7
    by_cases c32 : x10_1 = 0
    case neg =>
     rw [if_neg c32] at H
     have c32b0 : (x10_1 == 0) = false := beq_eq_false_iff_ne.mpr c32
     have c32b1 : (x10_1 != 0) = true := bne_iff_ne.mpr c32
     simp only [Option.some.injEq, Prod.mk.injEq] at H
     obtain ⟨rfl, rfl⟩ := H
     go_wp2
     go_ret2
     exact ⟨_, by first | rfl | (simp [errW_none, errW_some] <;> rfl) | (simp [*, errW_none, errW_some] <;> rfl), by first | exact Kd.R_nil _ _ _ _ _ | exact Kd.N_nil _ _ _ _ _ | exact Kd.V_nil _ _ _ _ _ | exact Kd.Q_nil _ _ _ _ _ | exact Kd.S_nil _ _ _ _ _, by repeat (first | (with_reducible first | exact HB.out | apply zzA | apply zzN | apply zzD) | exact HB.out)⟩
    rw [if_pos c32] at H
    have c32b0 : (x10_1 == 0) = true := beq_iff_eq.mpr c32
    have c32b1 : (x10_1 != 0) = false := bne_eq_false_iff_eq.mpr c32
    clear c32
    replace H := Option.bind_eq_some_iff.mp H
    obtain ⟨⟨t199, t200⟩, A330, H⟩ := H
    replace H : (some (t199, t200)) = some (r1, r2) := H
    have A33 := ZM A330
    clear A330
    simp only [Option.some.injEq, Prod.mk.injEq] at H
    obtain ⟨rfl, rfl⟩ := H
    obtain ⟨Ao34, co34, eo34⟩ := Kd.S_slice HO_11.out
    subst eo34
    go_wp2_with (first | ((with_reducible refine gate_callee (f := 36) rfl ?_); refine goesL_ (some 56) rfl rfl Try.func36 (by kernel_rfl) rfl #[.int .i64 (l3.length : Int), .slice Ao34 x11_1.length co34] rfl Z2 ?_; (with_reducible refine (linear_Mean.calls (l3.length : Int) _ _ x11_1 t199 t200 _ ?side1 ?side2 A33.out).mono ?_); (case side1 => repeat (first | exact (Kd.S_reads' HO_11.out).2.2 | (with_reducible refine ccA ?_ _) | (with_reducible refine ccN ?_ _) | (with_reducible refine ccD ?_))); (case side2 => exact (Kd.S_reads' HO_11.out).2.1); rintro e w35 ⟨v201, rfl, ho0, hb⟩; refine ⟨_, rfl, ?_⟩; replace HO_11 := ZM (Kd.S_elder' Z27 (Kd.R_base ho0) hb); have HO202 := ZM (Kd.R_lower ho0 (zzS Z1)); replace HB := ZM (zzT Z1 hb); (try clear hb); (try clear hb2); (try clear hk); (try clear hi); (try clear ho0)))
    go_ret2
    exact ⟨_, by first | rfl | (simp [errW_none, errW_some] <;> rfl) | (simp [*, errW_none, errW_some] <;> rfl), by (with_reducible repeat (first | apply rrA | apply rrN | apply rrD)); exact HO202.out, by repeat (first | (with_reducible first | exact HB.out | apply zzA | apply zzN | apply zzD) | exact HB.out)⟩
   rw [if_pos c7] at H
   have c7b0 : decide (x22_1 < (l3.length : Int)) = true := decide_eq_true c7
   clear c7
   by_cases c8 : 0 ≤ x22_1
   case neg =>
    rw [if_neg c8] at H
    exact absurd H (by simp)
   rw [if_pos c8] at H
   have c8b0 : decide (0 ≤ x22_1) = true := decide_eq_true c8
   clear c8
   by_cases c9 : x22_1 < (l3.length : Int)
   case neg =>
    rw [if_neg c9] at H
    exact absurd H (by simp)
   rw [if_pos c9] at H
   have c9b0 : decide (x22_1 < (l3.length : Int)) = true := decide_eq_true c9
   clear c9
   by_cases c10 : x10_1 = 0
   case neg =>
    rw [if_neg c10] at H
    have c10b0 : (x10_1 == 0) = false := beq_eq_false_iff_ne.mpr c10
    have c10b1 : (x10_1 != 0) = true := bne_iff_ne.mpr c10
    by_cases c28 : x11_1.length < 5864062014805
    case neg =>
     rw [if_neg c28] at H
     exact absurd H (by simp)
    rw [if_pos c28] at H
    have LMc28 := ZM c28
    clear c28
    obtain ⟨y219, hy219⟩ : ∃ y_ : List (List Int), y_ = (x11_1 ++ [([] : List Int)]) := ⟨_, rfl⟩
    replace H : (soft_GradP.l0 k1 a0 l1 a2 l3 x10_1 y219 l3 (l3.length : Int) (wrap64 (x22_1 + 1))) = some (r1, r2) := by first | (rw [hy219]; with_reducible exact H) | (have H2_ := (Option.bind_some _ _).symm.trans H; rw [hy219]; with_reducible exact H2_) | (have H2_ := (Option.bind_some _ _).symm.trans H; with_reducible exact H2_) | with_reducible exact H | (rw [hy219]; exact H) | exact H
    have Ny219 := ZM hy219
    clear hy219
    have H' := ZM H
    clear H
    have p203 : 0 ≤ (x22_1 : Int) := of_decide_eq_true Z3
    have q203 : x22_1 < (l3.length : Int) := of_decide_eq_true Z3
    obtain ⟨ad203, A203_0, c203_0, e203, hx203_0, hx203_1, hl203_0, hi203_0⟩ := at_T24 HR3.out x22_1 p203 q203
    cases e203
    replace hx203_0 := (HB.out.cell (World.block_lt_of_cell? w _ hx203_0)).trans hx203_0
    replace hx203_1 := (HB.out.cell (World.block_lt_of_cell? w _ hx203_1)).trans hx203_1
    have HR203_0 := ZM hi203_0
    have HC203_0 := ZM hl203_0
    clear hi203_0 hl203_0
    replace p203 := eq_true p203
    replace q203 := eq_true q203
    go_wp2_with (first | ((with_reducible refine gate_dst (N := 13) rfl ?_); refine box_event ?hg (N := 13) ?hd (cs := #[.slice none 0 0, .int .i64 0]) (t := 24) ?hr ?_; (case hd => rfl); (case hg => rfl); (case hr => exact Z10); intro gb204 hg w29 hbox hb; replace HO_11 := ZM (Kd.S_below Z27 hb); have BK204 := ZM (hbox); have GW204 := ZM ((by rw [hg]; exact (zzS Z1) : w.heap.size ≤ gb204)); have GE204 := ZM ((by rw [hg]; exact (zzS Z1) : w.heap.size ≤ gb204)); replace HB := ZM (zzT Z1 hb); clear hb hbox hg; obtain ⟨hcz30_0, hcz30_1, hfz30_0, hfz30_1⟩ := Y2f BK204) | ((with_reducible refine gate_builtin (b := .append) (xs := #[.tmp 45, .tmp 47]) rfl ?_); at_builtin; refine Kd.S_append (Kd.slice 2 (Kd.int .i64)) (w0 := w) w.heap.size rfl (.tmp 45) (.tmp 47) 33 22 (.slice none 0 0) 24 rfl Try.underlying33 info22 rfl (by decide) (by omega) u11 x11_1 ([] : List Int) [.slice none 0 0] (fun _ => True) (fun _ => False) rfl (by first | (go_simp; done) | (go_simp; rfl)) ?aP (fun k_ hk_ => hk_.elim) ?aF ?aO ?aB ?aS ?aL ?_; (case aP => exact Kd.M_row (Kd.R_nil _ _ _ _ _)); (case aB => exact Z9); (case aF => exact (fun _ _ => trivial)); (case aO => exact (by (with_reducible repeat (first | apply Kd.S_alloc | apply Kd.S_drewN | apply Kd.S_drew)); exact Kd.S_mono (Kd.S_far (p := ⟨gb204, 1, none⟩) (Kd.S_far (p := ⟨gb204, 0, none⟩) (Kd.S_types HO_11.out BK204.out (by decide)) (fun _ hk => hk.2) (.slice A203_0 ((rd_T24 l3 x22_1).f0).length c203_0)) (fun _ hk => hk.2) (.int .i64 ((rd_T24 l3 x22_1).f1))) (fun k_ hk => ⟨trivial, fun e_ => e_⟩))); (case aS => exact (zzS Z9)); (case aL => have := LMc28.out; omega); intro v220 w31 ho hb hg hat; rw [← Ny219.out] at ho; replace BK204 := ZM (blk_grown (g := gb204) (o := .cells #[.slice A203_0 ((rd_T24 l3 x22_1).f0).length c203_0, .int .i64 ((rd_T24 l3 x22_1).f1)] 24 (0, 0)) Z19 hg (Kd.S_ne HO_11.out BK204.out (by decide))); have HO221 := ZM (ho); replace HB := ZM (hb); clear HO_11; clear ho hb hg hat))
    go_roundg k1
    case measure => have := HK1.out; omega
    case rel => exact ⟨(x10_1), (y219), (wrap64 (x22_1 + 1)), Z5, Z5, H', ⟨by have := HK1.out; omega⟩, ⟨by (with_reducible repeat (first | apply Kd.S_alloc | apply Kd.S_drewN | apply Kd.S_drew)); exact HO221.out⟩, ⟨by repeat (first | (with_reducible first | exact HB.out | apply zzA | apply zzN | apply zzD | refine below_set ?_ GE204.out) | exact HB.out)⟩⟩
   rw [if_pos c10] at H
   have c10b0 : (x10_1 == 0) = true := beq_iff_eq.mpr c10
   have c10b1 : (x10_1 != 0) = false := bne_eq_false_iff_eq.mpr c10
   clear c10
   replace H := Option.bind_eq_some_iff.mp H
   obtain ⟨⟨t205, t208⟩, A110, H⟩ := H
   replace H : (if t208 = 0 then ((soft_bend.f ((rd_T24 l3 x22_1).f0) ((rd_T24 l3 x22_1).f1) t205 a2).bind fun bt209 => (if x11_1.length < 5864062014805 then (soft_GradP.l0 k1 a0 l1 a2 l3 bt209.2 (x11_1 ++ [bt209.1]) l3 (l3.length : Int) (wrap64 (x22_1 + 1))) else (none))) else (if x11_1.length < 5864062014805 then (soft_GradP.l0 k1 a0 l1 a2 l3 t208 (x11_1 ++ [([] : List Int)]) l3 (l3.length : Int) (wrap64 (x22_1 + 1))) else (none))) = some (r1, r2) := H
   have A11 := ZM A110
   clear A110
   by_cases c12 : t208 = 0
   case neg =>
    rw [if_neg c12] at H
    have c12b0 : (t208 == 0) = false := beq_eq_false_iff_ne.mpr c12
    have c12b1 : (t208 != 0) = true := bne_iff_ne.mpr c12
    by_cases c23 : x11_1.length < 5864062014805
    case neg =>
     rw [if_neg c23] at H
     exact absurd H (by simp)
    rw [if_pos c23] at H
    have LMc23 := ZM c23
    clear c23
    obtain ⟨y216, hy216⟩ : ∃ y_ : List (List Int), y_ = (x11_1 ++ [([] : List Int)]) := ⟨_, rfl⟩
    replace H : (soft_GradP.l0 k1 a0 l1 a2 l3 t208 y216 l3 (l3.length : Int) (wrap64 (x22_1 + 1))) = some (r1, r2) := by first | (rw [hy216]; with_reducible exact H) | (have H2_ := (Option.bind_some _ _).symm.trans H; rw [hy216]; with_reducible exact H2_) | (have H2_ := (Option.bind_some _ _).symm.trans H; with_reducible exact H2_) | with_reducible exact H | (rw [hy216]; exact H) | exact H
    have Ny216 := ZM hy216
    clear hy216
    have H' := ZM H
    clear H
    have p203 : 0 ≤ (x22_1 : Int) := of_decide_eq_true Z3
    have q203 : x22_1 < (l3.length : Int) := of_decide_eq_true Z3
    obtain ⟨ad203, A203_0, c203_0, e203, hx203_0, hx203_1, hl203_0, hi203_0⟩ := at_T24 HR3.out x22_1 p203 q203
    cases e203
    replace hx203_0 := (HB.out.cell (World.block_lt_of_cell? w _ hx203_0)).trans hx203_0
    replace hx203_1 := (HB.out.cell (World.block_lt_of_cell? w _ hx203_1)).trans hx203_1
    have HR203_0 := ZM hi203_0
    have HC203_0 := ZM hl203_0
    clear hi203_0 hl203_0
    replace p203 := eq_true p203
    replace q203 := eq_true q203
    go_wp2_with (first | ((with_reducible refine gate_dst (N := 13) rfl ?_); refine box_event ?hg (N := 13) ?hd (cs := #[.slice none 0 0, .int .i64 0]) (t := 24) ?hr ?_; (case hd => rfl); (case hg => rfl); (case hr => exact Z10); intro gb204 hg w24 hbox hb; replace HO_11 := ZM (Kd.S_below Z27 hb); have BK204 := ZM (hbox); have GW204 := ZM ((by rw [hg]; exact (zzS Z1) : w.heap.size ≤ gb204)); have GE204 := ZM ((by rw [hg]; exact (zzS Z1) : w.heap.size ≤ gb204)); replace HB := ZM (zzT Z1 hb); clear hb hbox hg; obtain ⟨hcz25_0, hcz25_1, hfz25_0, hfz25_1⟩ := Y2f BK204) | ((with_reducible refine gate_callee (f := 10) rfl ?_); refine goesL_ (some 33) rfl rfl Try.func10 (by kernel_rfl) rfl #[.int .i64 a0, .slice A1 l1.length c1, .agg #[.slice A203_0 ((rd_T24 l3 x22_1).f0).length c203_0, .int .i64 ((rd_T24 l3 x22_1).f1)], .int .i64 a2] rfl Z2 ?_; (with_reducible refine (soft_Off.calls a0 _ _ l1 _ _ ((rd_T24 l3 x22_1).f0) ((rd_T24 l3 x22_1).f1) a2 t205 t208 _ ?side1 ?side2 ?side3 ?side4 A11.out).mono ?_); (case side1 => exact Kd.C_below HR1.out Z9); (case side2 => exact HC1.out); (case side3 => exact Kd.C_below HR203_0.out Z9); (case side4 => exact HC203_0.out); rintro e w26 ⟨v206, rfl, ho0, hb⟩; refine ⟨_, rfl, ?_⟩; replace HO_11 := ZM (Kd.S_elder' Z33 (Kd.R_base ho0) hb); have HO207 := ZM (Kd.R_lower ho0 (zzS Z9)); replace BK204 := ZM (blk_below (g := gb204) (o := .cells #[.slice A203_0 ((rd_T24 l3 x22_1).f0).length c203_0, .int .i64 ((rd_T24 l3 x22_1).f1)] 24 (0, 0)) Z19 hb); replace HB := ZM (zzT Z9 hb); (try clear hb); (try clear hb2); (try clear hk); (try clear hi); (try clear ho0)) | ((with_reducible refine gate_builtin (b := .append) (xs := #[.tmp 45, .tmp 47]) rfl ?_); at_builtin; refine Kd.S_append (Kd.slice 2 (Kd.int .i64)) (w0 := w) w.heap.size rfl (.tmp 45) (.tmp 47) 33 22 (.slice none 0 0) 24 rfl Try.underlying33 info22 rfl (by decide) (by omega) u11 x11_1 ([] : List Int) [.slice none 0 0] (fun k_ => some k_ ≠ (v206 : Value).ownBlock) (fun _ => False) rfl rfl ?aP (fun k_ hk_ => hk_.elim) ?aF ?aO ?aB ?aS ?aL ?_; (case aP => exact Kd.M_row (Kd.R_nil _ _ _ _ _)); (case aB => exact Z9); (case aF => exact (fun k_ hk => Kd.fresh' (Kd.R_lt (Zr HO207)) k_ hk)); (case aO => exact (by (with_reducible repeat (first | apply Kd.S_alloc | apply Kd.S_drewN | apply Kd.S_drew)); exact Kd.S_mono HO_11.out (fun k_ hk => ⟨hk.2, fun e_ => e_⟩))); (case aS => exact (zzS Z9)); (case aL => have := LMc23.out; omega); intro v217 w27 ho hb hg hat; rw [← Ny216.out] at ho; replace BK204 := ZM (blk_grown (g := gb204) (o := .cells #[.slice A203_0 ((rd_T24 l3 x22_1).f0).length c203_0, .int .i64 ((rd_T24 l3 x22_1).f1)] 24 (0, 0)) (Zk BK204) hg (Kd.S_ne HO_11.out BK204.out (by decide))); replace HO207 := ZM (Kd.R_over' (Zr HO207) (Kd.S_typed Z27) (by decide) hg); have HO218 := ZM (ho); replace HB := ZM (hb); clear HO_11; clear ho hb hg hat))
    go_roundg k1
    case measure => have := HK1.out; omega
    case rel => exact ⟨(t208), (y216), (wrap64 (x22_1 + 1)), Z5, Z5, H', ⟨by have := HK1.out; omega⟩, ⟨by (with_reducible repeat (first | apply Kd.S_alloc | apply Kd.S_drewN | apply Kd.S_drew)); exact Kd.S_mono HO218.out (fun _ hk => trivial)⟩, ⟨by repeat (first | (with_reducible first | exact HB.out | apply zzA | apply zzN | apply zzD | refine below_set ?_ GE204.out) | exact HB.out)⟩⟩
   rw [if_pos c12] at H
   have c12b0 : (t208 == 0) = true := beq_iff_eq.mpr c12
   have c12b1 : (t208 != 0) = false := bne_eq_false_iff_eq.mpr c12
   clear c12
   replace H := Option.bind_eq_some_iff.mp H
   obtain ⟨⟨t209, t212⟩, A130, H⟩ := H
   replace H : (if x11_1.length < 5864062014805 then (soft_GradP.l0 k1 a0 l1 a2 l3 t212 (x11_1 ++ [t209]) l3 (l3.length : Int) (wrap64 (x22_1 + 1))) else (none)) = some (r1, r2) := H
   have A13 := ZM A130
   clear A130
   by_cases c14 : x11_1.length < 5864062014805
   case neg =>
    rw [if_neg c14] at H
    exact absurd H (by simp)
   rw [if_pos c14] at H
   have LMc14 := ZM c14
   clear c14
   obtain ⟨y213, hy213⟩ : ∃ y_ : List (List Int), y_ = (x11_1 ++ [t209]) := ⟨_, rfl⟩
   replace H : (soft_GradP.l0 k1 a0 l1 a2 l3 t212 y213 l3 (l3.length : Int) (wrap64 (x22_1 + 1))) = some (r1, r2) := by first | (rw [hy213]; with_reducible exact H) | (have H2_ := (Option.bind_some _ _).symm.trans H; rw [hy213]; with_reducible exact H2_) | (have H2_ := (Option.bind_some _ _).symm.trans H; with_reducible exact H2_) | with_reducible exact H | (rw [hy213]; exact H) | exact H
   have Ny213 := ZM hy213
   clear hy213
   have H' := ZM H
   clear H
   have p203 : 0 ≤ (x22_1 : Int) := of_decide_eq_true Z3
   have q203 : x22_1 < (l3.length : Int) := of_decide_eq_true Z3
   obtain ⟨ad203, A203_0, c203_0, e203, hx203_0, hx203_1, hl203_0, hi203_0⟩ := at_T24 HR3.out x22_1 p203 q203
   cases e203
   replace hx203_0 := (HB.out.cell (World.block_lt_of_cell? w _ hx203_0)).trans hx203_0
   replace hx203_1 := (HB.out.cell (World.block_lt_of_cell? w _ hx203_1)).trans hx203_1
   have HR203_0 := ZM hi203_0
   have HC203_0 := ZM hl203_0
   clear hi203_0 hl203_0
   replace p203 := eq_true p203
   replace q203 := eq_true q203
   go_wp2_with (first | ((with_reducible refine gate_dst (N := 13) rfl ?_); refine box_event ?hg (N := 13) ?hd (cs := #[.slice none 0 0, .int .i64 0]) (t := 24) ?hr ?_; (case hd => rfl); (case hg => rfl); (case hr => exact Z10); intro gb204 hg w15 hbox hb; replace HO_11 := ZM (Kd.S_below Z27 hb); have BK204 := ZM (hbox); have GW204 := ZM ((by rw [hg]; exact (zzS Z1) : w.heap.size ≤ gb204)); have GE204 := ZM ((by rw [hg]; exact (zzS Z1) : w.heap.size ≤ gb204)); replace HB := ZM (zzT Z1 hb); clear hb hbox hg; obtain ⟨hcz16_0, hcz16_1, hfz16_0, hfz16_1⟩ := Y2f BK204) | ((with_reducible refine gate_callee (f := 10) rfl ?_); refine goesL_ (some 33) rfl rfl Try.func10 (by kernel_rfl) rfl #[.int .i64 a0, .slice A1 l1.length c1, .agg #[.slice A203_0 ((rd_T24 l3 x22_1).f0).length c203_0, .int .i64 ((rd_T24 l3 x22_1).f1)], .int .i64 a2] rfl Z2 ?_; (with_reducible refine (soft_Off.calls a0 _ _ l1 _ _ ((rd_T24 l3 x22_1).f0) ((rd_T24 l3 x22_1).f1) a2 t205 t208 _ ?side1 ?side2 ?side3 ?side4 A11.out).mono ?_); (case side1 => exact Kd.C_below HR1.out Z9); (case side2 => exact HC1.out); (case side3 => exact Kd.C_below HR203_0.out Z9); (case side4 => exact HC203_0.out); rintro e w17 ⟨v206, rfl, ho0, hb⟩; refine ⟨_, rfl, ?_⟩; replace HO_11 := ZM (Kd.S_elder' Z33 (Kd.R_base ho0) hb); have HO207 := ZM (Kd.R_lower ho0 (zzS Z9)); replace BK204 := ZM (blk_below (g := gb204) (o := .cells #[.slice A203_0 ((rd_T24 l3 x22_1).f0).length c203_0, .int .i64 ((rd_T24 l3 x22_1).f1)] 24 (0, 0)) Z19 hb); replace HB := ZM (zzT Z9 hb); (try clear hb); (try clear hb2); (try clear hk); (try clear hi); (try clear ho0); obtain ⟨hcz18_0, hcz18_1, hfz18_0, hfz18_1⟩ := Y2f BK204; obtain ⟨Ao19, co19, eo19⟩ := Kd.R_slice HO207.out; subst eo19) | ((with_reducible refine gate_callee (f := 35) rfl ?_); refine goesL_ (some 42) rfl rfl Try.func35 (by kernel_rfl) rfl #[.agg #[.slice A203_0 ((rd_T24 l3 x22_1).f0).length c203_0, .int .i64 ((rd_T24 l3 x22_1).f1)], .slice Ao19 t205.length co19, .int .i64 a2] rfl Z2 ?_; (with_reducible refine (soft_bend.calls _ _ ((rd_T24 l3 x22_1).f0) ((rd_T24 l3 x22_1).f1) _ _ t205 a2 t209 t212 _ ?side1 ?side2 ?side3 ?side4 A13.out).mono ?_); (case side1 => repeat (first | exact (Kd.C_below HR203_0.out HB.out) | (with_reducible refine ccA ?_ _) | (with_reducible refine ccN ?_ _) | (with_reducible refine ccD ?_))); (case side2 => exact HC203_0.out); (case side3 => repeat (first | exact (Kd.R_reads' HO207.out).2.2 | (with_reducible refine ccA ?_ _) | (with_reducible refine ccN ?_ _) | (with_reducible refine ccD ?_))); (case side4 => exact (Kd.R_reads' HO207.out).2.1); rintro e w20 ⟨v210, rfl, ho0, hb⟩; refine ⟨_, rfl, ?_⟩; have n0_ := ZM (Kd.S_elder' Z27 (Kd.R_base ho0) hb); have n1_ := ZM (Kd.R_elder' (Zr HO207) (Kd.R_base ho0) hb); have n2_ := ZM (Kd.R_lower (Kd.R_new' ho0 (Kd.R_lt (Zr HO207))) (zzS Z9)); have n3_ := ZM (blk_below (g := gb204) (o := .cells #[.slice A203_0 ((rd_T24 l3 x22_1).f0).length c203_0, .int .i64 ((rd_T24 l3 x22_1).f1)] 24 (0, 0)) (Zk BK204) hb); have n4_ := ZM (zzT Z9 hb); clear HO_11; clear HO207; clear BK204; clear HB; have HO_11 := n0_; have HO207 := n1_; have HO211 := n2_; have BK204 := n3_; have HB := n4_; clear n0_ n1_ n2_ n3_ n4_; (try clear hb); (try clear hb2); (try clear hk); (try clear hi); (try clear ho0); obtain ⟨Ao22, co22, eo22⟩ := Kd.R_slice HO211.out; subst eo22) | ((with_reducible refine gate_builtin (b := .append) (xs := #[.tmp 45, .tmp 47]) rfl ?_); at_builtin; refine Kd.S_append (Kd.slice 2 (Kd.int .i64)) (w0 := w) w.heap.size rfl (.tmp 45) (.tmp 47) 33 22 (.slice none 0 0) 24 rfl Try.underlying33 info22 rfl (by decide) (by omega) u11 x11_1 t209 [.slice Ao22 t209.length co22] (fun k_ => some k_ ≠ (.slice Ao19 t205.length co19 : Value).ownBlock) (fun k_ => some k_ = (.slice Ao22 t209.length co22 : Value).ownBlock) rfl rfl ?aP (fun k_ hk_ => ((Kd.R_mono (ok' := fun k_ => ((fun k_ => some k_ ≠ (.slice Ao19 t205.length co19 : Value).ownBlock)) k_ ∧ some k_ ≠ (u11 : Value).ownBlock) (Kd.R_apart' (HO211.out) (Kd.S_typed HO_11.out) (by decide)) (fun k_ hk => ⟨hk.1.2, hk.2⟩))).1 k_ hk_.symm) ?aF ?aO ?aB ?aS ?aL ?_; (case aP => exact Kd.M_row (Kd.R_mono (Kd.R_tight rfl (Kd.R_mono (ok' := fun k_ => ((fun k_ => some k_ ≠ (.slice Ao19 t205.length co19 : Value).ownBlock)) k_ ∧ some k_ ≠ (u11 : Value).ownBlock) (Kd.R_apart' (HO211.out) (Kd.S_typed HO_11.out) (by decide)) (fun k_ hk => ⟨hk.1.2, hk.2⟩))) (fun _ h_ => h_))); (case aB => exact Z9); (case aF => exact (fun k_ hk => Kd.fresh' (Kd.R_lt (Zr HO207)) k_ hk)); (case aO => exact (by (with_reducible repeat (first | apply Kd.S_alloc | apply Kd.S_drewN | apply Kd.S_drew)); exact Kd.S_mono HO_11.out (fun k_ hk => ⟨hk.1.2, fun e_ => hk.2 e_⟩))); (case aS => exact (zzS Z9)); (case aL => have := LMc14.out; omega); intro v214 w21 ho hb hg hat; rw [← Ny213.out] at ho; replace BK204 := ZM (blk_grown (g := gb204) (o := .cells #[.slice A203_0 ((rd_T24 l3 x22_1).f0).length c203_0, .int .i64 ((rd_T24 l3 x22_1).f1)] 24 (0, 0)) (Zk BK204) hg (Kd.S_ne HO_11.out BK204.out (by decide))); replace HO207 := ZM (Kd.R_over' (Zr HO207) (Kd.S_typed Z27) (by decide) hg); have HO215 := ZM (ho); replace HB := ZM (hb); clear HO_11 HO211; clear ho hb hg hat))
   go_roundg k1
   case measure => have := HK1.out; omega
   case rel => exact ⟨(t212), (y213), (wrap64 (x22_1 + 1)), Z5, Z5, H', ⟨by have := HK1.out; omega⟩, ⟨by (with_reducible repeat (first | apply Kd.S_alloc | apply Kd.S_drewN | apply Kd.S_drew)); exact Kd.S_mono HO215.out (fun _ hk => trivial)⟩, ⟨by repeat (first | (with_reducible first | exact HB.out | apply zzA | apply zzN | apply zzD | refine below_set ?_ GE204.out) | exact HB.out)⟩⟩
def soft_Grad.f (a0 : Int) (l1 : List Int) (a2 : Int) (l3 : List S24) : Option (List Int × Int) := if V64 l1 ∧ (∀ s ∈ l3, Sm64 s) ∧ l3.length ≤ 1000000 then some (gradS a0 l1 a2 (l3.map sm)) else none
theorem soft_Grad.of (a0 : Int) (l1 : List Int) (a2 : Int) (l3 : List S24)  (h_ : V64 l1 ∧ (∀ s ∈ l3, Sm64 s) ∧ l3.length ≤ 1000000) : soft_Grad.f a0 l1 a2 l3 = some (gradS a0 l1 a2 (l3.map sm)) := if_pos h_
theorem soft_GradP.bad (o : Int) (w : List Int) (f : Int) (l : List S24) (e : Int) (he : e ≠ 0) (hb : l.length ≤ 1000000) : ∀ (d i : Nat) (acc : List (List Int)), d + i = l.length → acc.length ≤ i →
    soft_GradP.l0 (d + 1) o w f l e acc l (l.length : Int) (i : Int) = some ([], e) := by
  intro d
  induction d with
  | zero => intro i acc hd ha; rw [soft_GradP.l0, if_neg (by omega), if_neg he]
  | succ d ih =>
    intro i acc hd ha
    rw [soft_GradP.l0, if_pos (by omega), if_pos (by omega), if_pos (by omega), if_neg he, if_pos (by omega), wrap64_of (by unfold I64; omega), show (i : Int) + 1 = ((i + 1 : Nat) : Int) by omega, ih (i + 1) _ (by omega) Z41]
theorem soft_GradP.good (o : Int) (w : List Int) (f : Int) (l : List S24) (hw : V64 w) (hs : ∀ s ∈ l, Sm64 s) (hx : ∀ s ∈ l, s.f0.length ≤ 16) (hb : l.length ≤ 64) : ∀ (d i : Nat) (acc : List (List Int)), d + i = l.length → acc.length ≤ i → (∀ v ∈ acc, V64 v ∧ v.length ≤ 136) →
    soft_GradP.l0 (d + 1) o w f l 0 acc l (l.length : Int) (i : Int) = some (if (rowsFrom (fun s : S24 => bendS o w f (sm s)) (l.drop i) acc).2 = 0 then meanL l.length (rowsFrom (fun s : S24 => bendS o w f (sm s)) (l.drop i) acc).1 else ([], (rowsFrom (fun s : S24 => bendS o w f (sm s)) (l.drop i) acc).2)) := by
  intro d
  induction d with
  | zero =>
    intro i acc hd ha hv
    rw [soft_GradP.l0, if_neg (by omega), if_pos rfl, List.drop_eq_nil_of_le (by omega), rowsFrom_nil, linear_Mean.of _ _ ⟨by unfold I64; omega, fun v h => (hv v h).1, List.all_eq_true.2 fun v h => decide_eq_true (by have := (hv v h).2; omega)⟩]
    rfl
  | succ d ih =>
    intro i acc hd ha hv
    have hi : i < l.length := by omega
    have hm := List.getElem_mem hi
    have h1 := hs _ hm
    have hbd : bendS o w f (sm l[i]) = if (offS o w l[i].f0 l[i].f1 f).2 = 0 then bendRows l[i].f0 f (offS o w l[i].f0 l[i].f1 f).1 else ([], (offS o w l[i].f0 l[i].f1 f).2) := rfl
    have hbg := bendS_good o w f (sm l[i])
    have hxl : (sm l[i]).1.length ≤ 16 := hx _ hm
    rw [soft_GradP.l0, if_pos (by omega), if_pos (by omega), if_pos (by omega), if_pos rfl, rd_sm hi, soft_Off.of _ _ _ _ _ ⟨hw, h1.1⟩, Option.bind_some, List.drop_eq_getElem_cons hi]
    by_cases c : (offS o w l[i].f0 l[i].f1 f).2 = 0
    · rw [if_pos c] at hbd
      obtain ⟨hl, h2, h8, hov⟩ := offS_good c
      rw [if_pos c, soft_bend.of _ _ _ _ ⟨h1.1, hov, by omega⟩, Option.bind_some, if_pos (by omega), wrap64_of (by unfold I64; omega), show (i : Int) + 1 = ((i + 1 : Nat) : Int) by omega]
      by_cases c2 : (bendRows l[i].f0 f (offS o w l[i].f0 l[i].f1 f).1).2 = 0
      · rw [c2, rowsFrom_ok (g := fun s : S24 => bendS o w f (sm s)) (by simp only [hbd]; exact c2)]
        simp only [hbd]
        rw [hbd] at hbg
        refine ih (i + 1) _ (by omega) Z41 ?_
        intro v hv'
        rcases List.mem_append.1 hv' with e | e
        · exact hv v e
        · rw [List.mem_singleton.1 e]; exact ⟨hbg.1, by have := hbg.2; omega⟩
      · rw [soft_GradP.bad o w f l _ c2 (by omega) d (i + 1) _ (by omega) Z41, rowsFrom_bad (g := fun s : S24 => bendS o w f (sm s)) (by simp only [hbd]; exact c2)]
        simp only [hbd, if_neg c2]
    · rw [if_neg c] at hbd
      rw [if_neg c, if_pos (by omega), wrap64_of (by unfold I64; omega), show (i : Int) + 1 = ((i + 1 : Nat) : Int) by omega, soft_GradP.bad o w f l _ c (by omega) d (i + 1) _ (by omega) Z41, rowsFrom_bad (g := fun s : S24 => bendS o w f (sm s)) (by simp only [hbd]; exact c)]
      simp only [hbd, if_neg c]
theorem rowsL_smS (o : Int) (w : List Int) (f : Int) : ∀ l : List S24, rowsL (bendS o w f) (l.map sm) = rowsL (fun s => bendS o w f (sm s)) l
  | [] => rfl
  | x :: l => by simp only [List.map_cons, rowsL, rowsL_smS o w f l]
theorem soft_GradP.is (o : Int) (w : List Int) (f : Int) (l : List S24) (hw : V64 w) (hs : ∀ s ∈ l, Sm64 s) (hb : l.length ≤ 1000000) : soft_GradP.f (l.length + 1) o w f l = some (gradS o w f (l.map sm)) := by
  unfold soft_GradP.f gradS soft_fits.f
  rw [Option.bind_some]
  by_cases c : fitS o w (l.map sm) = 0
  · obtain ⟨h1, h2⟩ := fitS_ok c
    rw [List.length_map] at h1
    have hk := soft_GradP.good o w f l hw hs (fun s h => h2 (sm s) (List.mem_map_of_mem h)) h1 l.length 0 [] (by omega) (by simp) (fun v hv => by cases hv)
    rw [List.drop_zero, rowsFrom_start, show ((0 : Nat) : Int) = 0 from rfl] at hk
    rw [c, if_pos rfl, List.length_map, rowsL_smS]
    exact hk
  · have hk := soft_GradP.bad o w f l _ c hb l.length 0 [] (by omega) (by simp)
    rw [show ((0 : Nat) : Int) = 0 from rfl] at hk
    rw [if_neg c, hk]
theorem soft_Grad.calls (a0 : Int) (A1 : Option Addr) (c1 : Nat) (l1 : List Int) (a2 : Int) (A3 : Option Addr) (c3 : Nat) (l3 : List (S24)) (r1 : List Int) (r2 : Int) (w : World) (hr1 : Kd.C (Kd.int .i64) w A1 l1.length l1) (hc1 : l1.length ≤ c1) (hr3 : Kd.C k24 w A3 l3.length l3) (hc3 : l3.length ≤ c3) (h : soft_Grad.f a0 l1 a2 l3 = some (r1, r2)) :
    Calls Try.prog 20 #[.int .i64 a0, .slice A1 l1.length c1, .int .i64 a2, .slice A3 l3.length c3] w fun e w' => ∃ v0_ : Value, e = .returned (.tuple #[v0_, .int .i64 r2]) ∧ Kd.R (Kd.int .i64) 2 w' w.heap.size (fun _ => True) v0_ r1 ∧ Below w.heap.size w w' := by
  unfold soft_Grad.f at h
  split at h
  case isFalse => cases h
  rename_i hv
  exact soft_GradP.calls (l3.length + 1) a0 A1 c1 l1 a2 A3 c3 l3 r1 r2 w hr1 hc1 hr3 hc3 ((soft_GradP.is a0 l1 a2 l3 hv.1 hv.2.1 hv.2.2).trans h)


end Go.Proofs.Ytihgcjagokippaa.HS
