/- What Go functions do, each as a plain Lean function with the same answers, and the proof of it, in every world: printed by the session's driver over the kit's print, with texts by hand. -/
import Derived.Test.YtfbdalnjijdknaaHLx0
import Derived.Test.YtfbdalnjijdknaaHLx14
import Derived.Test.YtfbdalnjijdknaaHLx16
namespace Go.Proofs.Ytfbdalnjijdknaa.HL
open Go.RowKit Go.Proofs.YtfbdalnjijdknaaW.PrintWords Go.Proofs.YtfbdalnjijdknaaW.PrintLast Go.Proofs.YtfbdalnjijdknaaW.PrintMore
attribute [local go_sem] max2_int min2_int max_two min_two max_three min_three max_four min_four   -- for this text's walks alone
open Go.Proofs.Ytfbdalnjijdknaa.Sp
attribute [local go_sem] Go.Proofs.Ytfbdalnjijdknaa.Sp.u64_not
set_option linter.unusedVariables false
set_option linter.unusedSimpArgs false

/-! ### thrumref14_MeanP: function 66 -/
def thrumref14_MeanP.l0 : Nat → Int → List Int → List Int → Int → Int → Option (List Int × Int)
 | 0, _, _, _, _, _ => none
 | k + 1, x0, x8, x23, x24, x25 => if x25 < x24 then (if 0 ≤ x25 then (if x25 < (x23.length : Int) then ((thrumref01_Quot.f (rd x23 x25) x0).bind fun bt234 => (if bt234.2 = 0 then (if x8.length < 17592186044416 then (thrumref14_MeanP.l0 k x0 (x8 ++ [bt234.1]) x23 x24 (wrap64 (x25 + 1))) else (none)) else (some (([] : List Int), bt234.2)))) else (none)) else (none)) else (some (x8, 0))
def thrumref14_MeanP.f (k : Nat) (a0 : Int) (l1 : List (List Int)) : Option (List Int × Int) := if a0 < 1 then (some (([] : List Int), 1)) else ((thrumref02_Sum.f l1).bind fun bt229 => (if bt229.2 = 0 then (thrumref14_MeanP.l0 k a0 ([] : List Int) bt229.1 (bt229.1.length : Int) 0) else (some (([] : List Int), bt229.2))))
theorem thrumref14_MeanP.mono_l : ∀ k, (∀ y0 y1 y2 y3 y4, LeO (thrumref14_MeanP.l0 k y0 y1 y2 y3 y4) (thrumref14_MeanP.l0 (k + 1) y0 y1 y2 y3 y4))
 | 0 => fun _ _ _ _ _ r h => by simp [thrumref14_MeanP.l0] at h
 | k + 1 => by
  have ih0 := thrumref14_MeanP.mono_l k
  ·
   intro y0 y1 y2 y3 y4
   unfold thrumref14_MeanP.l0
   repeat' first
   | (with_reducible exact ih0 _ _ _ _ _)
   | (with_reducible exact LeO.refl _)
   | (with_reducible exact LeO.none _)
   | (with_reducible refine LeO.ite ?_ ?_)
   | (with_reducible refine LeO.bind ?_ (fun _ => ?_))
   | exact ih0 _ _ _ _ _
   | exact LeO.none _
   | refine LeO.ite ?_ ?_
   | refine LeO.bind ?_ (fun _ => ?_)
theorem thrumref14_MeanP.mono : ∀ a0 a1 k, LeO (thrumref14_MeanP.f k a0 a1) (thrumref14_MeanP.f (k + 1) a0 a1) := by
 intro a0 a1 k
 have ih0 := thrumref14_MeanP.mono_l k
 unfold thrumref14_MeanP.f
 repeat' first
   | (with_reducible exact ih0 _ _ _ _ _)
   | (with_reducible exact LeO.refl _)
   | (with_reducible exact LeO.none _)
   | (with_reducible refine LeO.ite ?_ ?_)
   | (with_reducible refine LeO.bind ?_ (fun _ => ?_))
   | exact ih0 _ _ _ _ _
   | exact LeO.none _
   | refine LeO.ite ?_ ?_
   | refine LeO.bind ?_ (fun _ => ?_)
set_option maxHeartbeats 8000000 in
set_option maxRecDepth 100000 in
theorem thrumref14_MeanP.calls (k : Nat) (a0 : Int) (A1 : Option Addr) (c1 : Nat) (l1 : List (List Int)) (r1 : List Int) (r2 : Int) (w : World) (hr1 : Kd.C (Kd.slice 2 (Kd.int .i64)) w A1 l1.length l1) (hc1 : l1.length ≤ c1) (h : thrumref14_MeanP.f k a0 l1 = some (r1, r2)) :
  Calls Try.prog 66 #[.int .i64 a0, .slice A1 l1.length c1] w fun e w' => ∃ v0_ : Value, e = .returned (.tuple #[v0_, .int .i64 r2]) ∧ Kd.R (Kd.int .i64) 2 w' w.heap.size (fun _ => True) v0_ r1 ∧ Below w.heap.size w w' := by
 have HR1 := Aside0.mk hr1
 have HC1 := Aside0.mk hc1
 clear hr1 hc1
 have HB := Aside0.mk (Below.refl w.heap.size w)
 have H : (if a0 < 1 then (some (([] : List Int), 1)) else ((thrumref02_Sum.f l1).bind fun bt229 => (if bt229.2 = 0 then (thrumref14_MeanP.l0 k a0 ([] : List Int) bt229.1 (bt229.1.length : Int) 0) else (some (([] : List Int), bt229.2))))) = some (r1, r2) := h
 clear h
 by_cases c3 : a0 < 1
 ·
  rw [if_pos c3] at H
  have c3b0 : decide (a0 < 1) = true := decide_eq_true c3
  clear c3
  simp only [Option.some.injEq, Prod.mk.injEq] at H
  obtain ⟨rfl, rfl⟩ := H
  go_enter Try.func66, Try.ntmps66
  go_wp2
  go_ret2
  exact ⟨_, by first | rfl | (simp [errW_none, errW_some] <;> rfl) | (simp [*, errW_none, errW_some] <;> rfl), by first | exact Kd.R_nil _ _ _ _ _ | exact Kd.N_nil _ _ _ _ _ | exact Kd.V_nil _ _ _ _ _ | exact Kd.Q_nil _ _ _ _ _ | exact Kd.S_nil _ _ _ _ _, by repeat (first | (with_reducible first | exact HB.out | apply zzA | apply zzN | apply zzD) | exact HB.out)⟩
 ·
  rw [if_neg c3] at H
  have c3b0 : decide (a0 < 1) = false := decide_eq_false c3
  clear c3
  replace H := Option.bind_eq_some_iff.mp H
  obtain ⟨⟨t229, t230⟩, A40, H⟩ := H
  replace H : (if t230 = 0 then (thrumref14_MeanP.l0 k a0 ([] : List Int) t229 (t229.length : Int) 0) else (some (([] : List Int), t230))) = some (r1, r2) := H
  have A4 := Aside0.mk A40
  clear A40
  by_cases c5 : t230 = 0
  ·
   rw [if_pos c5] at H
   have c5b0 : (t230 == 0) = true := beq_iff_eq.mpr c5
   have c5b1 : (t230 != 0) = false := bne_eq_false_iff_eq.mpr c5
   clear c5
   have H' := Aside0.mk H
   clear H
   go_enter Try.func66, Try.ntmps66
   go_wp2_with (first | ((with_reducible refine gate_callee (f := 125) rfl ?_); refine goesL_ (some 17) rfl rfl Try.func125 (by kernel_rfl) rfl #[.slice A1 l1.length c1] rfl (by (try simp only [List.map_toArray, List.map_cons, List.map_nil]); first | done | rfl | (simp only [List.length_drop, List.length_take]; rfl)) ?_; (with_reducible refine (thrumref02_Sum.calls _ _ l1 t229 t230 _ ?side1 ?side2 A4.out).mono ?_); (case side1 => repeat (first | exact HR1.out | (with_reducible refine ccA ?_ _) | (with_reducible refine ccN ?_ _) | (with_reducible refine ccD ?_))); (case side2 => exact HC1.out); rintro e w6 ⟨v231, rfl, ho0, hb⟩; refine ⟨_, rfl, ?_⟩; have n0_ := Aside0.mk (Kd.R_lower ho0 (zzS (by repeat (first | (with_reducible first | exact HB.out | apply zzA | apply zzN | apply zzD) | exact HB.out)))); have n1_ := Aside0.mk (zzT (by repeat (first | (with_reducible first | exact HB.out | apply zzA | apply zzN | apply zzD) | exact HB.out)) hb); clear HB; have HO232 := n0_; have HB := n1_; clear n0_ n1_; (try clear hb); (try clear hb2); (try clear hk); (try clear hi); (try clear ho0); obtain ⟨Ao7, co7, eo7⟩ := Kd.R_slice HO232.out; subst eo7))
   go_loopg [8, 25] k (fun kq v8 v25 w' => ∃ (x8_1 : List Int) (x25_1 : Int), v25 = .int .i64 x25_1 ∧ Aside0 (thrumref14_MeanP.l0 kq a0 x8_1 t229 (t229.length : Int) x25_1 = some (r1, r2)) ∧ Aside0 (kq ≤ k) ∧ Aside0 (Kd.R (Kd.int .i64) 2 w' w.heap.size (fun k_ => some k_ ≠ ((.slice Ao7 t229.length co7) : Value).ownBlock) v8 x8_1) ∧ Aside0 (Kd.R (Kd.int .i64) 2 w' w.heap.size (fun k_ => some k_ ≠ (v8 : Value).ownBlock) (.slice Ao7 t229.length co7) t229) ∧ Aside0 (Below w.heap.size w w'))
   case atStart => exact ⟨(([] : List Int)), (0), (by first | rfl | (simp; done) | (simp [*]; done)), H', ⟨Nat.le_refl _⟩, ⟨by first | exact Kd.R_nil _ _ _ _ _ | exact Kd.N_nil _ _ _ _ _ | exact Kd.V_nil _ _ _ _ _ | exact Kd.Q_nil _ _ _ _ _ | exact Kd.S_nil _ _ _ _ _⟩, ⟨by (with_reducible repeat (first | apply rrA | apply rrN | apply rrD)); exact Kd.R_mono HO232.out (fun _ hk => (by simp [Value.ownBlock]))⟩, ⟨by repeat (first | (with_reducible first | exact HB.out | apply zzA | apply zzN | apply zzD) | exact HB.out)⟩⟩
   case round =>
    clear H'
    try clear c1
    try clear p2
    try clear c3
    try clear c3b0
    try clear c5
    try clear c5b0
    try clear c5b1
    try clear c6
    obtain ⟨x8_1, x25_1, rfl, HA, HK1, HO_8, HO_23, HB⟩ := hrel
    cases gk with
    | zero => exact absurd HA.out (by simp [thrumref14_MeanP.l0])
    | succ k1 =>
     have H := HA.out
     clear HA
     simp only [thrumref14_MeanP.l0] at H
     by_cases c8 : x25_1 < (t229.length : Int)
     ·
      rw [if_pos c8] at H
      have c8b0 : decide (x25_1 < (t229.length : Int)) = true := decide_eq_true c8
      clear c8
      by_cases c9 : 0 ≤ x25_1
      ·
       rw [if_pos c9] at H
       have c9b0 : decide (0 ≤ x25_1) = true := decide_eq_true c9
       clear c9
       by_cases c10 : x25_1 < (t229.length : Int)
       ·
        rw [if_pos c10] at H
        have c10b0 : decide (x25_1 < (t229.length : Int)) = true := decide_eq_true c10
        clear c10
        replace H := Option.bind_eq_some_iff.mp H
        obtain ⟨⟨t234, t235⟩, A110, H⟩ := H
        replace H : (if t235 = 0 then (if x8_1.length < 17592186044416 then (thrumref14_MeanP.l0 k1 a0 (x8_1 ++ [t234]) t229 (t229.length : Int) (wrap64 (x25_1 + 1))) else (none)) else (some (([] : List Int), t235))) = some (r1, r2) := H
        have A11 := Aside0.mk A110
        clear A110
        by_cases c12 : t235 = 0
        ·
         rw [if_pos c12] at H
         have c12b0 : (t235 == 0) = true := beq_iff_eq.mpr c12
         have c12b1 : (t235 != 0) = false := bne_eq_false_iff_eq.mpr c12
         clear c12
         by_cases c13 : x8_1.length < 17592186044416
         ·
          rw [if_pos c13] at H
          have LMc13 := Aside0.mk c13
          clear c13
          obtain ⟨y236, hy236⟩ : ∃ y_ : List Int, y_ = (x8_1 ++ [t234]) := ⟨_, rfl⟩
          replace H : (thrumref14_MeanP.l0 k1 a0 y236 t229 (t229.length : Int) (wrap64 (x25_1 + 1))) = some (r1, r2) := by first | (rw [hy236]; with_reducible exact H) | (have H2_ := (Option.bind_some _ _).symm.trans H; rw [hy236]; with_reducible exact H2_) | (have H2_ := (Option.bind_some _ _).symm.trans H; with_reducible exact H2_) | with_reducible exact H | (rw [hy236]; exact H) | exact H
          have Ny236 := Aside0.mk hy236
          clear hy236
          have H' := Aside0.mk H
          clear H
          have p233 : 0 ≤ (x25_1 : Int) := of_decide_eq_true (by first | (with_reducible assumption) | assumption)
          have q233 : x25_1 < (t229.length : Int) := of_decide_eq_true (by first | (with_reducible assumption) | assumption)
          obtain ⟨ad233, e233, hx233_0⟩ := Kd.at_int (Kd.R_reads' HO_23.out).2.2 x25_1 p233 q233
          cases e233
          replace p233 := eq_true p233
          replace q233 := eq_true q233
          go_wp2_with (first | ((with_reducible refine gate_callee (f := 126) rfl ?_); refine goesL_ (some 32) rfl rfl Try.func126 (by kernel_rfl) rfl #[.int .i64 (rd t229 x25_1), .int .i64 a0] rfl (by (try simp only [List.map_toArray, List.map_cons, List.map_nil]); first | done | rfl | (simp only [List.length_drop, List.length_take]; rfl)) ?_; (with_reducible refine (thrumref01_Quot.calls (rd t229 x25_1) a0 t234 t235 _ A11.out).mono ?_); rintro e w' ⟨rfl, ⟨nd, rfl⟩⟩; refine ⟨_, rfl, ?_⟩) | ((with_reducible refine gate_builtin (b := .append) (xs := #[.tmp 38, .tmp 40]) rfl ?_); at_builtin; refine Kd.R_append (Kd.int .i64) (w0 := w) w.heap.size rfl (.tmp 38) (.tmp 40) 22 2 (.int .i64 0) 8 rfl Try.underlying22 info2 rfl (by decide) (by omega) u8 x8_1 t234 [.int .i64 t234] (fun k_ => some k_ ≠ (.slice (some ad233) t229.length co7 : Value).ownBlock) (fun _ => False) rfl rfl ?aP (fun _ hk => hk.elim) ?aF ?aO ?aB ?aS ?aL ?_; (case aP => exact rfl); (case aB => exact (by repeat (first | (with_reducible first | exact HB.out | apply zzA | apply zzN | apply zzD) | exact HB.out))); (case aF => exact (fun k_ hk => Kd.fresh' (Kd.R_lt (by (with_reducible repeat (first | apply rrA | apply rrN | apply rrD)); exact HO_23.out)) k_ hk)); (case aO => exact (by (with_reducible repeat (first | apply rrA | apply rrN | apply rrD)); exact HO_8.out)); (case aS => exact (zzS (by repeat (first | (with_reducible first | exact HB.out | apply zzA | apply zzN | apply zzD) | exact HB.out)))); (case aL => have := LMc13.out; omega); intro v237 w14 ho hb hg hat; rw [← Ny236.out] at ho; have n0_ := Aside0.mk (Kd.R_after (ok := (fun _ => True)) (by (with_reducible repeat (first | apply rrA | apply rrN | apply rrD)); exact Kd.R_mono HO_23.out (fun _ hk => ⟨trivial, hk⟩)) hg hat); have n1_ := Aside0.mk (hb); have n2_ := Aside0.mk (ho); clear HO_23; clear HB; clear HO_8; have HO_23 := n0_; have HB := n1_; have HO238 := n2_; clear n0_ n1_ n2_; clear ho hb hg hat))
          go_roundg k1
          case measure => have := HK1.out; omega
          case rel => exact ⟨(y236), (wrap64 (x25_1 + 1)), (by first | rfl | (simp; done) | (simp [*]; done)), H', ⟨by have := HK1.out; omega⟩, ⟨by (with_reducible repeat (first | apply rrA | apply rrN | apply rrD)); exact HO238.out⟩, ⟨by (with_reducible repeat (first | apply rrA | apply rrN | apply rrD)); exact Kd.R_mono HO_23.out (fun _ hk => hk.2)⟩, ⟨by repeat (first | (with_reducible first | exact HB.out | apply zzA | apply zzN | apply zzD) | exact HB.out)⟩⟩
         ·
          rw [if_neg c13] at H
          exact absurd H (by simp)
        ·
         rw [if_neg c12] at H
         have c12b0 : (t235 == 0) = false := beq_eq_false_iff_ne.mpr c12
         have c12b1 : (t235 != 0) = true := bne_iff_ne.mpr c12
         simp only [Option.some.injEq, Prod.mk.injEq] at H
         obtain ⟨rfl, rfl⟩ := H
         have p233 : 0 ≤ (x25_1 : Int) := of_decide_eq_true (by first | (with_reducible assumption) | assumption)
         have q233 : x25_1 < (t229.length : Int) := of_decide_eq_true (by first | (with_reducible assumption) | assumption)
         obtain ⟨ad233, e233, hx233_0⟩ := Kd.at_int (Kd.R_reads' HO_23.out).2.2 x25_1 p233 q233
         cases e233
         replace p233 := eq_true p233
         replace q233 := eq_true q233
         go_wp2_with (first | ((with_reducible refine gate_callee (f := 126) rfl ?_); refine goesL_ (some 32) rfl rfl Try.func126 (by kernel_rfl) rfl #[.int .i64 (rd t229 x25_1), .int .i64 a0] rfl (by (try simp only [List.map_toArray, List.map_cons, List.map_nil]); first | done | rfl | (simp only [List.length_drop, List.length_take]; rfl)) ?_; (with_reducible refine (thrumref01_Quot.calls (rd t229 x25_1) a0 t234 t235 _ A11.out).mono ?_); rintro e w' ⟨rfl, ⟨nd, rfl⟩⟩; refine ⟨_, rfl, ?_⟩))
         go_ret2
         exact ⟨_, by first | rfl | (simp [errW_none, errW_some] <;> rfl) | (simp [*, errW_none, errW_some] <;> rfl), by first | exact Kd.R_nil _ _ _ _ _ | exact Kd.N_nil _ _ _ _ _ | exact Kd.V_nil _ _ _ _ _ | exact Kd.Q_nil _ _ _ _ _ | exact Kd.S_nil _ _ _ _ _, by repeat (first | (with_reducible first | exact HB.out | apply zzA | apply zzN | apply zzD) | exact HB.out)⟩
       ·
        rw [if_neg c10] at H
        exact absurd H (by simp)
      ·
       rw [if_neg c9] at H
       exact absurd H (by simp)
     ·
      rw [if_neg c8] at H
      have c8b0 : decide (x25_1 < (t229.length : Int)) = false := decide_eq_false c8
      clear c8
      simp only [Option.some.injEq, Prod.mk.injEq] at H
      obtain ⟨rfl, rfl⟩ := H
      go_wp2
      go_ret2
      exact ⟨_, by first | rfl | (simp [errW_none, errW_some] <;> rfl) | (simp [*, errW_none, errW_some] <;> rfl), by (with_reducible repeat (first | apply rrA | apply rrN | apply rrD)); exact Kd.R_mono HO_8.out (fun _ hk => trivial), by repeat (first | (with_reducible first | exact HB.out | apply zzA | apply zzN | apply zzD) | exact HB.out)⟩
  ·
   rw [if_neg c5] at H
   have c5b0 : (t230 == 0) = false := beq_eq_false_iff_ne.mpr c5
   have c5b1 : (t230 != 0) = true := bne_iff_ne.mpr c5
   simp only [Option.some.injEq, Prod.mk.injEq] at H
   obtain ⟨rfl, rfl⟩ := H
   go_enter Try.func66, Try.ntmps66
   go_wp2_with (first | ((with_reducible refine gate_callee (f := 125) rfl ?_); refine goesL_ (some 17) rfl rfl Try.func125 (by kernel_rfl) rfl #[.slice A1 l1.length c1] rfl (by (try simp only [List.map_toArray, List.map_cons, List.map_nil]); first | done | rfl | (simp only [List.length_drop, List.length_take]; rfl)) ?_; (with_reducible refine (thrumref02_Sum.calls _ _ l1 t229 t230 _ ?side1 ?side2 A4.out).mono ?_); (case side1 => repeat (first | exact HR1.out | (with_reducible refine ccA ?_ _) | (with_reducible refine ccN ?_ _) | (with_reducible refine ccD ?_))); (case side2 => exact HC1.out); rintro e w15 ⟨v231, rfl, ho0, hb⟩; refine ⟨_, rfl, ?_⟩; have n0_ := Aside0.mk (Kd.R_lower ho0 (zzS (by repeat (first | (with_reducible first | exact HB.out | apply zzA | apply zzN | apply zzD) | exact HB.out)))); have n1_ := Aside0.mk (zzT (by repeat (first | (with_reducible first | exact HB.out | apply zzA | apply zzN | apply zzD) | exact HB.out)) hb); clear HB; have HO232 := n0_; have HB := n1_; clear n0_ n1_; (try clear hb); (try clear hb2); (try clear hk); (try clear hi); (try clear ho0)))
   go_ret2
   exact ⟨_, by first | rfl | (simp [errW_none, errW_some] <;> rfl) | (simp [*, errW_none, errW_some] <;> rfl), by first | exact Kd.R_nil _ _ _ _ _ | exact Kd.N_nil _ _ _ _ _ | exact Kd.V_nil _ _ _ _ _ | exact Kd.Q_nil _ _ _ _ _ | exact Kd.S_nil _ _ _ _ _, by repeat (first | (with_reducible first | exact HB.out | apply zzA | apply zzN | apply zzD) | exact HB.out)⟩

theorem thrumref14_MeanP.loop (x0 : Int) (hx0 : I64 x0) (s : List Int) (hs : V64 s) (hb : s.length ≤ 4096) : ∀ (d i : Nat) (acc : List Int), d + i = s.length → acc.length ≤ i →
    thrumref14_MeanP.l0 (d + 1) x0 acc s (s.length : Int) (i : Int) = some (seqFrom (fun x => divF x x0 0) (s.drop i) acc) := by
  intro d
  induction d with
  | zero =>
    intro i acc hd ha
    rw [thrumref14_MeanP.l0, if_neg (by omega), List.drop_eq_nil_of_le (by omega), seqFrom_nil]
  | succ d ih =>
    intro i acc hd ha
    have hi : i < s.length := by omega
    rw [thrumref14_MeanP.l0, if_pos (by omega), if_pos (by omega), if_pos (by omega), show rd s (i : Int) = s[i] from rd_nat hi, thrumref01_Quot.of _ _ ⟨hs _ (List.getElem_mem hi), hx0⟩, List.drop_eq_getElem_cons hi]
    simp only [Option.bind_some]
    by_cases c : (divF s[i] x0 0).2 = 0
    · rw [if_pos c, if_pos (by omega), seqFrom_ok (g := fun x => divF x x0 0) c, wrap64_of (by unfold I64; omega), show (i : Int) + 1 = ((i + 1 : Nat) : Int) by omega]
      exact ih (i + 1) _ (by omega) (by simp; omega)
    · rw [if_neg c, seqFrom_bad (g := fun x => divF x x0 0) c]
def thrumref14_Mean.f (a0 : Int) (l1 : List (List Int)) : Option (List Int × Int) := if I64 a0 ∧ ∀ v ∈ l1, V64 v then some (meanL a0 l1) else none
theorem thrumref14_Mean.of (a0 : Int) (l1 : List (List Int)) (h : I64 a0 ∧ ∀ v ∈ l1, V64 v) : thrumref14_Mean.f a0 l1 = some (meanL a0 l1) := if_pos h
theorem thrumref14_Mean.calls (a0 : Int) (A1 : Option Addr) (c1 : Nat) (l1 : List (List Int)) (r1 : List Int) (r2 : Int) (w : World) (hr1 : Kd.C (Kd.slice 2 (Kd.int .i64)) w A1 l1.length l1) (hc1 : l1.length ≤ c1) (h : thrumref14_Mean.f a0 l1 = some (r1, r2)) :
    Calls Try.prog 66 #[.int .i64 a0, .slice A1 l1.length c1] w fun e w' => ∃ v0_ : Value, e = .returned (.tuple #[v0_, .int .i64 r2]) ∧ Kd.R (Kd.int .i64) 2 w' w.heap.size (fun _ => True) v0_ r1 ∧ Below w.heap.size w w' := by
  unfold thrumref14_Mean.f at h
  split at h
  case isFalse => cases h
  rename_i hv
  refine thrumref14_MeanP.calls (4097 + 1) a0 A1 c1 l1 r1 r2 w hr1 hc1 (Eq.trans ?_ h)
  unfold thrumref14_MeanP.f meanL
  by_cases c : a0 < 1
  · rw [if_pos c, if_pos c]
  · rw [if_neg c, if_neg c, show thrumref02_Sum.f l1 = some (sumsV l1) from if_pos hv.2]
    simp only [Option.bind_some]
    by_cases d : (sumsV l1).2 = 0
    · rw [if_pos d, if_pos d, ← seqFrom_start]
      have hl := sumsV_lle l1
      have hk := thrumref14_MeanP.loop a0 hv.1 (sumsV l1).1 (sumsV_v64 l1 hv.2) hl (sumsV l1).1.length 0 [] (by omega) (by simp)
      have hm := leO_mono (F := fun k => thrumref14_MeanP.l0 k a0 [] (sumsV l1).1 ((sumsV l1).1.length : Int) 0) (fun k => thrumref14_MeanP.mono_l k _ _ _ _ _) (show (sumsV l1).1.length + 1 ≤ 4098 by omega) hk
      exact hm
    · rw [if_neg d, if_neg d]




















































































































































































































































































































































































































































































































































end Go.Proofs.Ytfbdalnjijdknaa.HL
