/- What Go functions do, each as a plain Lean function with the same answers, and the proof of it, in every world: printed by the session's driver over the kit's print, with texts by hand. -/
import Derived.Test.YtalamamjodihaaaHOx0
import Derived.Test.YtalamamjodihaaaHOx9
import Derived.Test.YtalamamjodihaaaHOx10
import Derived.Test.YtalamamjodihaaaHOx11
namespace Go.Proofs.Ytalamamjodihaaa.HO
open Go.RowKit Go.Proofs.YtalamamjodihaaaW.PrintWords Go.Proofs.YtalamamjodihaaaW.PrintLast Go.Proofs.YtalamamjodihaaaW.PrintMore
attribute [local go_sem] max2_int min2_int max_two min_two max_three min_three max_four min_four   -- for this text's walks alone
open Go.Proofs.Ytalamamjodihaaa.Sp
attribute [local go_sem] Go.Proofs.Ytalamamjodihaaa.Sp.u64_not
set_option linter.unusedVariables false
set_option linter.unusedSimpArgs false

/-! ### thrumref01_SubP: function 39 -/
def thrumref01_SubP.f (a0 : Int) (a1 : Int) : Option (Int × Int) := if a1 < 0 then (if a0 > (wrap64 (9223372036854775807 + a1)) then (some (0, 2)) else (if a1 > 0 then (if a0 < (wrap64 ((-9223372036854775808) + a1)) then (some (0, 2)) else (some (wrap64 (a0 - a1), 0))) else (some (wrap64 (a0 - a1), 0)))) else (if a1 > 0 then (if a0 < (wrap64 ((-9223372036854775808) + a1)) then (some (0, 2)) else (some (wrap64 (a0 - a1), 0))) else (some (wrap64 (a0 - a1), 0)))
set_option maxHeartbeats 8000000 in
set_option maxRecDepth 100000 in
theorem thrumref01_SubP.calls (a0 : Int) (a1 : Int) (r1 : Int) (r2 : Int) (w : World) (h : thrumref01_SubP.f a0 a1 = some (r1, r2)) :
  Calls Try.prog 39 #[.int .i64 a0, .int .i64 a1] w fun e w' => e = .returned (.tuple #[.int .i64 r1, .int .i64 r2]) ∧ Drawn0 w w' := by
 have H : (if a1 < 0 then (if a0 > (wrap64 (9223372036854775807 + a1)) then (some (0, 2)) else (if a1 > 0 then (if a0 < (wrap64 ((-9223372036854775808) + a1)) then (some (0, 2)) else (some (wrap64 (a0 - a1), 0))) else (some (wrap64 (a0 - a1), 0)))) else (if a1 > 0 then (if a0 < (wrap64 ((-9223372036854775808) + a1)) then (some (0, 2)) else (some (wrap64 (a0 - a1), 0))) else (some (wrap64 (a0 - a1), 0)))) = some (r1, r2) := h
 clear h
 by_cases c3 : a1 < 0
 ·
  rw [if_pos c3] at H
  have c3b0 : decide (a1 < 0) = true := decide_eq_true c3
  clear c3
  by_cases c4 : a0 > (wrap64 (9223372036854775807 + a1))
  ·
   rw [if_pos c4] at H
   have c4b0 : decide ((wrap64 (9223372036854775807 + a1)) < a0) = true := decide_eq_true c4
   clear c4
   simp only [Option.some.injEq, Prod.mk.injEq] at H
   obtain ⟨rfl, rfl⟩ := H
   go_enter Try.func39, Try.ntmps39
   go_wp2
   go_ret2
   exact ⟨by first | rfl | (simp; done) | (simp [*]; done), by repeat (first | exact ddR _ | apply ddS)⟩
  ·
   rw [if_neg c4] at H
   have c4b0 : decide ((wrap64 (9223372036854775807 + a1)) < a0) = false := decide_eq_false c4
   clear c4
   by_cases c5 : a1 > 0
   ·
    rw [if_pos c5] at H
    have c5b0 : decide (0 < a1) = true := decide_eq_true c5
    clear c5
    by_cases c6 : a0 < (wrap64 ((-9223372036854775808) + a1))
    ·
     rw [if_pos c6] at H
     have c6b0 : decide (a0 < (wrap64 ((-9223372036854775808) + a1))) = true := decide_eq_true c6
     clear c6
     simp only [Option.some.injEq, Prod.mk.injEq] at H
     obtain ⟨rfl, rfl⟩ := H
     go_enter Try.func39, Try.ntmps39
     go_wp2
     go_ret2
     exact ⟨by first | rfl | (simp; done) | (simp [*]; done), by repeat (first | exact ddR _ | apply ddS)⟩
    ·
     rw [if_neg c6] at H
     have c6b0 : decide (a0 < (wrap64 ((-9223372036854775808) + a1))) = false := decide_eq_false c6
     clear c6
     simp only [Option.some.injEq, Prod.mk.injEq] at H
     obtain ⟨rfl, rfl⟩ := H
     go_enter Try.func39, Try.ntmps39
     go_wp2
     go_ret2
     exact ⟨by first | rfl | (simp; done) | (simp [*]; done), by repeat (first | exact ddR _ | apply ddS)⟩
   ·
    rw [if_neg c5] at H
    have c5b0 : decide (0 < a1) = false := decide_eq_false c5
    clear c5
    simp only [Option.some.injEq, Prod.mk.injEq] at H
    obtain ⟨rfl, rfl⟩ := H
    go_enter Try.func39, Try.ntmps39
    go_wp2
    go_ret2
    exact ⟨by first | rfl | (simp; done) | (simp [*]; done), by repeat (first | exact ddR _ | apply ddS)⟩
 ·
  rw [if_neg c3] at H
  have c3b0 : decide (a1 < 0) = false := decide_eq_false c3
  clear c3
  by_cases c7 : a1 > 0
  ·
   rw [if_pos c7] at H
   have c7b0 : decide (0 < a1) = true := decide_eq_true c7
   clear c7
   by_cases c8 : a0 < (wrap64 ((-9223372036854775808) + a1))
   ·
    rw [if_pos c8] at H
    have c8b0 : decide (a0 < (wrap64 ((-9223372036854775808) + a1))) = true := decide_eq_true c8
    clear c8
    simp only [Option.some.injEq, Prod.mk.injEq] at H
    obtain ⟨rfl, rfl⟩ := H
    go_enter Try.func39, Try.ntmps39
    go_wp2
    go_ret2
    exact ⟨by first | rfl | (simp; done) | (simp [*]; done), by repeat (first | exact ddR _ | apply ddS)⟩
   ·
    rw [if_neg c8] at H
    have c8b0 : decide (a0 < (wrap64 ((-9223372036854775808) + a1))) = false := decide_eq_false c8
    clear c8
    simp only [Option.some.injEq, Prod.mk.injEq] at H
    obtain ⟨rfl, rfl⟩ := H
    go_enter Try.func39, Try.ntmps39
    go_wp2
    go_ret2
    exact ⟨by first | rfl | (simp; done) | (simp [*]; done), by repeat (first | exact ddR _ | apply ddS)⟩
  ·
   rw [if_neg c7] at H
   have c7b0 : decide (0 < a1) = false := decide_eq_false c7
   clear c7
   simp only [Option.some.injEq, Prod.mk.injEq] at H
   obtain ⟨rfl, rfl⟩ := H
   go_enter Try.func39, Try.ntmps39
   go_wp2
   go_ret2
   exact ⟨by first | rfl | (simp; done) | (simp [*]; done), by repeat (first | exact ddR _ | apply ddS)⟩

def thrumref01_Sub.f (a0 a1 : Int) : Option (Int × Int) := if I64 a0 ∧ I64 a1 then some (res (a0 - a1)) else none
theorem thrumref01_Sub.of (a0 a1 : Int)  (h_ : I64 a0 ∧ I64 a1) : thrumref01_Sub.f a0 a1 = some (res (a0 - a1)) := if_pos h_
theorem thrumref01_Sub.calls (a0 : Int) (a1 : Int) (r1 : Int) (r2 : Int) (w : World) (h : thrumref01_Sub.f a0 a1 = some (r1, r2)) :
    Calls Try.prog 39 #[.int .i64 a0, .int .i64 a1] w fun e w' => e = .returned (.tuple #[.int .i64 r1, .int .i64 r2]) ∧ Drawn0 w w' := by
  unfold thrumref01_Sub.f at h
  split at h
  · rename_i hu
    refine thrumref01_SubP.calls a0 a1 r1 r2 w (Eq.trans ?_ h)
    unfold thrumref01_SubP.f
    obtain ⟨h0, h1⟩ := hu
    unfold I64 at h0 h1
    rcases Int.lt_trichotomy a1 0 with c | c | c
    · rw [if_pos c, wrap64_of (show I64 (9223372036854775807 + a1) by unfold I64; omega)]
      by_cases d : a0 > 9223372036854775807 + a1
      · rw [if_pos d, res_not (by unfold I64; omega)]
      · rw [if_neg d, if_neg (by omega), res_of (by unfold I64; omega), wrap64_of (by unfold I64; omega)]
    · rw [if_neg (by omega), if_neg (by omega), res_of (by unfold I64; omega), wrap64_of (by unfold I64; omega)]
    · rw [if_neg (by omega), if_pos (by omega), wrap64_of (show I64 (-9223372036854775808 + a1) by unfold I64; omega)]
      by_cases d : a0 < -9223372036854775808 + a1
      · rw [if_pos d, res_not (by unfold I64; omega)]
      · rw [if_neg d, res_of (by unfold I64; omega), wrap64_of (by unfold I64; omega)]
  · cases h


/-! ### thrumref16_Off: function 17 -/
def thrumref16_Off.f (a0 : Int) (l1 : List Int) (l2_0 : List Int) (a2_1 : Int) (a3 : Int) : Option (Int × Int) := (thrumref16_Tell.f a0 l1 l2_0 a3).bind fun bt259 => (if bt259.2 = 0 then ((thrumref01_Sub.f bt259.1 a2_1).bind fun bt261 => (some (bt261.1, bt261.2))) else (some (0, bt259.2)))
set_option maxHeartbeats 8000000 in
set_option maxRecDepth 100000 in
theorem thrumref16_Off.calls (a0 : Int) (A1 : Option Addr) (c1 : Nat) (l1 : List Int) (A2_0 : Option Addr) (c2_0 : Nat) (l2_0 : List Int) (a2_1 : Int) (a3 : Int) (r1 : Int) (r2 : Int) (w : World) (hr1 : Kd.C (Kd.int .i64) w A1 l1.length l1) (hc1 : l1.length ≤ c1) (hr2_0 : Kd.C (Kd.int .i64) w A2_0 l2_0.length l2_0) (hc2_0 : l2_0.length ≤ c2_0) (h : thrumref16_Off.f a0 l1 l2_0 a2_1 a3 = some (r1, r2)) :
  Calls Try.prog 17 #[.int .i64 a0, .slice A1 l1.length c1, .agg #[.slice A2_0 l2_0.length c2_0, .int .i64 a2_1], .int .i64 a3] w fun e w' => e = .returned (.tuple #[.int .i64 r1, .int .i64 r2]) ∧ Below w.heap.size w w' := by
 have hu26 := Try.underlying26
 have HR1 := Aside0.mk hr1
 have HC1 := Aside0.mk hc1
 clear hr1 hc1
 have HR2_0 := Aside0.mk hr2_0
 have HC2_0 := Aside0.mk hc2_0
 clear hr2_0 hc2_0
 have HB := Aside0.mk (Below.refl w.heap.size w)
 have H : ((thrumref16_Tell.f a0 l1 l2_0 a3).bind fun bt259 => (if bt259.2 = 0 then ((thrumref01_Sub.f bt259.1 a2_1).bind fun bt261 => (some (bt261.1, bt261.2))) else (some (0, bt259.2)))) = some (r1, r2) := h
 clear h
 replace H := Option.bind_eq_some_iff.mp H
 obtain ⟨⟨t259, t260⟩, A50, H⟩ := H
 replace H : (if t260 = 0 then ((thrumref01_Sub.f t259 a2_1).bind fun bt261 => (some (bt261.1, bt261.2))) else (some (0, t260))) = some (r1, r2) := H
 have A5 := Aside0.mk A50
 clear A50
 by_cases c6 : t260 = 0
 ·
  rw [if_pos c6] at H
  have c6b0 : (t260 == 0) = true := beq_iff_eq.mpr c6
  have c6b1 : (t260 != 0) = false := bne_eq_false_iff_eq.mpr c6
  clear c6
  replace H := Option.bind_eq_some_iff.mp H
  obtain ⟨⟨t261, t262⟩, A70, H⟩ := H
  replace H : (some (t261, t262)) = some (r1, r2) := H
  have A7 := Aside0.mk A70
  clear A70
  simp only [Option.some.injEq, Prod.mk.injEq] at H
  obtain ⟨rfl, rfl⟩ := H
  go_enter Try.func17, Try.ntmps17
  go_wp2_with (first | ((with_reducible refine gate_dst (N := 6) rfl ?_); refine box_event ?hg (N := 6) ?hd (cs := #[.slice A2_0 l2_0.length c2_0, .int .i64 a2_1]) (t := 26) ?hr ?_; (case hd => rfl); (case hg => rfl); (case hr => first | (go_simp; done) | (go_simp; rfl)); intro gb258 hg w8 hbox hb; have n0_ := Aside0.mk (zzT (by repeat (first | (with_reducible first | exact HB.out | apply zzA | apply zzN | apply zzD) | exact HB.out)) hb); have n1_ := Aside0.mk (hbox); have n2_ := Aside0.mk ((by rw [hg]; exact (zzS (by repeat (first | (with_reducible first | exact HB.out | apply zzA | apply zzN | apply zzD) | exact HB.out))) : w.heap.size ≤ gb258)); have n3_ := Aside0.mk ((by rw [hg]; exact (zzS (by repeat (first | (with_reducible first | exact HB.out | apply zzA | apply zzN | apply zzD) | exact HB.out))) : w.heap.size ≤ gb258)); clear HB; have HB := n0_; have BK258 := n1_; have GW258 := n2_; have GE258 := n3_; clear n0_ n1_ n2_ n3_; clear hb hbox hg; have hcz9_0 : w8.cell? ⟨gb258, 0, none⟩ = some (.slice A2_0 l2_0.length c2_0) := (blk_cell BK258.out 0).trans rfl; have hcz9_1 : w8.cell? ⟨gb258, 1, none⟩ = some (.int .i64 a2_1) := (blk_cell BK258.out 1).trans rfl; have hfz9_0 := blk_frozen BK258.out 0; have hfz9_1 := blk_frozen BK258.out 1) | ((with_reducible refine gate_callee (f := 14) rfl ?_); refine goesL_ (some 18) rfl rfl Try.func14 (by kernel_rfl) rfl #[.int .i64 a0, .slice A1 l1.length c1, .slice A2_0 l2_0.length c2_0, .int .i64 a3] rfl (by (try simp only [List.map_toArray, List.map_cons, List.map_nil]); first | done | rfl | (simp only [List.length_drop, List.length_take]; rfl)) ?_; (with_reducible refine (thrumref16_Tell.calls a0 _ _ l1 _ _ l2_0 a3 t259 t260 _ ?side1 ?side2 ?side3 ?side4 A5.out).mono ?_); (case side1 => repeat (first | exact (Kd.C_below HR1.out HB.out) | (with_reducible refine ccA ?_ _) | (with_reducible refine ccN ?_ _) | (with_reducible refine ccD ?_))); (case side2 => exact HC1.out); (case side3 => repeat (first | exact (Kd.C_below HR2_0.out HB.out) | (with_reducible refine ccA ?_ _) | (with_reducible refine ccN ?_ _) | (with_reducible refine ccD ?_))); (case side4 => exact HC2_0.out); rintro e w10 ⟨rfl, hb⟩; refine ⟨_, rfl, ?_⟩; have n0_ := Aside0.mk (blk_below (g := gb258) (o := .cells #[.slice A2_0 l2_0.length c2_0, .int .i64 a2_1] 26 (0, 0)) (by (with_reducible repeat (first | refine kkN ?_ _ | refine kkD ?_ | refine kkA ?_ _)); exact BK258.out) hb); have n1_ := Aside0.mk (zzT (by repeat (first | (with_reducible first | exact HB.out | apply zzA | apply zzN | apply zzD | refine below_set ?_ GE258.out) | exact HB.out)) hb); clear BK258; clear HB; have BK258 := n0_; have HB := n1_; clear n0_ n1_; (try clear hb); (try clear hb2); (try clear hk); (try clear hi); have hcz11_0 : w10.cell? ⟨gb258, 0, none⟩ = some (.slice A2_0 l2_0.length c2_0) := (blk_cell BK258.out 0).trans rfl; have hcz11_1 : w10.cell? ⟨gb258, 1, none⟩ = some (.int .i64 a2_1) := (blk_cell BK258.out 1).trans rfl; have hfz11_0 := blk_frozen BK258.out 0; have hfz11_1 := blk_frozen BK258.out 1) | ((with_reducible refine gate_callee (f := 39) rfl ?_); refine goesL_ (some 27) rfl rfl Try.func39 (by kernel_rfl) rfl #[.int .i64 t259, .int .i64 a2_1] rfl (by (try simp only [List.map_toArray, List.map_cons, List.map_nil]); first | done | rfl | (simp only [List.length_drop, List.length_take]; rfl)) ?_; (with_reducible refine (thrumref01_Sub.calls t259 a2_1 t261 t262 _ A7.out).mono ?_); rintro e w' ⟨rfl, ⟨nd, rfl⟩⟩; refine ⟨_, rfl, ?_⟩))
  go_ret2
  exact ⟨by first | rfl | (simp [errW_none, errW_some] <;> rfl) | (simp [*, errW_none, errW_some] <;> rfl), by repeat (first | (with_reducible first | exact HB.out | apply zzA | apply zzN | apply zzD | refine below_set ?_ GE258.out) | exact HB.out)⟩
 ·
  rw [if_neg c6] at H
  have c6b0 : (t260 == 0) = false := beq_eq_false_iff_ne.mpr c6
  have c6b1 : (t260 != 0) = true := bne_iff_ne.mpr c6
  simp only [Option.some.injEq, Prod.mk.injEq] at H
  obtain ⟨rfl, rfl⟩ := H
  go_enter Try.func17, Try.ntmps17
  go_wp2_with (first | ((with_reducible refine gate_dst (N := 6) rfl ?_); refine box_event ?hg (N := 6) ?hd (cs := #[.slice A2_0 l2_0.length c2_0, .int .i64 a2_1]) (t := 26) ?hr ?_; (case hd => rfl); (case hg => rfl); (case hr => first | (go_simp; done) | (go_simp; rfl)); intro gb258 hg w12 hbox hb; have n0_ := Aside0.mk (zzT (by repeat (first | (with_reducible first | exact HB.out | apply zzA | apply zzN | apply zzD) | exact HB.out)) hb); have n1_ := Aside0.mk (hbox); have n2_ := Aside0.mk ((by rw [hg]; exact (zzS (by repeat (first | (with_reducible first | exact HB.out | apply zzA | apply zzN | apply zzD) | exact HB.out))) : w.heap.size ≤ gb258)); have n3_ := Aside0.mk ((by rw [hg]; exact (zzS (by repeat (first | (with_reducible first | exact HB.out | apply zzA | apply zzN | apply zzD) | exact HB.out))) : w.heap.size ≤ gb258)); clear HB; have HB := n0_; have BK258 := n1_; have GW258 := n2_; have GE258 := n3_; clear n0_ n1_ n2_ n3_; clear hb hbox hg; have hcz13_0 : w12.cell? ⟨gb258, 0, none⟩ = some (.slice A2_0 l2_0.length c2_0) := (blk_cell BK258.out 0).trans rfl; have hcz13_1 : w12.cell? ⟨gb258, 1, none⟩ = some (.int .i64 a2_1) := (blk_cell BK258.out 1).trans rfl; have hfz13_0 := blk_frozen BK258.out 0; have hfz13_1 := blk_frozen BK258.out 1) | ((with_reducible refine gate_callee (f := 14) rfl ?_); refine goesL_ (some 18) rfl rfl Try.func14 (by kernel_rfl) rfl #[.int .i64 a0, .slice A1 l1.length c1, .slice A2_0 l2_0.length c2_0, .int .i64 a3] rfl (by (try simp only [List.map_toArray, List.map_cons, List.map_nil]); first | done | rfl | (simp only [List.length_drop, List.length_take]; rfl)) ?_; (with_reducible refine (thrumref16_Tell.calls a0 _ _ l1 _ _ l2_0 a3 t259 t260 _ ?side1 ?side2 ?side3 ?side4 A5.out).mono ?_); (case side1 => repeat (first | exact (Kd.C_below HR1.out HB.out) | (with_reducible refine ccA ?_ _) | (with_reducible refine ccN ?_ _) | (with_reducible refine ccD ?_))); (case side2 => exact HC1.out); (case side3 => repeat (first | exact (Kd.C_below HR2_0.out HB.out) | (with_reducible refine ccA ?_ _) | (with_reducible refine ccN ?_ _) | (with_reducible refine ccD ?_))); (case side4 => exact HC2_0.out); rintro e w14 ⟨rfl, hb⟩; refine ⟨_, rfl, ?_⟩; have n0_ := Aside0.mk (blk_below (g := gb258) (o := .cells #[.slice A2_0 l2_0.length c2_0, .int .i64 a2_1] 26 (0, 0)) (by (with_reducible repeat (first | refine kkN ?_ _ | refine kkD ?_ | refine kkA ?_ _)); exact BK258.out) hb); have n1_ := Aside0.mk (zzT (by repeat (first | (with_reducible first | exact HB.out | apply zzA | apply zzN | apply zzD | refine below_set ?_ GE258.out) | exact HB.out)) hb); clear BK258; clear HB; have BK258 := n0_; have HB := n1_; clear n0_ n1_; (try clear hb); (try clear hb2); (try clear hk); (try clear hi)))
  go_ret2
  exact ⟨by first | rfl | (simp [errW_none, errW_some] <;> rfl) | (simp [*, errW_none, errW_some] <;> rfl), by repeat (first | (with_reducible first | exact HB.out | apply zzA | apply zzN | apply zzD | refine below_set ?_ GE258.out) | exact HB.out)⟩

/-! ### thrumref02_ScaleP: function 64 -/
mutual
def thrumref02_ScaleP.j0 : Nat → List Int → Int → Int → Bool → Option (List Int × Int)
 | 0, _, _, _, _ => none
 | k + 1, x0, x1, x2, x21 => if x21 = true then (some (([] : List Int), 1)) else (thrumref02_ScaleP.l0 k x1 x2 ([] : List Int) x0 (x0.length : Int) 0)
def thrumref02_ScaleP.l0 : Nat → Int → Int → List Int → List Int → Int → Int → Option (List Int × Int)
 | 0, _, _, _, _, _, _ => none
 | k + 1, x1, x2, x8, x22, x23, x24 => if x24 < x23 then (if 0 ≤ x24 then (if x24 < (x22.length : Int) then ((thrumref01_Mul.f (rd x22 x24) x1 x2).bind fun bt264 => (if bt264.2 = 0 then (if x8.length < 17592186044416 then (thrumref02_ScaleP.l0 k x1 x2 (x8 ++ [bt264.1]) x22 x23 (wrap64 (x24 + 1))) else (none)) else (some (([] : List Int), bt264.2)))) else (none)) else (none)) else (some (x8, 0))
end
def thrumref02_ScaleP.f (k : Nat) (l0 : List Int) (a1 : Int) (a2 : Int) : Option (List Int × Int) := if (l0.length : Int) > 4096 then (some (([] : List Int), 3)) else (if a2 < 0 then (thrumref02_ScaleP.j0 k l0 a1 a2 true) else (thrumref02_ScaleP.j0 k l0 a1 a2 (decide (a2 > 30))))
theorem thrumref02_ScaleP.mono_l : ∀ k, (∀ y0 y1 y2 y3, LeO (thrumref02_ScaleP.j0 k y0 y1 y2 y3) (thrumref02_ScaleP.j0 (k + 1) y0 y1 y2 y3)) ∧ (∀ y0 y1 y2 y3 y4 y5, LeO (thrumref02_ScaleP.l0 k y0 y1 y2 y3 y4 y5) (thrumref02_ScaleP.l0 (k + 1) y0 y1 y2 y3 y4 y5))
 | 0 => ⟨fun _ _ _ _ r h => by simp [thrumref02_ScaleP.j0] at h, fun _ _ _ _ _ _ r h => by simp [thrumref02_ScaleP.l0] at h⟩
 | k + 1 => by
  obtain ⟨ih0, ih1⟩ := thrumref02_ScaleP.mono_l k
  refine ⟨?_, ?_⟩
  ·
   intro y0 y1 y2 y3
   unfold thrumref02_ScaleP.j0
   repeat' first
   | (with_reducible exact ih0 _ _ _ _)
   | (with_reducible exact ih1 _ _ _ _ _ _)
   | (with_reducible exact LeO.refl _)
   | (with_reducible exact LeO.none _)
   | (with_reducible refine LeO.ite ?_ ?_)
   | (with_reducible refine LeO.bind ?_ (fun _ => ?_))
   | exact ih0 _ _ _ _
   | exact ih1 _ _ _ _ _ _
   | exact LeO.none _
   | refine LeO.ite ?_ ?_
   | refine LeO.bind ?_ (fun _ => ?_)
  ·
   intro y0 y1 y2 y3 y4 y5
   unfold thrumref02_ScaleP.l0
   repeat' first
   | (with_reducible exact ih0 _ _ _ _)
   | (with_reducible exact ih1 _ _ _ _ _ _)
   | (with_reducible exact LeO.refl _)
   | (with_reducible exact LeO.none _)
   | (with_reducible refine LeO.ite ?_ ?_)
   | (with_reducible refine LeO.bind ?_ (fun _ => ?_))
   | exact ih0 _ _ _ _
   | exact ih1 _ _ _ _ _ _
   | exact LeO.none _
   | refine LeO.ite ?_ ?_
   | refine LeO.bind ?_ (fun _ => ?_)
theorem thrumref02_ScaleP.mono : ∀ a0 a1 a2 k, LeO (thrumref02_ScaleP.f k a0 a1 a2) (thrumref02_ScaleP.f (k + 1) a0 a1 a2) := by
 intro a0 a1 a2 k
 obtain ⟨ih0, ih1⟩ := thrumref02_ScaleP.mono_l k
 unfold thrumref02_ScaleP.f
 repeat' first
   | (with_reducible exact ih0 _ _ _ _)
   | (with_reducible exact ih1 _ _ _ _ _ _)
   | (with_reducible exact LeO.refl _)
   | (with_reducible exact LeO.none _)
   | (with_reducible refine LeO.ite ?_ ?_)
   | (with_reducible refine LeO.bind ?_ (fun _ => ?_))
   | exact ih0 _ _ _ _
   | exact ih1 _ _ _ _ _ _
   | exact LeO.none _
   | refine LeO.ite ?_ ?_
   | refine LeO.bind ?_ (fun _ => ?_)
set_option maxHeartbeats 8000000 in
set_option maxRecDepth 100000 in
theorem thrumref02_ScaleP.calls (k : Nat) (A0 : Option Addr) (c0 : Nat) (l0 : List Int) (a1 : Int) (a2 : Int) (r1 : List Int) (r2 : Int) (w : World) (hr0 : Kd.C (Kd.int .i64) w A0 l0.length l0) (hc0 : l0.length ≤ c0) (h : thrumref02_ScaleP.f k l0 a1 a2 = some (r1, r2)) :
  Calls Try.prog 64 #[.slice A0 l0.length c0, .int .i64 a1, .int .i64 a2] w fun e w' => ∃ v0_ : Value, e = .returned (.tuple #[v0_, .int .i64 r2]) ∧ Kd.R (Kd.int .i64) 2 w' w.heap.size (fun _ => True) v0_ r1 ∧ Below w.heap.size w w' := by
 have HR0 := Aside0.mk hr0
 have HC0 := Aside0.mk hc0
 clear hr0 hc0
 have HB := Aside0.mk (Below.refl w.heap.size w)
 have H : (if (l0.length : Int) > 4096 then (some (([] : List Int), 3)) else (if a2 < 0 then (thrumref02_ScaleP.j0 k l0 a1 a2 true) else (thrumref02_ScaleP.j0 k l0 a1 a2 (decide (a2 > 30))))) = some (r1, r2) := h
 clear h
 by_cases c4 : (l0.length : Int) > 4096
 ·
  rw [if_pos c4] at H
  have c4b0 : decide (4096 < (l0.length : Int)) = true := decide_eq_true c4
  have c4b1 : decide (4096 < l0.length) = true := decide_eq_true (by omega)
  clear c4
  simp only [Option.some.injEq, Prod.mk.injEq] at H
  obtain ⟨rfl, rfl⟩ := H
  go_enter Try.func64, Try.ntmps64
  go_wp2
  go_ret2
  exact ⟨_, by first | rfl | (simp [errW_none, errW_some] <;> rfl) | (simp [*, errW_none, errW_some] <;> rfl), by first | exact Kd.R_nil _ _ _ _ _ | exact Kd.N_nil _ _ _ _ _ | exact Kd.V_nil _ _ _ _ _ | exact Kd.Q_nil _ _ _ _ _ | exact Kd.S_nil _ _ _ _ _, by repeat (first | (with_reducible first | exact HB.out | apply zzA | apply zzN | apply zzD) | exact HB.out)⟩
 ·
  rw [if_neg c4] at H
  have c4b0 : decide (4096 < (l0.length : Int)) = false := decide_eq_false c4
  have c4b1 : decide (4096 < l0.length) = false := decide_eq_false (by omega)
  clear c4
  have HC5 := Aside0.mk H
  clear H
  go_enter Try.func64, Try.ntmps64
  go_upto_region 3 with (fail)
  go_cut [21] (fun v21 wc => ∃ (kq : Nat) (x21_4 : Bool), v21 = .bool x21_4 ∧ Aside0 (thrumref02_ScaleP.j0 kq l0 a1 a2 x21_4 = some (r1, r2)) ∧ Aside0 (kq ≤ k) ∧ Aside0 (Below w.heap.size w wc))
  case first =>
   have H := HC5.out
   clear HC5
   by_cases c6 : a2 < 0
   ·
    rw [if_pos c6] at H
    have c6b0 : decide (a2 < 0) = true := decide_eq_true c6
    clear c6
    (first | rw [c6b0] | (simp only [i64_w, i32_w]; rw [c6b0]) | skip)
    have H' := Aside0.mk H
    clear H
    go_wp2
    go_meet
    case rel => exact ⟨_, (true), (by first | rfl | (simp; done) | (simp [*]; done)), H', ⟨by first | omega | exact Nat.le_refl _⟩, ⟨by repeat (first | (with_reducible first | exact HB.out | apply zzA | apply zzN | apply zzD) | exact HB.out)⟩⟩
   ·
    rw [if_neg c6] at H
    have c6b0 : decide (a2 < 0) = false := decide_eq_false c6
    clear c6
    (first | rw [c6b0] | (simp only [i64_w, i32_w]; rw [c6b0]) | skip)
    have H' := Aside0.mk H
    clear H
    go_wp2
    go_meet
    case rel => exact ⟨_, (decide (a2 > 30)), (by first | rfl | (simp; done) | (simp [*]; done)), H', ⟨by first | omega | exact Nat.le_refl _⟩, ⟨by repeat (first | (with_reducible first | exact HB.out | apply zzA | apply zzN | apply zzD) | exact HB.out)⟩⟩
  case rest =>
   clear HC5
   try clear p2
   try clear c4
   try clear c4b0
   try clear c4b1
   try clear c6
   try clear c6b0
   obtain ⟨kq, x21_4, rfl, HA, HJ4, HB⟩ := hcut
   cases kq with
   | zero => exact absurd HA.out (by simp [thrumref02_ScaleP.j0])
   | succ kj4 =>
    have H := HA.out
    clear HA
    simp only [thrumref02_ScaleP.j0] at H
    by_cases c7 : x21_4 = true
    ·
     subst c7
     have H1 : (some (([] : List Int), 1)) = some (r1, r2) := by rw [if_pos rfl] at H; exact H
     clear H
     have H := H1
     clear H1
     simp only [Option.some.injEq, Prod.mk.injEq] at H
     obtain ⟨rfl, rfl⟩ := H
     go_wp2
     go_ret2
     exact ⟨_, by first | rfl | (simp [errW_none, errW_some] <;> rfl) | (simp [*, errW_none, errW_some] <;> rfl), by first | exact Kd.R_nil _ _ _ _ _ | exact Kd.N_nil _ _ _ _ _ | exact Kd.V_nil _ _ _ _ _ | exact Kd.Q_nil _ _ _ _ _ | exact Kd.S_nil _ _ _ _ _, by repeat (first | (with_reducible first | exact HB.out | apply zzA | apply zzN | apply zzD) | exact HB.out)⟩
    ·
     replace c7 := Bool.eq_false_iff.mpr c7
     subst c7
     have H1 : (thrumref02_ScaleP.l0 kj4 a1 a2 ([] : List Int) l0 (l0.length : Int) 0) = some (r1, r2) := by rw [if_neg (show ¬ (false = true) by decide)] at H; exact H
     clear H
     have H := H1
     clear H1
     have H' := Aside0.mk H
     clear H
     go_wp2
     go_loopg [8, 24] kj4 (fun kq v8 v24 w' => ∃ (x8_2 : List Int) (x24_2 : Int), v24 = .int .i64 x24_2 ∧ Aside0 (thrumref02_ScaleP.l0 kq a1 a2 x8_2 l0 (l0.length : Int) x24_2 = some (r1, r2)) ∧ Aside0 (kq ≤ kj4) ∧ Aside0 (Kd.R (Kd.int .i64) 2 w' w.heap.size (fun _ => True) v8 x8_2) ∧ Aside0 (Below w.heap.size w w'))
     case atStart => exact ⟨(([] : List Int)), (0), (by first | rfl | (simp; done) | (simp [*]; done)), H', ⟨Nat.le_refl _⟩, ⟨by first | exact Kd.R_nil _ _ _ _ _ | exact Kd.N_nil _ _ _ _ _ | exact Kd.V_nil _ _ _ _ _ | exact Kd.Q_nil _ _ _ _ _ | exact Kd.S_nil _ _ _ _ _⟩, ⟨by repeat (first | (with_reducible first | exact HB.out | apply zzA | apply zzN | apply zzD) | exact HB.out)⟩⟩
     case round =>
      clear H'
      try clear p2
      try clear c4
      try clear c4b0
      try clear c4b1
      try clear c6
      try clear c6b0
      try clear c7
      try clear p2
      obtain ⟨x8_2, x24_2, rfl, HA, HK2, HO_8, HB⟩ := hrel
      cases gk with
      | zero => exact absurd HA.out (by simp [thrumref02_ScaleP.l0])
      | succ k2 =>
       have H := HA.out
       clear HA
       simp only [thrumref02_ScaleP.l0] at H
       by_cases c8 : x24_2 < (l0.length : Int)
       ·
        rw [if_pos c8] at H
        have c8b0 : decide (x24_2 < (l0.length : Int)) = true := decide_eq_true c8
        clear c8
        by_cases c9 : 0 ≤ x24_2
        ·
         rw [if_pos c9] at H
         have c9b0 : decide (0 ≤ x24_2) = true := decide_eq_true c9
         clear c9
         by_cases c10 : x24_2 < (l0.length : Int)
         ·
          rw [if_pos c10] at H
          have c10b0 : decide (x24_2 < (l0.length : Int)) = true := decide_eq_true c10
          clear c10
          replace H := Option.bind_eq_some_iff.mp H
          obtain ⟨⟨t264, t265⟩, A110, H⟩ := H
          replace H : (if t265 = 0 then (if x8_2.length < 17592186044416 then (thrumref02_ScaleP.l0 k2 a1 a2 (x8_2 ++ [t264]) l0 (l0.length : Int) (wrap64 (x24_2 + 1))) else (none)) else (some (([] : List Int), t265))) = some (r1, r2) := H
          have A11 := Aside0.mk A110
          clear A110
          by_cases c12 : t265 = 0
          ·
           rw [if_pos c12] at H
           have c12b0 : (t265 == 0) = true := beq_iff_eq.mpr c12
           have c12b1 : (t265 != 0) = false := bne_eq_false_iff_eq.mpr c12
           clear c12
           by_cases c13 : x8_2.length < 17592186044416
           ·
            rw [if_pos c13] at H
            have LMc13 := Aside0.mk c13
            clear c13
            obtain ⟨y266, hy266⟩ : ∃ y_ : List Int, y_ = (x8_2 ++ [t264]) := ⟨_, rfl⟩
            replace H : (thrumref02_ScaleP.l0 k2 a1 a2 y266 l0 (l0.length : Int) (wrap64 (x24_2 + 1))) = some (r1, r2) := by first | (rw [hy266]; with_reducible exact H) | (have H2_ := (Option.bind_some _ _).symm.trans H; rw [hy266]; with_reducible exact H2_) | (have H2_ := (Option.bind_some _ _).symm.trans H; with_reducible exact H2_) | with_reducible exact H | (rw [hy266]; exact H) | exact H
            have Ny266 := Aside0.mk hy266
            clear hy266
            have H' := Aside0.mk H
            clear H
            have p263 : 0 ≤ (x24_2 : Int) := of_decide_eq_true (by first | (with_reducible assumption) | assumption)
            have q263 : x24_2 < (l0.length : Int) := of_decide_eq_true (by first | (with_reducible assumption) | assumption)
            obtain ⟨ad263, e263, hx263_0⟩ := Kd.at_int HR0.out x24_2 p263 q263
            cases e263
            replace hx263_0 := (HB.out.cell (World.block_lt_of_cell? w _ hx263_0)).trans hx263_0
            replace p263 := eq_true p263
            replace q263 := eq_true q263
            go_wp2_with (first | ((with_reducible refine gate_callee (f := 63) rfl ?_); refine goesL_ (some 32) rfl rfl Try.func63 (by kernel_rfl) rfl #[.int .i64 (rd l0 x24_2), .int .i64 a1, .int .i64 a2] rfl (by (try simp only [List.map_toArray, List.map_cons, List.map_nil]); first | done | rfl | (simp only [List.length_drop, List.length_take]; rfl)) ?_; (with_reducible refine (thrumref01_Mul.calls (rd l0 x24_2) a1 a2 t264 t265 _ A11.out).mono ?_); rintro e w' ⟨rfl, ⟨nd, rfl⟩⟩; refine ⟨_, rfl, ?_⟩) | ((with_reducible refine gate_builtin (b := .append) (xs := #[.tmp 38, .tmp 40]) rfl ?_); at_builtin; refine Kd.R_append (Kd.int .i64) (w0 := w) w.heap.size rfl (.tmp 38) (.tmp 40) 22 2 (.int .i64 0) 8 rfl Try.underlying22 info2 rfl (by decide) (by omega) u8 x8_2 t264 [.int .i64 t264] (fun _ => True) (fun _ => False) rfl rfl ?aP (fun _ hk => hk.elim) ?aF ?aO ?aB ?aS ?aL ?_; (case aP => exact rfl); (case aB => exact (by repeat (first | (with_reducible first | exact HB.out | apply zzA | apply zzN | apply zzD) | exact HB.out))); (case aF => exact (fun _ _ => trivial)); (case aO => exact (by (with_reducible repeat (first | apply rrA | apply rrN | apply rrD)); exact HO_8.out)); (case aS => exact (zzS (by repeat (first | (with_reducible first | exact HB.out | apply zzA | apply zzN | apply zzD) | exact HB.out)))); (case aL => have := LMc13.out; omega); intro v267 w14 ho hb hg hat; rw [← Ny266.out] at ho; have n0_ := Aside0.mk (hb); have n1_ := Aside0.mk (ho); clear HB; clear HO_8; have HB := n0_; have HO268 := n1_; clear n0_ n1_; clear ho hb hg hat))
            go_roundg k2
            case measure => have := HJ4.out; have := HK2.out; omega
            case rel => exact ⟨(y266), (wrap64 (x24_2 + 1)), (by first | rfl | (simp; done) | (simp [*]; done)), H', ⟨by have := HJ4.out; have := HK2.out; omega⟩, ⟨by (with_reducible repeat (first | apply rrA | apply rrN | apply rrD)); exact HO268.out⟩, ⟨by repeat (first | (with_reducible first | exact HB.out | apply zzA | apply zzN | apply zzD) | exact HB.out)⟩⟩
           ·
            rw [if_neg c13] at H
            exact absurd H (by simp)
          ·
           rw [if_neg c12] at H
           have c12b0 : (t265 == 0) = false := beq_eq_false_iff_ne.mpr c12
           have c12b1 : (t265 != 0) = true := bne_iff_ne.mpr c12
           simp only [Option.some.injEq, Prod.mk.injEq] at H
           obtain ⟨rfl, rfl⟩ := H
           have p263 : 0 ≤ (x24_2 : Int) := of_decide_eq_true (by first | (with_reducible assumption) | assumption)
           have q263 : x24_2 < (l0.length : Int) := of_decide_eq_true (by first | (with_reducible assumption) | assumption)
           obtain ⟨ad263, e263, hx263_0⟩ := Kd.at_int HR0.out x24_2 p263 q263
           cases e263
           replace hx263_0 := (HB.out.cell (World.block_lt_of_cell? w _ hx263_0)).trans hx263_0
           replace p263 := eq_true p263
           replace q263 := eq_true q263
           go_wp2_with (first | ((with_reducible refine gate_callee (f := 63) rfl ?_); refine goesL_ (some 32) rfl rfl Try.func63 (by kernel_rfl) rfl #[.int .i64 (rd l0 x24_2), .int .i64 a1, .int .i64 a2] rfl (by (try simp only [List.map_toArray, List.map_cons, List.map_nil]); first | done | rfl | (simp only [List.length_drop, List.length_take]; rfl)) ?_; (with_reducible refine (thrumref01_Mul.calls (rd l0 x24_2) a1 a2 t264 t265 _ A11.out).mono ?_); rintro e w' ⟨rfl, ⟨nd, rfl⟩⟩; refine ⟨_, rfl, ?_⟩))
           go_ret2
           exact ⟨_, by first | rfl | (simp [errW_none, errW_some] <;> rfl) | (simp [*, errW_none, errW_some] <;> rfl), by first | exact Kd.R_nil _ _ _ _ _ | exact Kd.N_nil _ _ _ _ _ | exact Kd.V_nil _ _ _ _ _ | exact Kd.Q_nil _ _ _ _ _ | exact Kd.S_nil _ _ _ _ _, by repeat (first | (with_reducible first | exact HB.out | apply zzA | apply zzN | apply zzD) | exact HB.out)⟩
         ·
          rw [if_neg c10] at H
          exact absurd H (by simp)
        ·
         rw [if_neg c9] at H
         exact absurd H (by simp)
       ·
        rw [if_neg c8] at H
        have c8b0 : decide (x24_2 < (l0.length : Int)) = false := decide_eq_false c8
        clear c8
        simp only [Option.some.injEq, Prod.mk.injEq] at H
        obtain ⟨rfl, rfl⟩ := H
        go_wp2
        go_ret2
        exact ⟨_, by first | rfl | (simp [errW_none, errW_some] <;> rfl) | (simp [*, errW_none, errW_some] <;> rfl), by (with_reducible repeat (first | apply rrA | apply rrN | apply rrD)); exact HO_8.out, by repeat (first | (with_reducible first | exact HB.out | apply zzA | apply zzN | apply zzD) | exact HB.out)⟩

theorem thrumref02_ScaleP.loop (x1 x2 : Int) (x0 : List Int) (hb : x0.length ≤ 4096) : ∀ (d i : Nat) (acc : List Int), d + i = x0.length → acc.length ≤ i →
    thrumref02_ScaleP.l0 (d + 1) x1 x2 acc x0 (x0.length : Int) (i : Int) = eachGo (fun i : Nat => thrumref01_Mul.f (rd x0 i) x1 x2) d i acc := by
  intro d
  induction d with
  | zero =>
    intro i acc hd ha
    rw [thrumref02_ScaleP.l0, if_neg (by omega)]; rfl
  | succ d ih =>
    intro i acc hd ha
    rw [thrumref02_ScaleP.l0, if_pos (by omega), if_pos (by omega), if_pos (by omega), eachGo]
    congr 1; funext p
    by_cases c : p.2 = 0
    · rw [if_pos c, if_pos c, if_pos (by omega), wrap64_of (by unfold I64; omega), show (i : Int) + 1 = ((i + 1 : Nat) : Int) by omega]
      exact ih (i + 1) _ (by omega) (by simp; omega)
    · rw [if_neg c, if_neg c]
def thrumref02_Scale.f (l0 : List Int) (a1 a2 : Int) : Option (List Int × Int) := if V64 l0 ∧ I64 a1 then some (scaleV l0 a1 a2) else none
theorem thrumref02_Scale.of (l0 : List Int) (a1 a2 : Int)  (h_ : V64 l0 ∧ I64 a1) : thrumref02_Scale.f l0 a1 a2 = some (scaleV l0 a1 a2) := if_pos h_
theorem thrumref02_Scale.calls (A0 : Option Addr) (c0 : Nat) (l0 : List Int) (a1 : Int) (a2 : Int) (r1 : List Int) (r2 : Int) (w : World) (hr0 : Kd.C (Kd.int .i64) w A0 l0.length l0) (hc0 : l0.length ≤ c0) (h : thrumref02_Scale.f l0 a1 a2 = some (r1, r2)) :
    Calls Try.prog 64 #[.slice A0 l0.length c0, .int .i64 a1, .int .i64 a2] w fun e w' => ∃ v0_ : Value, e = .returned (.tuple #[v0_, .int .i64 r2]) ∧ Kd.R (Kd.int .i64) 2 w' w.heap.size (fun _ => True) v0_ r1 ∧ Below w.heap.size w w' := by
  unfold thrumref02_Scale.f at h
  split at h
  case isFalse => cases h
  rename_i hv
  refine thrumref02_ScaleP.calls (l0.length + 2) A0 c0 l0 a1 a2 r1 r2 w hr0 hc0 (Eq.trans ?_ h)
  unfold thrumref02_ScaleP.f scaleV checkE fracE
  by_cases c : l0.length > 4096
  · rw [if_pos (by omega), if_pos c, if_neg (by omega)]
  · rw [if_neg (by omega), if_neg c, if_pos rfl]
    by_cases c2 : 0 ≤ a2 ∧ a2 ≤ 30
    · rw [if_neg (by omega), thrumref02_ScaleP.j0, if_neg (by simp; omega), if_pos c2, if_pos rfl]
      refine (thrumref02_ScaleP.loop a1 a2 l0 (by omega) l0.length 0 [] (by omega) (by simp)).trans ?_
      exact each_spec (ps := l0.map fun x => mulF x a1 a2) (List.length_map _) (fun j h => by rw [map_get _ j h]; exact thrumref01_Mul.of _ _ _ ⟨hv.1.rd _, hv.2⟩)
    · rw [if_neg c2, if_neg (show ¬ (1 : Int) = 0 by decide)]
      by_cases c3 : a2 < 0
      · rw [if_pos c3, thrumref02_ScaleP.j0, if_pos rfl]
      · rw [if_neg c3, thrumref02_ScaleP.j0, if_pos (decide_eq_true (by omega))]


/-! ### thrumref16_oneP: function 47 -/
def thrumref16_oneP.l0 : Nat → Int → Int → List Int → List Int → List Int → List Int → Int → Int → List Int → Int → Option (List Int × Int)
 | 0, _, _, _, _, _, _, _, _, _, _ => none
 | k + 1, x3, x10, x12, x15, x17, x51, x52, x53, x270000, x270001 => if x53 < x52 then (if 0 ≤ x53 then (if x53 < (x51.length : Int) then (if (rd x51 x53) > 0 then (if x53 < (x15.length : Int) then ((thrumref01_Mul.f x10 (rd x15 x53) x3).bind fun bt295 => (if bt295.2 = 0 then ((thrumref02_Scale.f x270000 bt295.1 x3).bind fun bt297 => (if bt297.2 = 0 then (if x17.length + bt297.1.length < 17592186044416 then ((some (x17 ++ bt297.1 : List Int)).bind fun y301 => (if y301.length < 17592186044416 then (thrumref16_oneP.l0 k x3 x10 x12 x15 (y301 ++ [bt295.1]) x51 x52 (wrap64 (x53 + 1)) x270000 x270001) else (none))) else (none)) else (some (([] : List Int), bt297.2)))) else (some (([] : List Int), bt295.2)))) else (none)) else ((thrumref02_Scale.f x270000 0 x3).bind fun bt307 => (if bt307.2 = 0 then (if x17.length + bt307.1.length < 17592186044416 then ((some (x17 ++ bt307.1 : List Int)).bind fun y311 => (if y311.length < 17592186044416 then (thrumref16_oneP.l0 k x3 x10 x12 x15 (y311 ++ [0]) x51 x52 (wrap64 (x53 + 1)) x270000 x270001) else (none))) else (none)) else (some (([] : List Int), bt307.2))))) else (none)) else (none)) else ((thrumref02_Scale.f x12 x10 x3).bind fun bt283 => (if bt283.2 = 0 then (if x17.length + bt283.1.length < 17592186044416 then ((some (x17 ++ bt283.1 : List Int)).bind fun y287 => (if y287.length < 17592186044416 then (some ((y287 ++ [x10]), 0)) else (none))) else (none)) else (some (([] : List Int), bt283.2))))
def thrumref16_oneP.f (k : Nat) (a0 : Int) (l1 : List Int) (l2_0 : List Int) (a2_1 : Int) (a3 : Int) : Option (List Int × Int) := (thrumref16_Off.f a0 l1 l2_0 a2_1 a3).bind fun bt270 => (if bt270.2 = 0 then ((thrumref16_Hidden.f a0 l1 l2_0 a3).bind fun bt272 => ((thrumref16_Split.f a0 l1).bind fun bt276 => (thrumref16_oneP.l0 k a3 bt270.1 bt272.1 bt276.2.1 ([] : List Int) bt272.1 (bt272.1.length : Int) 0 l2_0 a2_1))) else (some (([] : List Int), bt270.2)))
theorem thrumref16_oneP.mono_l : ∀ k, (∀ y0 y1 y2 y3 y4 y5 y6 y7 y8 y9, LeO (thrumref16_oneP.l0 k y0 y1 y2 y3 y4 y5 y6 y7 y8 y9) (thrumref16_oneP.l0 (k + 1) y0 y1 y2 y3 y4 y5 y6 y7 y8 y9))
 | 0 => fun _ _ _ _ _ _ _ _ _ _ r h => by simp [thrumref16_oneP.l0] at h
 | k + 1 => by
  have ih0 := thrumref16_oneP.mono_l k
  ·
   intro y0 y1 y2 y3 y4 y5 y6 y7 y8 y9
   unfold thrumref16_oneP.l0
   repeat' first
   | (with_reducible exact ih0 _ _ _ _ _ _ _ _ _ _)
   | (with_reducible exact LeO.refl _)
   | (with_reducible exact LeO.none _)
   | (with_reducible refine LeO.ite ?_ ?_)
   | (with_reducible refine LeO.bind ?_ (fun _ => ?_))
   | exact ih0 _ _ _ _ _ _ _ _ _ _
   | exact LeO.none _
   | refine LeO.ite ?_ ?_
   | refine LeO.bind ?_ (fun _ => ?_)
theorem thrumref16_oneP.mono : ∀ a0 a1 a2 a3 a4 k, LeO (thrumref16_oneP.f k a0 a1 a2 a3 a4) (thrumref16_oneP.f (k + 1) a0 a1 a2 a3 a4) := by
 intro a0 a1 a2 a3 a4 k
 have ih0 := thrumref16_oneP.mono_l k
 unfold thrumref16_oneP.f
 repeat' first
   | (with_reducible exact ih0 _ _ _ _ _ _ _ _ _ _)
   | (with_reducible exact LeO.refl _)
   | (with_reducible exact LeO.none _)
   | (with_reducible refine LeO.ite ?_ ?_)
   | (with_reducible refine LeO.bind ?_ (fun _ => ?_))
   | exact ih0 _ _ _ _ _ _ _ _ _ _
   | exact LeO.none _
   | refine LeO.ite ?_ ?_
   | refine LeO.bind ?_ (fun _ => ?_)
set_option maxHeartbeats 8000000 in
set_option maxRecDepth 100000 in
theorem thrumref16_oneP.calls (k : Nat) (a0 : Int) (A1 : Option Addr) (c1 : Nat) (l1 : List Int) (A2_0 : Option Addr) (c2_0 : Nat) (l2_0 : List Int) (a2_1 : Int) (a3 : Int) (r1 : List Int) (r2 : Int) (w : World) (hr1 : Kd.C (Kd.int .i64) w A1 l1.length l1) (hc1 : l1.length ≤ c1) (hr2_0 : Kd.C (Kd.int .i64) w A2_0 l2_0.length l2_0) (hc2_0 : l2_0.length ≤ c2_0) (h : thrumref16_oneP.f k a0 l1 l2_0 a2_1 a3 = some (r1, r2)) :
  Calls Try.prog 47 #[.int .i64 a0, .slice A1 l1.length c1, .agg #[.slice A2_0 l2_0.length c2_0, .int .i64 a2_1], .int .i64 a3] w fun e w' => ∃ v0_ : Value, e = .returned (.tuple #[v0_, .int .i64 r2]) ∧ Kd.R (Kd.int .i64) 2 w' w.heap.size (fun _ => True) v0_ r1 ∧ Below w.heap.size w w' := by
 have hu26 := Try.underlying26
 have HR1 := Aside0.mk hr1
 have HC1 := Aside0.mk hc1
 clear hr1 hc1
 have HR2_0 := Aside0.mk hr2_0
 have HC2_0 := Aside0.mk hc2_0
 clear hr2_0 hc2_0
 have HB := Aside0.mk (Below.refl w.heap.size w)
 have H : ((thrumref16_Off.f a0 l1 l2_0 a2_1 a3).bind fun bt270 => (if bt270.2 = 0 then ((thrumref16_Hidden.f a0 l1 l2_0 a3).bind fun bt272 => ((thrumref16_Split.f a0 l1).bind fun bt276 => (thrumref16_oneP.l0 k a3 bt270.1 bt272.1 bt276.2.1 ([] : List Int) bt272.1 (bt272.1.length : Int) 0 l2_0 a2_1))) else (some (([] : List Int), bt270.2)))) = some (r1, r2) := h
 clear h
 replace H := Option.bind_eq_some_iff.mp H
 obtain ⟨⟨t270, t271⟩, A50, H⟩ := H
 replace H : (if t271 = 0 then ((thrumref16_Hidden.f a0 l1 l2_0 a3).bind fun bt272 => ((thrumref16_Split.f a0 l1).bind fun bt276 => (thrumref16_oneP.l0 k a3 t270 bt272.1 bt276.2.1 ([] : List Int) bt272.1 (bt272.1.length : Int) 0 l2_0 a2_1))) else (some (([] : List Int), t271))) = some (r1, r2) := H
 have A5 := Aside0.mk A50
 clear A50
 by_cases c6 : t271 = 0
 ·
  rw [if_pos c6] at H
  have c6b0 : (t271 == 0) = true := beq_iff_eq.mpr c6
  have c6b1 : (t271 != 0) = false := bne_eq_false_iff_eq.mpr c6
  clear c6
  replace H := Option.bind_eq_some_iff.mp H
  obtain ⟨⟨t272, t273⟩, A70, H⟩ := H
  replace H : ((thrumref16_Split.f a0 l1).bind fun bt276 => (thrumref16_oneP.l0 k a3 t270 t272 bt276.2.1 ([] : List Int) t272 (t272.length : Int) 0 l2_0 a2_1)) = some (r1, r2) := H
  have A7 := Aside0.mk A70
  clear A70
  replace H := Option.bind_eq_some_iff.mp H
  obtain ⟨⟨t276, t277, t278⟩, A80, H⟩ := H
  replace H : (thrumref16_oneP.l0 k a3 t270 t272 t277 ([] : List Int) t272 (t272.length : Int) 0 l2_0 a2_1) = some (r1, r2) := H
  have A8 := Aside0.mk A80
  clear A80
  have H' := Aside0.mk H
  clear H
  go_enter Try.func47, Try.ntmps47
  go_wp2_with (first | ((with_reducible refine gate_dst (N := 6) rfl ?_); refine box_event ?hg (N := 6) ?hd (cs := #[.slice A2_0 l2_0.length c2_0, .int .i64 a2_1]) (t := 26) ?hr ?_; (case hd => rfl); (case hg => rfl); (case hr => first | (go_simp; done) | (go_simp; rfl)); intro gb269 hg w9 hbox hb; have n0_ := Aside0.mk (zzT (by repeat (first | (with_reducible first | exact HB.out | apply zzA | apply zzN | apply zzD) | exact HB.out)) hb); have n1_ := Aside0.mk (hbox); have n2_ := Aside0.mk ((by rw [hg]; exact (zzS (by repeat (first | (with_reducible first | exact HB.out | apply zzA | apply zzN | apply zzD) | exact HB.out))) : w.heap.size ≤ gb269)); have n3_ := Aside0.mk ((by rw [hg]; exact (zzS (by repeat (first | (with_reducible first | exact HB.out | apply zzA | apply zzN | apply zzD) | exact HB.out))) : w.heap.size ≤ gb269)); clear HB; have HB := n0_; have BK269 := n1_; have GW269 := n2_; have GE269 := n3_; clear n0_ n1_ n2_ n3_; clear hb hbox hg; have hcz10_0 : w9.cell? ⟨gb269, 0, none⟩ = some (.slice A2_0 l2_0.length c2_0) := (blk_cell BK269.out 0).trans rfl; have hcz10_1 : w9.cell? ⟨gb269, 1, none⟩ = some (.int .i64 a2_1) := (blk_cell BK269.out 1).trans rfl; have hfz10_0 := blk_frozen BK269.out 0; have hfz10_1 := blk_frozen BK269.out 1) | ((with_reducible refine gate_callee (f := 17) rfl ?_); refine goesL_ (some 29) rfl rfl Try.func17 (by kernel_rfl) rfl #[.int .i64 a0, .slice A1 l1.length c1, .agg #[.slice A2_0 l2_0.length c2_0, .int .i64 a2_1], .int .i64 a3] rfl (by (try simp only [List.map_toArray, List.map_cons, List.map_nil]); first | done | rfl | (simp only [List.length_drop, List.length_take]; rfl)) ?_; (with_reducible refine (thrumref16_Off.calls a0 _ _ l1 _ _ l2_0 a2_1 a3 t270 t271 _ ?side1 ?side2 ?side3 ?side4 A5.out).mono ?_); (case side1 => repeat (first | exact (Kd.C_below HR1.out HB.out) | (with_reducible refine ccA ?_ _) | (with_reducible refine ccN ?_ _) | (with_reducible refine ccD ?_))); (case side2 => exact HC1.out); (case side3 => repeat (first | exact (Kd.C_below HR2_0.out HB.out) | (with_reducible refine ccA ?_ _) | (with_reducible refine ccN ?_ _) | (with_reducible refine ccD ?_))); (case side4 => exact HC2_0.out); rintro e w11 ⟨rfl, hb⟩; refine ⟨_, rfl, ?_⟩; have n0_ := Aside0.mk (blk_below (g := gb269) (o := .cells #[.slice A2_0 l2_0.length c2_0, .int .i64 a2_1] 26 (0, 0)) (by (with_reducible repeat (first | refine kkN ?_ _ | refine kkD ?_ | refine kkA ?_ _)); exact BK269.out) hb); have n1_ := Aside0.mk (zzT (by repeat (first | (with_reducible first | exact HB.out | apply zzA | apply zzN | apply zzD | refine below_set ?_ GE269.out) | exact HB.out)) hb); clear BK269; clear HB; have BK269 := n0_; have HB := n1_; clear n0_ n1_; (try clear hb); (try clear hb2); (try clear hk); (try clear hi); have hcz12_0 : w11.cell? ⟨gb269, 0, none⟩ = some (.slice A2_0 l2_0.length c2_0) := (blk_cell BK269.out 0).trans rfl; have hcz12_1 : w11.cell? ⟨gb269, 1, none⟩ = some (.int .i64 a2_1) := (blk_cell BK269.out 1).trans rfl; have hfz12_0 := blk_frozen BK269.out 0; have hfz12_1 := blk_frozen BK269.out 1) | ((with_reducible refine gate_callee (f := 15) rfl ?_); refine goesL_ (some 41) rfl rfl Try.func15 (by kernel_rfl) rfl #[.int .i64 a0, .slice A1 l1.length c1, .slice A2_0 l2_0.length c2_0, .int .i64 a3] rfl (by (try simp only [List.map_toArray, List.map_cons, List.map_nil]); first | done | rfl | (simp only [List.length_drop, List.length_take]; rfl)) ?_; (with_reducible refine (thrumref16_Hidden.calls a0 _ _ l1 _ _ l2_0 a3 t272 t273 _ ?side1 ?side2 ?side3 ?side4 A7.out).mono ?_); (case side1 => repeat (first | exact (Kd.C_below HR1.out HB.out) | (with_reducible refine ccA ?_ _) | (with_reducible refine ccN ?_ _) | (with_reducible refine ccD ?_))); (case side2 => exact HC1.out); (case side3 => repeat (first | exact (Kd.C_below HR2_0.out HB.out) | (with_reducible refine ccA ?_ _) | (with_reducible refine ccN ?_ _) | (with_reducible refine ccD ?_))); (case side4 => exact HC2_0.out); rintro e w13 ⟨v274, rfl, ho0, hb⟩; refine ⟨_, rfl, ?_⟩; have n0_ := Aside0.mk (Kd.R_lower ho0 (zzS (by repeat (first | (with_reducible first | exact HB.out | apply zzA | apply zzN | apply zzD | refine below_set ?_ GE269.out) | exact HB.out)))); have n1_ := Aside0.mk (blk_below (g := gb269) (o := .cells #[.slice A2_0 l2_0.length c2_0, .int .i64 a2_1] 26 (0, 0)) (by (with_reducible repeat (first | refine kkN ?_ _ | refine kkD ?_ | refine kkA ?_ _)); exact BK269.out) hb); have n2_ := Aside0.mk (zzT (by repeat (first | (with_reducible first | exact HB.out | apply zzA | apply zzN | apply zzD | refine below_set ?_ GE269.out) | exact HB.out)) hb); clear BK269; clear HB; have HO275 := n0_; have BK269 := n1_; have HB := n2_; clear n0_ n1_ n2_; (try clear hb); (try clear hb2); (try clear hk); (try clear hi); (try clear ho0)) | ((with_reducible refine gate_callee (f := 18) rfl ?_); refine goesL_ (some 47) rfl rfl Try.func18 (by kernel_rfl) rfl #[.int .i64 a0, .slice A1 l1.length c1] rfl (by (try simp only [List.map_toArray, List.map_cons, List.map_nil]); first | done | rfl | (simp only [List.length_drop, List.length_take]; rfl)) ?_; (with_reducible refine (thrumref16_Split.calls a0 _ _ l1 t276 t277 t278 _ ?side1 ?side2 A8.out).mono ?_); (case side1 => repeat (first | exact (Kd.C_below HR1.out HB.out) | (with_reducible refine ccA ?_ _) | (with_reducible refine ccN ?_ _) | (with_reducible refine ccD ?_))); (case side2 => exact HC1.out); rintro e w14 ⟨v279, v281, rfl, ho0, ho1, hb⟩; refine ⟨_, rfl, ?_⟩; have n0_ := Aside0.mk (Kd.R_elder' (by (with_reducible repeat (first | apply rrA | apply rrN | apply rrD)); exact HO275.out) (Kd.R_base ho1) hb); have n1_ := Aside0.mk (Kd.S_lower (Kd.S_new' ho0 (Kd.R_lt (by (with_reducible repeat (first | apply rrA | apply rrN | apply rrD)); exact HO275.out))) (zzS (by repeat (first | (with_reducible first | exact HB.out | apply zzA | apply zzN | apply zzD | refine below_set ?_ GE269.out) | exact HB.out)))); have n2_ := Aside0.mk (Kd.R_lower (Kd.R_new' ho1 (Kd.R_lt (by (with_reducible repeat (first | apply rrA | apply rrN | apply rrD)); exact HO275.out))) (zzS (by repeat (first | (with_reducible first | exact HB.out | apply zzA | apply zzN | apply zzD | refine below_set ?_ GE269.out) | exact HB.out)))); have n3_ := Aside0.mk (blk_below (g := gb269) (o := .cells #[.slice A2_0 l2_0.length c2_0, .int .i64 a2_1] 26 (0, 0)) (by (with_reducible repeat (first | refine kkN ?_ _ | refine kkD ?_ | refine kkA ?_ _)); exact BK269.out) hb); have n4_ := Aside0.mk (zzT (by repeat (first | (with_reducible first | exact HB.out | apply zzA | apply zzN | apply zzD | refine below_set ?_ GE269.out) | exact HB.out)) hb); clear HO275; clear BK269; clear HB; have HO275 := n0_; have HO280 := n1_; have HO282 := n2_; have BK269 := n3_; have HB := n4_; clear n0_ n1_ n2_ n3_ n4_; (try clear hb); (try clear hb2); (try clear hk); (try clear hi); (try clear ho0); (try clear ho1); obtain ⟨Ao15, co15, eo15⟩ := Kd.R_slice HO275.out; subst eo15))
  go_loopg [17, 53] k (fun kq v17 v53 w' => ∃ (x17_1 : List Int) (x53_1 : Int), v53 = .int .i64 x53_1 ∧ Aside0 (thrumref16_oneP.l0 kq a3 t270 t272 t277 x17_1 t272 (t272.length : Int) x53_1 l2_0 a2_1 = some (r1, r2)) ∧ Aside0 (kq ≤ k) ∧ Aside0 (Kd.R (Kd.int .i64) 2 w' w.heap.size (fun k_ => some k_ ≠ (v281 : Value).ownBlock ∧ some k_ ≠ (v17 : Value).ownBlock) (.slice Ao15 t272.length co15) t272) ∧ Aside0 (Kd.R (Kd.int .i64) 2 w' w.heap.size (fun k_ => some k_ ≠ ((.slice Ao15 t272.length co15) : Value).ownBlock ∧ some k_ ≠ (v17 : Value).ownBlock ∧ some k_ ≠ ((.slice Ao15 t272.length co15) : Value).ownBlock) v281 t277) ∧ Aside0 (Kd.R (Kd.int .i64) 2 w' w.heap.size (fun k_ => some k_ ≠ ((.slice Ao15 t272.length co15) : Value).ownBlock ∧ some k_ ≠ (v281 : Value).ownBlock ∧ some k_ ≠ ((.slice Ao15 t272.length co15) : Value).ownBlock) v17 x17_1) ∧ Aside0 (Kd.R (Kd.int .i64) 2 w' w.heap.size (fun k_ => some k_ ≠ (v281 : Value).ownBlock ∧ some k_ ≠ (v17 : Value).ownBlock) (.slice Ao15 t272.length co15) t272) ∧ Aside0 (w'.heap[gb269]? = some (.cells #[(.slice A2_0 l2_0.length c2_0), .int .i64 a2_1] 26 (0, 0))) ∧ Aside0 (Below w.heap.size w w'))
  case atStart => exact ⟨(([] : List Int)), (0), (by first | rfl | (simp; done) | (simp [*]; done)), H', ⟨Nat.le_refl _⟩, ⟨by (with_reducible repeat (first | apply rrA | apply rrN | apply rrD)); exact Kd.R_mono HO275.out (fun _ hk => ⟨hk.2, (by simp [Value.ownBlock])⟩)⟩, ⟨by (with_reducible repeat (first | apply rrA | apply rrN | apply rrD)); exact Kd.R_mono HO282.out (fun _ hk => ⟨hk.2, ⟨(by simp [Value.ownBlock]), hk.2⟩⟩)⟩, ⟨by first | exact Kd.R_nil _ _ _ _ _ | exact Kd.N_nil _ _ _ _ _ | exact Kd.V_nil _ _ _ _ _ | exact Kd.Q_nil _ _ _ _ _ | exact Kd.S_nil _ _ _ _ _⟩, ⟨by (with_reducible repeat (first | apply rrA | apply rrN | apply rrD)); exact Kd.R_mono HO275.out (fun _ hk => ⟨hk.2, (by simp [Value.ownBlock])⟩)⟩, ⟨by (with_reducible repeat (first | refine kkN ?_ _ | refine kkD ?_ | refine kkA ?_ _)); exact BK269.out⟩, ⟨by repeat (first | (with_reducible first | exact HB.out | apply zzA | apply zzN | apply zzD | refine below_set ?_ GE269.out) | exact HB.out)⟩⟩
  case round =>
   clear H'
   try clear c1
   try clear c2
   try clear p2
   try clear c4
   try clear c6
   try clear c6b0
   try clear c6b1
   try clear c15
   try clear hcz10_0
   try clear hcz10_1
   try clear hcz12_0
   try clear hcz12_1
   try clear hfz10_0
   try clear hfz10_1
   try clear hfz12_0
   try clear hfz12_1
   obtain ⟨x17_1, x53_1, rfl, HA, HK1, HO_12, HO_15, HO_17, HO_51, BK269, HB⟩ := hrel
   cases gk with
   | zero => exact absurd HA.out (by simp [thrumref16_oneP.l0])
   | succ k1 =>
    have H := HA.out
    clear HA
    simp only [thrumref16_oneP.l0] at H
    by_cases c16 : x53_1 < (t272.length : Int)
    ·
     rw [if_pos c16] at H
     have c16b0 : decide (x53_1 < (t272.length : Int)) = true := decide_eq_true c16
     clear c16
     by_cases c17 : 0 ≤ x53_1
     ·
      rw [if_pos c17] at H
      have c17b0 : decide (0 ≤ x53_1) = true := decide_eq_true c17
      clear c17
      by_cases c18 : x53_1 < (t272.length : Int)
      ·
       rw [if_pos c18] at H
       have c18b0 : decide (x53_1 < (t272.length : Int)) = true := decide_eq_true c18
       clear c18
       by_cases c19 : (rd t272 x53_1) > 0
       ·
        rw [if_pos c19] at H
        have c19b0 : decide (0 < (rd t272 x53_1)) = true := decide_eq_true c19
        clear c19
        by_cases c20 : x53_1 < (t277.length : Int)
        ·
         rw [if_pos c20] at H
         have c20b0 : decide (x53_1 < (t277.length : Int)) = true := decide_eq_true c20
         clear c20
         replace H := Option.bind_eq_some_iff.mp H
         obtain ⟨⟨t295, t296⟩, A210, H⟩ := H
         replace H : (if t296 = 0 then ((thrumref02_Scale.f l2_0 t295 a3).bind fun bt297 => (if bt297.2 = 0 then (if x17_1.length + bt297.1.length < 17592186044416 then ((some (x17_1 ++ bt297.1 : List Int)).bind fun y301 => (if y301.length < 17592186044416 then (thrumref16_oneP.l0 k1 a3 t270 t272 t277 (y301 ++ [t295]) t272 (t272.length : Int) (wrap64 (x53_1 + 1)) l2_0 a2_1) else (none))) else (none)) else (some (([] : List Int), bt297.2)))) else (some (([] : List Int), t296))) = some (r1, r2) := H
         have A21 := Aside0.mk A210
         clear A210
         by_cases c22 : t296 = 0
         ·
          rw [if_pos c22] at H
          have c22b0 : (t296 == 0) = true := beq_iff_eq.mpr c22
          have c22b1 : (t296 != 0) = false := bne_eq_false_iff_eq.mpr c22
          clear c22
          replace H := Option.bind_eq_some_iff.mp H
          obtain ⟨⟨t297, t298⟩, A230, H⟩ := H
          replace H : (if t298 = 0 then (if x17_1.length + t297.length < 17592186044416 then ((some (x17_1 ++ t297 : List Int)).bind fun y301 => (if y301.length < 17592186044416 then (thrumref16_oneP.l0 k1 a3 t270 t272 t277 (y301 ++ [t295]) t272 (t272.length : Int) (wrap64 (x53_1 + 1)) l2_0 a2_1) else (none))) else (none)) else (some (([] : List Int), t298))) = some (r1, r2) := H
          have A23 := Aside0.mk A230
          clear A230
          by_cases c24 : t298 = 0
          ·
           rw [if_pos c24] at H
           have c24b0 : (t298 == 0) = true := beq_iff_eq.mpr c24
           have c24b1 : (t298 != 0) = false := bne_eq_false_iff_eq.mpr c24
           clear c24
           by_cases c25 : x17_1.length + t297.length < 17592186044416
           ·
            rw [if_pos c25] at H
            have LMc25 := Aside0.mk c25
            clear c25
            obtain ⟨y301, hy301⟩ : ∃ y_ : List Int, y_ = (x17_1 ++ t297) := ⟨_, rfl⟩
            replace H : (if y301.length < 17592186044416 then (thrumref16_oneP.l0 k1 a3 t270 t272 t277 (y301 ++ [t295]) t272 (t272.length : Int) (wrap64 (x53_1 + 1)) l2_0 a2_1) else (none)) = some (r1, r2) := by first | (rw [hy301]; with_reducible exact H) | (have H2_ := (Option.bind_some _ _).symm.trans H; rw [hy301]; with_reducible exact H2_) | (have H2_ := (Option.bind_some _ _).symm.trans H; with_reducible exact H2_) | with_reducible exact H | (rw [hy301]; exact H) | exact H
            have Ny301 := Aside0.mk hy301
            clear hy301
            by_cases c26 : y301.length < 17592186044416
            ·
             rw [if_pos c26] at H
             have LMc26 := Aside0.mk c26
             clear c26
             obtain ⟨y304, hy304⟩ : ∃ y_ : List Int, y_ = (y301 ++ [t295]) := ⟨_, rfl⟩
             replace H : (thrumref16_oneP.l0 k1 a3 t270 t272 t277 y304 t272 (t272.length : Int) (wrap64 (x53_1 + 1)) l2_0 a2_1) = some (r1, r2) := by first | (rw [hy304]; with_reducible exact H) | (have H2_ := (Option.bind_some _ _).symm.trans H; rw [hy304]; with_reducible exact H2_) | (have H2_ := (Option.bind_some _ _).symm.trans H; with_reducible exact H2_) | with_reducible exact H | (rw [hy304]; exact H) | exact H
             have Ny304 := Aside0.mk hy304
             clear hy304
             have H' := Aside0.mk H
             clear H
             have p293 : 0 ≤ (x53_1 : Int) := of_decide_eq_true (by first | (with_reducible assumption) | assumption)
             have q293 : x53_1 < (t272.length : Int) := of_decide_eq_true (by first | (with_reducible assumption) | assumption)
             obtain ⟨ad293, e293, hx293_0⟩ := Kd.at_int (Kd.R_reads' HO_51.out).2.2 x53_1 p293 q293
             cases e293
             replace p293 := eq_true p293
             replace q293 := eq_true q293
             obtain ⟨Ao27, co27, eo27⟩ := Kd.R_slice HO_15.out
             subst eo27
             have p294 : 0 ≤ (x53_1 : Int) := of_decide_eq_true (by first | (with_reducible assumption) | assumption)
             have q294 : x53_1 < (t277.length : Int) := of_decide_eq_true (by first | (with_reducible assumption) | assumption)
             obtain ⟨ad294, e294, hx294_0⟩ := Kd.at_int (Kd.R_reads' HO_15.out).2.2 x53_1 p294 q294
             cases e294
             replace p294 := eq_true p294
             replace q294 := eq_true q294
             go_wp2_with (first | ((with_reducible refine gate_callee (f := 63) rfl ?_); refine goesL_ (some 67) rfl rfl Try.func63 (by kernel_rfl) rfl #[.int .i64 t270, .int .i64 (rd t277 x53_1), .int .i64 a3] rfl (by (try simp only [List.map_toArray, List.map_cons, List.map_nil]); first | done | rfl | (simp only [List.length_drop, List.length_take]; rfl)) ?_; (with_reducible refine (thrumref01_Mul.calls t270 (rd t277 x53_1) a3 t295 t296 _ A21.out).mono ?_); rintro e w' ⟨rfl, ⟨nd, rfl⟩⟩; refine ⟨_, rfl, ?_⟩; have hcz28_0 : wr.cell? ⟨gb269, 0, none⟩ = some (.slice A2_0 l2_0.length c2_0) := (blk_cell BK269.out 0).trans rfl; have hcz28_1 : wr.cell? ⟨gb269, 1, none⟩ = some (.int .i64 a2_1) := (blk_cell BK269.out 1).trans rfl; have hfz28_0 := blk_frozen BK269.out 0; have hfz28_1 := blk_frozen BK269.out 1) | ((with_reducible refine gate_callee (f := 64) rfl ?_); refine goesL_ (some 78) rfl rfl Try.func64 (by kernel_rfl) rfl #[.slice A2_0 l2_0.length c2_0, .int .i64 t295, .int .i64 a3] rfl (by (try simp only [List.map_toArray, List.map_cons, List.map_nil]); first | done | rfl | (simp only [List.length_drop, List.length_take]; rfl)) ?_; (with_reducible refine (thrumref02_Scale.calls _ _ l2_0 t295 a3 t297 t298 _ ?side1 ?side2 A23.out).mono ?_); (case side1 => repeat (first | exact (Kd.C_below HR2_0.out (by repeat (first | (with_reducible first | exact HB.out | apply zzA | apply zzN | apply zzD | refine below_set ?_ GE269.out) | exact HB.out))) | (with_reducible refine ccA ?_ _) | (with_reducible refine ccN ?_ _) | (with_reducible refine ccD ?_))); (case side2 => exact HC2_0.out); rintro e w29 ⟨v299, rfl, ho0, hb⟩; refine ⟨_, rfl, ?_⟩; have n0_ := Aside0.mk (Kd.R_elder' (by (with_reducible repeat (first | apply rrA | apply rrN | apply rrD)); exact HO_12.out) (Kd.R_base ho0) hb); have n1_ := Aside0.mk (Kd.R_elder' (by (with_reducible repeat (first | apply rrA | apply rrN | apply rrD)); exact HO_15.out) (Kd.R_base ho0) hb); have n2_ := Aside0.mk (Kd.R_elder' (by (with_reducible repeat (first | apply rrA | apply rrN | apply rrD)); exact HO_17.out) (Kd.R_base ho0) hb); have n3_ := Aside0.mk (Kd.R_elder' (by (with_reducible repeat (first | apply rrA | apply rrN | apply rrD)); exact HO_51.out) (Kd.R_base ho0) hb); have n4_ := Aside0.mk (Kd.R_lower (Kd.R_new' (Kd.R_new' (Kd.R_new' (Kd.R_new' ho0 (Kd.R_lt (by (with_reducible repeat (first | apply rrA | apply rrN | apply rrD)); exact HO_12.out))) (Kd.R_lt (by (with_reducible repeat (first | apply rrA | apply rrN | apply rrD)); exact HO_15.out))) (Kd.R_lt (by (with_reducible repeat (first | apply rrA | apply rrN | apply rrD)); exact HO_17.out))) (Kd.R_lt (by (with_reducible repeat (first | apply rrA | apply rrN | apply rrD)); exact HO_51.out))) (zzS (by repeat (first | (with_reducible first | exact HB.out | apply zzA | apply zzN | apply zzD | refine below_set ?_ GE269.out) | exact HB.out)))); have n5_ := Aside0.mk (blk_below (g := gb269) (o := .cells #[.slice A2_0 l2_0.length c2_0, .int .i64 a2_1] 26 (0, 0)) (by (with_reducible repeat (first | refine kkN ?_ _ | refine kkD ?_ | refine kkA ?_ _)); exact BK269.out) hb); have n6_ := Aside0.mk (zzT (by repeat (first | (with_reducible first | exact HB.out | apply zzA | apply zzN | apply zzD | refine below_set ?_ GE269.out) | exact HB.out)) hb); clear HO_12; clear HO_15; clear HO_17; clear HO_51; clear BK269; clear HB; have HO_12 := n0_; have HO_15 := n1_; have HO_17 := n2_; have HO_51 := n3_; have HO300 := n4_; have BK269 := n5_; have HB := n6_; clear n0_ n1_ n2_ n3_ n4_ n5_ n6_; (try clear hb); (try clear hb2); (try clear hk); (try clear hi); (try clear ho0); obtain ⟨Ao31, co31, eo31⟩ := Kd.R_slice HO300.out; subst eo31) | ((with_reducible refine gate_builtin (b := .append) (xs := #[.tmp 84, .tmp 85]) rfl ?_); at_builtin; refine Kd.R_append_rows (Kd.int .i64) (w0 := w) w.heap.size rfl (.tmp 84) (.tmp 85) 22 2 (.int .i64 0) 8 rfl Try.underlying22 info2 rfl (by decide) (by omega) u17 x17_1 t297 _ _ _ (fun k_ => some k_ ≠ (.slice (some ad293) t272.length co15 : Value).ownBlock ∧ some k_ ≠ (.slice (some ad294) t277.length co27 : Value).ownBlock ∧ some k_ ≠ (.slice (some ad293) t272.length co15 : Value).ownBlock ∧ some k_ ≠ (.slice Ao31 t297.length co31 : Value).ownBlock) (fun _ => False) rfl rfl ?aO ?aR (fun _ _ h => h) (fun _ h => h.elim) ?aF ?aB ?aS ?aL ?_; (case aR => repeat (first | exact (Kd.R_reads' HO300.out).2.2 | (with_reducible refine ccA ?_ _) | (with_reducible refine ccN ?_ _) | (with_reducible refine ccD ?_))); (case aB => exact (by repeat (first | (with_reducible first | exact HB.out | apply zzA | apply zzN | apply zzD | refine below_set ?_ GE269.out) | exact HB.out))); (case aF => exact (fun k_ hk => ⟨Kd.fresh' (Kd.R_lt (by (with_reducible repeat (first | apply rrA | apply rrN | apply rrD)); exact HO_12.out)) k_ hk, Kd.fresh' (Kd.R_lt (by (with_reducible repeat (first | apply rrA | apply rrN | apply rrD)); exact HO_15.out)) k_ hk, Kd.fresh' (Kd.R_lt (by (with_reducible repeat (first | apply rrA | apply rrN | apply rrD)); exact HO_51.out)) k_ hk, Kd.fresh' (Kd.R_lt (by (with_reducible repeat (first | apply rrA | apply rrN | apply rrD)); exact HO300.out)) k_ hk⟩)); (case aO => exact (by (with_reducible repeat (first | apply rrA | apply rrN | apply rrD)); exact Kd.R_mono HO_17.out (fun _ hk => ⟨hk.1.1, ⟨hk.1.2.1, ⟨hk.1.2.2, hk.2⟩⟩⟩))); (case aS => exact (zzS (by repeat (first | (with_reducible first | exact HB.out | apply zzA | apply zzN | apply zzD | refine below_set ?_ GE269.out) | exact HB.out)))); (case aL => have := LMc25.out; omega); intro v302 w30 ho hb hg hat; rw [← Ny301.out] at ho; have n0_ := Aside0.mk (Kd.R_after (ok := (fun k_ => some k_ ≠ (.slice (some ad294) t277.length co27 : Value).ownBlock ∧ some k_ ≠ (.slice Ao31 t297.length co31 : Value).ownBlock)) (by (with_reducible repeat (first | apply rrA | apply rrN | apply rrD)); exact Kd.R_mono HO_12.out (fun _ hk => ⟨⟨hk.1.1, hk.2⟩, hk.1.2⟩)) hg hat); have n1_ := Aside0.mk (Kd.R_after (ok := (fun k_ => some k_ ≠ (.slice (some ad293) t272.length co15 : Value).ownBlock ∧ some k_ ≠ (.slice (some ad293) t272.length co15 : Value).ownBlock ∧ some k_ ≠ (.slice Ao31 t297.length co31 : Value).ownBlock)) (by (with_reducible repeat (first | apply rrA | apply rrN | apply rrD)); exact Kd.R_mono HO_15.out (fun _ hk => ⟨⟨hk.1.1, ⟨hk.1.2.2, hk.2⟩⟩, hk.1.2.1⟩)) hg hat); have n2_ := Aside0.mk (Kd.R_after (ok := (fun k_ => some k_ ≠ (.slice (some ad294) t277.length co27 : Value).ownBlock ∧ some k_ ≠ (.slice Ao31 t297.length co31 : Value).ownBlock)) (by (with_reducible repeat (first | apply rrA | apply rrN | apply rrD)); exact Kd.R_mono HO_51.out (fun _ hk => ⟨⟨hk.1.1, hk.2⟩, hk.1.2⟩)) hg hat); have n3_ := Aside0.mk (blk_grown (g := gb269) (o := .cells #[.slice A2_0 l2_0.length c2_0, .int .i64 a2_1] 26 (0, 0)) (by (with_reducible repeat (first | refine kkN ?_ _ | refine kkD ?_ | refine kkA ?_ _)); exact BK269.out) hg (Kd.R_ne HO_17.out BK269.out (by decide))); have n4_ := Aside0.mk (Kd.R_after (ok := (fun k_ => some k_ ≠ (.slice (some ad293) t272.length co15 : Value).ownBlock ∧ some k_ ≠ (.slice (some ad294) t277.length co27 : Value).ownBlock ∧ some k_ ≠ (.slice (some ad293) t272.length co15 : Value).ownBlock)) (by (with_reducible repeat (first | apply rrA | apply rrN | apply rrD)); exact Kd.R_mono HO300.out (fun _ hk => ⟨⟨hk.1.1.1.2, ⟨hk.1.1.2, hk.2⟩⟩, hk.1.2⟩)) hg hat); have n5_ := Aside0.mk (hb); have n6_ := Aside0.mk (ho); clear HO_12; clear HO_15; clear HO_51; clear BK269; clear HO300; clear HB; clear HO_17; have HO_12 := n0_; have HO_15 := n1_; have HO_51 := n2_; have BK269 := n3_; have HO300 := n4_; have HB := n5_; have HO303 := n6_; clear n0_ n1_ n2_ n3_ n4_ n5_ n6_; clear ho hb hg hat) | ((with_reducible refine gate_builtin (b := .append) (xs := #[.tmp 86, .tmp 88]) rfl ?_); at_builtin; refine Kd.R_append (Kd.int .i64) (w0 := w) w.heap.size rfl (.tmp 86) (.tmp 88) 22 2 (.int .i64 0) 8 rfl Try.underlying22 info2 rfl (by decide) (by omega) v302 y301 t295 [.int .i64 t295] (fun k_ => some k_ ≠ (.slice (some ad293) t272.length co15 : Value).ownBlock ∧ some k_ ≠ (.slice (some ad294) t277.length co27 : Value).ownBlock ∧ some k_ ≠ (.slice (some ad293) t272.length co15 : Value).ownBlock ∧ some k_ ≠ (.slice Ao31 t297.length co31 : Value).ownBlock) (fun _ => False) rfl rfl ?aP (fun _ hk => hk.elim) ?aF ?aO ?aB ?aS ?aL ?_; (case aP => exact rfl); (case aB => exact (by repeat (first | (with_reducible first | exact HB.out | apply zzA | apply zzN | apply zzD | refine below_set ?_ GE269.out) | exact HB.out))); (case aF => exact (fun k_ hk => ⟨Kd.fresh' (Kd.R_lt (by (with_reducible repeat (first | apply rrA | apply rrN | apply rrD)); exact HO_12.out)) k_ hk, Kd.fresh' (Kd.R_lt (by (with_reducible repeat (first | apply rrA | apply rrN | apply rrD)); exact HO_15.out)) k_ hk, Kd.fresh' (Kd.R_lt (by (with_reducible repeat (first | apply rrA | apply rrN | apply rrD)); exact HO_51.out)) k_ hk, Kd.fresh' (Kd.R_lt (by (with_reducible repeat (first | apply rrA | apply rrN | apply rrD)); exact HO300.out)) k_ hk⟩)); (case aO => exact (by (with_reducible repeat (first | apply rrA | apply rrN | apply rrD)); exact HO303.out)); (case aS => exact (zzS (by repeat (first | (with_reducible first | exact HB.out | apply zzA | apply zzN | apply zzD | refine below_set ?_ GE269.out) | exact HB.out)))); (case aL => have := LMc26.out; omega); intro v305 w32 ho hb hg hat; rw [← Ny304.out] at ho; have n0_ := Aside0.mk (Kd.R_after (ok := (fun k_ => some k_ ≠ (.slice (some ad294) t277.length co27 : Value).ownBlock ∧ some k_ ≠ (.slice Ao31 t297.length co31 : Value).ownBlock)) (by (with_reducible repeat (first | apply rrA | apply rrN | apply rrD)); exact HO_12.out) hg hat); have n1_ := Aside0.mk (Kd.R_after (ok := (fun k_ => some k_ ≠ (.slice (some ad293) t272.length co15 : Value).ownBlock ∧ some k_ ≠ (.slice (some ad293) t272.length co15 : Value).ownBlock ∧ some k_ ≠ (.slice Ao31 t297.length co31 : Value).ownBlock)) (by (with_reducible repeat (first | apply rrA | apply rrN | apply rrD)); exact HO_15.out) hg hat); have n2_ := Aside0.mk (Kd.R_after (ok := (fun k_ => some k_ ≠ (.slice (some ad294) t277.length co27 : Value).ownBlock ∧ some k_ ≠ (.slice Ao31 t297.length co31 : Value).ownBlock)) (by (with_reducible repeat (first | apply rrA | apply rrN | apply rrD)); exact HO_51.out) hg hat); have n3_ := Aside0.mk (blk_grown (g := gb269) (o := .cells #[.slice A2_0 l2_0.length c2_0, .int .i64 a2_1] 26 (0, 0)) (by (with_reducible repeat (first | refine kkN ?_ _ | refine kkD ?_ | refine kkA ?_ _)); exact BK269.out) hg (Kd.R_ne HO303.out BK269.out (by decide))); have n4_ := Aside0.mk (Kd.R_after (ok := (fun k_ => some k_ ≠ (.slice (some ad293) t272.length co15 : Value).ownBlock ∧ some k_ ≠ (.slice (some ad294) t277.length co27 : Value).ownBlock ∧ some k_ ≠ (.slice (some ad293) t272.length co15 : Value).ownBlock)) (by (with_reducible repeat (first | apply rrA | apply rrN | apply rrD)); exact HO300.out) hg hat); have n5_ := Aside0.mk (hb); have n6_ := Aside0.mk (ho); clear HO_12; clear HO_15; clear HO_51; clear BK269; clear HO300; clear HB; clear HO303; have HO_12 := n0_; have HO_15 := n1_; have HO_51 := n2_; have BK269 := n3_; have HO300 := n4_; have HB := n5_; have HO306 := n6_; clear n0_ n1_ n2_ n3_ n4_ n5_ n6_; clear ho hb hg hat))
             go_roundg k1
             case measure => have := HK1.out; omega
             case rel => exact ⟨(y304), (wrap64 (x53_1 + 1)), (by first | rfl | (simp; done) | (simp [*]; done)), H', ⟨by have := HK1.out; omega⟩, ⟨by (with_reducible repeat (first | apply rrA | apply rrN | apply rrD)); exact Kd.R_mono HO_12.out (fun _ hk => ⟨hk.1.1, hk.2⟩)⟩, ⟨by (with_reducible repeat (first | apply rrA | apply rrN | apply rrD)); exact Kd.R_mono HO_15.out (fun _ hk => ⟨hk.1.1, ⟨hk.2, hk.1.2.1⟩⟩)⟩, ⟨by (with_reducible repeat (first | apply rrA | apply rrN | apply rrD)); exact Kd.R_mono HO306.out (fun _ hk => ⟨hk.1, ⟨hk.2.1, hk.2.2.1⟩⟩)⟩, ⟨by (with_reducible repeat (first | apply rrA | apply rrN | apply rrD)); exact Kd.R_mono HO_51.out (fun _ hk => ⟨hk.1.1, hk.2⟩)⟩, ⟨by (with_reducible repeat (first | refine kkN ?_ _ | refine kkD ?_ | refine kkA ?_ _)); exact BK269.out⟩, ⟨by repeat (first | (with_reducible first | exact HB.out | apply zzA | apply zzN | apply zzD | refine below_set ?_ GE269.out) | exact HB.out)⟩⟩
            ·
             rw [if_neg c26] at H
             exact absurd H (by simp)
           ·
            rw [if_neg c25] at H
            exact absurd H (by simp)
          ·
           rw [if_neg c24] at H
           have c24b0 : (t298 == 0) = false := beq_eq_false_iff_ne.mpr c24
           have c24b1 : (t298 != 0) = true := bne_iff_ne.mpr c24
           simp only [Option.some.injEq, Prod.mk.injEq] at H
           obtain ⟨rfl, rfl⟩ := H
           have p293 : 0 ≤ (x53_1 : Int) := of_decide_eq_true (by first | (with_reducible assumption) | assumption)
           have q293 : x53_1 < (t272.length : Int) := of_decide_eq_true (by first | (with_reducible assumption) | assumption)
           obtain ⟨ad293, e293, hx293_0⟩ := Kd.at_int (Kd.R_reads' HO_51.out).2.2 x53_1 p293 q293
           cases e293
           replace p293 := eq_true p293
           replace q293 := eq_true q293
           obtain ⟨Ao33, co33, eo33⟩ := Kd.R_slice HO_15.out
           subst eo33
           have p294 : 0 ≤ (x53_1 : Int) := of_decide_eq_true (by first | (with_reducible assumption) | assumption)
           have q294 : x53_1 < (t277.length : Int) := of_decide_eq_true (by first | (with_reducible assumption) | assumption)
           obtain ⟨ad294, e294, hx294_0⟩ := Kd.at_int (Kd.R_reads' HO_15.out).2.2 x53_1 p294 q294
           cases e294
           replace p294 := eq_true p294
           replace q294 := eq_true q294
           go_wp2_with (first | ((with_reducible refine gate_callee (f := 63) rfl ?_); refine goesL_ (some 67) rfl rfl Try.func63 (by kernel_rfl) rfl #[.int .i64 t270, .int .i64 (rd t277 x53_1), .int .i64 a3] rfl (by (try simp only [List.map_toArray, List.map_cons, List.map_nil]); first | done | rfl | (simp only [List.length_drop, List.length_take]; rfl)) ?_; (with_reducible refine (thrumref01_Mul.calls t270 (rd t277 x53_1) a3 t295 t296 _ A21.out).mono ?_); rintro e w' ⟨rfl, ⟨nd, rfl⟩⟩; refine ⟨_, rfl, ?_⟩; have hcz34_0 : wr.cell? ⟨gb269, 0, none⟩ = some (.slice A2_0 l2_0.length c2_0) := (blk_cell BK269.out 0).trans rfl; have hcz34_1 : wr.cell? ⟨gb269, 1, none⟩ = some (.int .i64 a2_1) := (blk_cell BK269.out 1).trans rfl; have hfz34_0 := blk_frozen BK269.out 0; have hfz34_1 := blk_frozen BK269.out 1) | ((with_reducible refine gate_callee (f := 64) rfl ?_); refine goesL_ (some 78) rfl rfl Try.func64 (by kernel_rfl) rfl #[.slice A2_0 l2_0.length c2_0, .int .i64 t295, .int .i64 a3] rfl (by (try simp only [List.map_toArray, List.map_cons, List.map_nil]); first | done | rfl | (simp only [List.length_drop, List.length_take]; rfl)) ?_; (with_reducible refine (thrumref02_Scale.calls _ _ l2_0 t295 a3 t297 t298 _ ?side1 ?side2 A23.out).mono ?_); (case side1 => repeat (first | exact (Kd.C_below HR2_0.out (by repeat (first | (with_reducible first | exact HB.out | apply zzA | apply zzN | apply zzD | refine below_set ?_ GE269.out) | exact HB.out))) | (with_reducible refine ccA ?_ _) | (with_reducible refine ccN ?_ _) | (with_reducible refine ccD ?_))); (case side2 => exact HC2_0.out); rintro e w35 ⟨v299, rfl, ho0, hb⟩; refine ⟨_, rfl, ?_⟩; have n0_ := Aside0.mk (Kd.R_elder' (by (with_reducible repeat (first | apply rrA | apply rrN | apply rrD)); exact HO_12.out) (Kd.R_base ho0) hb); have n1_ := Aside0.mk (Kd.R_elder' (by (with_reducible repeat (first | apply rrA | apply rrN | apply rrD)); exact HO_15.out) (Kd.R_base ho0) hb); have n2_ := Aside0.mk (Kd.R_elder' (by (with_reducible repeat (first | apply rrA | apply rrN | apply rrD)); exact HO_17.out) (Kd.R_base ho0) hb); have n3_ := Aside0.mk (Kd.R_elder' (by (with_reducible repeat (first | apply rrA | apply rrN | apply rrD)); exact HO_51.out) (Kd.R_base ho0) hb); have n4_ := Aside0.mk (Kd.R_lower (Kd.R_new' (Kd.R_new' (Kd.R_new' (Kd.R_new' ho0 (Kd.R_lt (by (with_reducible repeat (first | apply rrA | apply rrN | apply rrD)); exact HO_12.out))) (Kd.R_lt (by (with_reducible repeat (first | apply rrA | apply rrN | apply rrD)); exact HO_15.out))) (Kd.R_lt (by (with_reducible repeat (first | apply rrA | apply rrN | apply rrD)); exact HO_17.out))) (Kd.R_lt (by (with_reducible repeat (first | apply rrA | apply rrN | apply rrD)); exact HO_51.out))) (zzS (by repeat (first | (with_reducible first | exact HB.out | apply zzA | apply zzN | apply zzD | refine below_set ?_ GE269.out) | exact HB.out)))); have n5_ := Aside0.mk (blk_below (g := gb269) (o := .cells #[.slice A2_0 l2_0.length c2_0, .int .i64 a2_1] 26 (0, 0)) (by (with_reducible repeat (first | refine kkN ?_ _ | refine kkD ?_ | refine kkA ?_ _)); exact BK269.out) hb); have n6_ := Aside0.mk (zzT (by repeat (first | (with_reducible first | exact HB.out | apply zzA | apply zzN | apply zzD | refine below_set ?_ GE269.out) | exact HB.out)) hb); clear HO_12; clear HO_15; clear HO_17; clear HO_51; clear BK269; clear HB; have HO_12 := n0_; have HO_15 := n1_; have HO_17 := n2_; have HO_51 := n3_; have HO300 := n4_; have BK269 := n5_; have HB := n6_; clear n0_ n1_ n2_ n3_ n4_ n5_ n6_; (try clear hb); (try clear hb2); (try clear hk); (try clear hi); (try clear ho0)))
           go_ret2
           exact ⟨_, by first | rfl | (simp [errW_none, errW_some] <;> rfl) | (simp [*, errW_none, errW_some] <;> rfl), by first | exact Kd.R_nil _ _ _ _ _ | exact Kd.N_nil _ _ _ _ _ | exact Kd.V_nil _ _ _ _ _ | exact Kd.Q_nil _ _ _ _ _ | exact Kd.S_nil _ _ _ _ _, by repeat (first | (with_reducible first | exact HB.out | apply zzA | apply zzN | apply zzD | refine below_set ?_ GE269.out) | exact HB.out)⟩
         ·
          rw [if_neg c22] at H
          have c22b0 : (t296 == 0) = false := beq_eq_false_iff_ne.mpr c22
          have c22b1 : (t296 != 0) = true := bne_iff_ne.mpr c22
          simp only [Option.some.injEq, Prod.mk.injEq] at H
          obtain ⟨rfl, rfl⟩ := H
          have p293 : 0 ≤ (x53_1 : Int) := of_decide_eq_true (by first | (with_reducible assumption) | assumption)
          have q293 : x53_1 < (t272.length : Int) := of_decide_eq_true (by first | (with_reducible assumption) | assumption)
          obtain ⟨ad293, e293, hx293_0⟩ := Kd.at_int (Kd.R_reads' HO_51.out).2.2 x53_1 p293 q293
          cases e293
          replace p293 := eq_true p293
          replace q293 := eq_true q293
          obtain ⟨Ao36, co36, eo36⟩ := Kd.R_slice HO_15.out
          subst eo36
          have p294 : 0 ≤ (x53_1 : Int) := of_decide_eq_true (by first | (with_reducible assumption) | assumption)
          have q294 : x53_1 < (t277.length : Int) := of_decide_eq_true (by first | (with_reducible assumption) | assumption)
          obtain ⟨ad294, e294, hx294_0⟩ := Kd.at_int (Kd.R_reads' HO_15.out).2.2 x53_1 p294 q294
          cases e294
          replace p294 := eq_true p294
          replace q294 := eq_true q294
          go_wp2_with (first | ((with_reducible refine gate_callee (f := 63) rfl ?_); refine goesL_ (some 67) rfl rfl Try.func63 (by kernel_rfl) rfl #[.int .i64 t270, .int .i64 (rd t277 x53_1), .int .i64 a3] rfl (by (try simp only [List.map_toArray, List.map_cons, List.map_nil]); first | done | rfl | (simp only [List.length_drop, List.length_take]; rfl)) ?_; (with_reducible refine (thrumref01_Mul.calls t270 (rd t277 x53_1) a3 t295 t296 _ A21.out).mono ?_); rintro e w' ⟨rfl, ⟨nd, rfl⟩⟩; refine ⟨_, rfl, ?_⟩))
          go_ret2
          exact ⟨_, by first | rfl | (simp [errW_none, errW_some] <;> rfl) | (simp [*, errW_none, errW_some] <;> rfl), by first | exact Kd.R_nil _ _ _ _ _ | exact Kd.N_nil _ _ _ _ _ | exact Kd.V_nil _ _ _ _ _ | exact Kd.Q_nil _ _ _ _ _ | exact Kd.S_nil _ _ _ _ _, by repeat (first | (with_reducible first | exact HB.out | apply zzA | apply zzN | apply zzD | refine below_set ?_ GE269.out) | exact HB.out)⟩
        ·
         rw [if_neg c20] at H
         exact absurd H (by simp)
       ·
        rw [if_neg c19] at H
        have c19b0 : decide (0 < (rd t272 x53_1)) = false := decide_eq_false c19
        clear c19
        replace H := Option.bind_eq_some_iff.mp H
        obtain ⟨⟨t307, t308⟩, A370, H⟩ := H
        replace H : (if t308 = 0 then (if x17_1.length + t307.length < 17592186044416 then ((some (x17_1 ++ t307 : List Int)).bind fun y311 => (if y311.length < 17592186044416 then (thrumref16_oneP.l0 k1 a3 t270 t272 t277 (y311 ++ [0]) t272 (t272.length : Int) (wrap64 (x53_1 + 1)) l2_0 a2_1) else (none))) else (none)) else (some (([] : List Int), t308))) = some (r1, r2) := H
        have A37 := Aside0.mk A370
        clear A370
        by_cases c38 : t308 = 0
        ·
         rw [if_pos c38] at H
         have c38b0 : (t308 == 0) = true := beq_iff_eq.mpr c38
         have c38b1 : (t308 != 0) = false := bne_eq_false_iff_eq.mpr c38
         clear c38
         by_cases c39 : x17_1.length + t307.length < 17592186044416
         ·
          rw [if_pos c39] at H
          have LMc39 := Aside0.mk c39
          clear c39
          obtain ⟨y311, hy311⟩ : ∃ y_ : List Int, y_ = (x17_1 ++ t307) := ⟨_, rfl⟩
          replace H : (if y311.length < 17592186044416 then (thrumref16_oneP.l0 k1 a3 t270 t272 t277 (y311 ++ [0]) t272 (t272.length : Int) (wrap64 (x53_1 + 1)) l2_0 a2_1) else (none)) = some (r1, r2) := by first | (rw [hy311]; with_reducible exact H) | (have H2_ := (Option.bind_some _ _).symm.trans H; rw [hy311]; with_reducible exact H2_) | (have H2_ := (Option.bind_some _ _).symm.trans H; with_reducible exact H2_) | with_reducible exact H | (rw [hy311]; exact H) | exact H
          have Ny311 := Aside0.mk hy311
          clear hy311
          by_cases c40 : y311.length < 17592186044416
          ·
           rw [if_pos c40] at H
           have LMc40 := Aside0.mk c40
           clear c40
           obtain ⟨y314, hy314⟩ : ∃ y_ : List Int, y_ = (y311 ++ [0]) := ⟨_, rfl⟩
           replace H : (thrumref16_oneP.l0 k1 a3 t270 t272 t277 y314 t272 (t272.length : Int) (wrap64 (x53_1 + 1)) l2_0 a2_1) = some (r1, r2) := by first | (rw [hy314]; with_reducible exact H) | (have H2_ := (Option.bind_some _ _).symm.trans H; rw [hy314]; with_reducible exact H2_) | (have H2_ := (Option.bind_some _ _).symm.trans H; with_reducible exact H2_) | with_reducible exact H | (rw [hy314]; exact H) | exact H
           have Ny314 := Aside0.mk hy314
           clear hy314
           have H' := Aside0.mk H
           clear H
           have p293 : 0 ≤ (x53_1 : Int) := of_decide_eq_true (by first | (with_reducible assumption) | assumption)
           have q293 : x53_1 < (t272.length : Int) := of_decide_eq_true (by first | (with_reducible assumption) | assumption)
           obtain ⟨ad293, e293, hx293_0⟩ := Kd.at_int (Kd.R_reads' HO_51.out).2.2 x53_1 p293 q293
           cases e293
           replace p293 := eq_true p293
           replace q293 := eq_true q293
           have hcz41_0 : wr.cell? ⟨gb269, 0, none⟩ = some (.slice A2_0 l2_0.length c2_0) := (blk_cell BK269.out 0).trans rfl
           have hcz41_1 : wr.cell? ⟨gb269, 1, none⟩ = some (.int .i64 a2_1) := (blk_cell BK269.out 1).trans rfl
           have hfz41_0 := blk_frozen BK269.out 0
           have hfz41_1 := blk_frozen BK269.out 1
           go_wp2_with (first | ((with_reducible refine gate_callee (f := 64) rfl ?_); refine goesL_ (some 78) rfl rfl Try.func64 (by kernel_rfl) rfl #[.slice A2_0 l2_0.length c2_0, .int .i64 0, .int .i64 a3] rfl (by (try simp only [List.map_toArray, List.map_cons, List.map_nil]); first | done | rfl | (simp only [List.length_drop, List.length_take]; rfl)) ?_; (with_reducible refine (thrumref02_Scale.calls _ _ l2_0 0 a3 t307 t308 _ ?side1 ?side2 A37.out).mono ?_); (case side1 => repeat (first | exact (Kd.C_below HR2_0.out HB.out) | (with_reducible refine ccA ?_ _) | (with_reducible refine ccN ?_ _) | (with_reducible refine ccD ?_))); (case side2 => exact HC2_0.out); rintro e w42 ⟨v309, rfl, ho0, hb⟩; refine ⟨_, rfl, ?_⟩; have n0_ := Aside0.mk (Kd.R_elder' (by (with_reducible repeat (first | apply rrA | apply rrN | apply rrD)); exact HO_12.out) (Kd.R_base ho0) hb); have n1_ := Aside0.mk (Kd.R_elder' (by (with_reducible repeat (first | apply rrA | apply rrN | apply rrD)); exact HO_15.out) (Kd.R_base ho0) hb); have n2_ := Aside0.mk (Kd.R_elder' (by (with_reducible repeat (first | apply rrA | apply rrN | apply rrD)); exact HO_17.out) (Kd.R_base ho0) hb); have n3_ := Aside0.mk (Kd.R_elder' (by (with_reducible repeat (first | apply rrA | apply rrN | apply rrD)); exact HO_51.out) (Kd.R_base ho0) hb); have n4_ := Aside0.mk (Kd.R_lower (Kd.R_new' (Kd.R_new' (Kd.R_new' (Kd.R_new' ho0 (Kd.R_lt (by (with_reducible repeat (first | apply rrA | apply rrN | apply rrD)); exact HO_12.out))) (Kd.R_lt (by (with_reducible repeat (first | apply rrA | apply rrN | apply rrD)); exact HO_15.out))) (Kd.R_lt (by (with_reducible repeat (first | apply rrA | apply rrN | apply rrD)); exact HO_17.out))) (Kd.R_lt (by (with_reducible repeat (first | apply rrA | apply rrN | apply rrD)); exact HO_51.out))) (zzS (by repeat (first | (with_reducible first | exact HB.out | apply zzA | apply zzN | apply zzD | refine below_set ?_ GE269.out) | exact HB.out)))); have n5_ := Aside0.mk (blk_below (g := gb269) (o := .cells #[.slice A2_0 l2_0.length c2_0, .int .i64 a2_1] 26 (0, 0)) (by (with_reducible repeat (first | refine kkN ?_ _ | refine kkD ?_ | refine kkA ?_ _)); exact BK269.out) hb); have n6_ := Aside0.mk (zzT (by repeat (first | (with_reducible first | exact HB.out | apply zzA | apply zzN | apply zzD | refine below_set ?_ GE269.out) | exact HB.out)) hb); clear HO_12; clear HO_15; clear HO_17; clear HO_51; clear BK269; clear HB; have HO_12 := n0_; have HO_15 := n1_; have HO_17 := n2_; have HO_51 := n3_; have HO310 := n4_; have BK269 := n5_; have HB := n6_; clear n0_ n1_ n2_ n3_ n4_ n5_ n6_; (try clear hb); (try clear hb2); (try clear hk); (try clear hi); (try clear ho0); obtain ⟨Ao44, co44, eo44⟩ := Kd.R_slice HO310.out; subst eo44) | ((with_reducible refine gate_builtin (b := .append) (xs := #[.tmp 84, .tmp 85]) rfl ?_); at_builtin; refine Kd.R_append_rows (Kd.int .i64) (w0 := w) w.heap.size rfl (.tmp 84) (.tmp 85) 22 2 (.int .i64 0) 8 rfl Try.underlying22 info2 rfl (by decide) (by omega) u17 x17_1 t307 _ _ _ (fun k_ => some k_ ≠ (.slice (some ad293) t272.length co15 : Value).ownBlock ∧ some k_ ≠ (v281 : Value).ownBlock ∧ some k_ ≠ (.slice (some ad293) t272.length co15 : Value).ownBlock ∧ some k_ ≠ (.slice Ao44 t307.length co44 : Value).ownBlock) (fun _ => False) rfl rfl ?aO ?aR (fun _ _ h => h) (fun _ h => h.elim) ?aF ?aB ?aS ?aL ?_; (case aR => repeat (first | exact (Kd.R_reads' HO310.out).2.2 | (with_reducible refine ccA ?_ _) | (with_reducible refine ccN ?_ _) | (with_reducible refine ccD ?_))); (case aB => exact (by repeat (first | (with_reducible first | exact HB.out | apply zzA | apply zzN | apply zzD | refine below_set ?_ GE269.out) | exact HB.out))); (case aF => exact (fun k_ hk => ⟨Kd.fresh' (Kd.R_lt (by (with_reducible repeat (first | apply rrA | apply rrN | apply rrD)); exact HO_12.out)) k_ hk, Kd.fresh' (Kd.R_lt (by (with_reducible repeat (first | apply rrA | apply rrN | apply rrD)); exact HO_15.out)) k_ hk, Kd.fresh' (Kd.R_lt (by (with_reducible repeat (first | apply rrA | apply rrN | apply rrD)); exact HO_51.out)) k_ hk, Kd.fresh' (Kd.R_lt (by (with_reducible repeat (first | apply rrA | apply rrN | apply rrD)); exact HO310.out)) k_ hk⟩)); (case aO => exact (by (with_reducible repeat (first | apply rrA | apply rrN | apply rrD)); exact Kd.R_mono HO_17.out (fun _ hk => ⟨hk.1.1, ⟨hk.1.2.1, ⟨hk.1.2.2, hk.2⟩⟩⟩))); (case aS => exact (zzS (by repeat (first | (with_reducible first | exact HB.out | apply zzA | apply zzN | apply zzD | refine below_set ?_ GE269.out) | exact HB.out)))); (case aL => have := LMc39.out; omega); intro v312 w43 ho hb hg hat; rw [← Ny311.out] at ho; have n0_ := Aside0.mk (Kd.R_after (ok := (fun k_ => some k_ ≠ (v281 : Value).ownBlock ∧ some k_ ≠ (.slice Ao44 t307.length co44 : Value).ownBlock)) (by (with_reducible repeat (first | apply rrA | apply rrN | apply rrD)); exact Kd.R_mono HO_12.out (fun _ hk => ⟨⟨hk.1.1, hk.2⟩, hk.1.2⟩)) hg hat); have n1_ := Aside0.mk (Kd.R_after (ok := (fun k_ => some k_ ≠ (.slice (some ad293) t272.length co15 : Value).ownBlock ∧ some k_ ≠ (.slice (some ad293) t272.length co15 : Value).ownBlock ∧ some k_ ≠ (.slice Ao44 t307.length co44 : Value).ownBlock)) (by (with_reducible repeat (first | apply rrA | apply rrN | apply rrD)); exact Kd.R_mono HO_15.out (fun _ hk => ⟨⟨hk.1.1, ⟨hk.1.2.2, hk.2⟩⟩, hk.1.2.1⟩)) hg hat); have n2_ := Aside0.mk (Kd.R_after (ok := (fun k_ => some k_ ≠ (v281 : Value).ownBlock ∧ some k_ ≠ (.slice Ao44 t307.length co44 : Value).ownBlock)) (by (with_reducible repeat (first | apply rrA | apply rrN | apply rrD)); exact Kd.R_mono HO_51.out (fun _ hk => ⟨⟨hk.1.1, hk.2⟩, hk.1.2⟩)) hg hat); have n3_ := Aside0.mk (blk_grown (g := gb269) (o := .cells #[.slice A2_0 l2_0.length c2_0, .int .i64 a2_1] 26 (0, 0)) (by (with_reducible repeat (first | refine kkN ?_ _ | refine kkD ?_ | refine kkA ?_ _)); exact BK269.out) hg (Kd.R_ne HO_17.out BK269.out (by decide))); have n4_ := Aside0.mk (Kd.R_after (ok := (fun k_ => some k_ ≠ (.slice (some ad293) t272.length co15 : Value).ownBlock ∧ some k_ ≠ (v281 : Value).ownBlock ∧ some k_ ≠ (.slice (some ad293) t272.length co15 : Value).ownBlock)) (by (with_reducible repeat (first | apply rrA | apply rrN | apply rrD)); exact Kd.R_mono HO310.out (fun _ hk => ⟨⟨hk.1.1.1.2, ⟨hk.1.1.2, hk.2⟩⟩, hk.1.2⟩)) hg hat); have n5_ := Aside0.mk (hb); have n6_ := Aside0.mk (ho); clear HO_12; clear HO_15; clear HO_51; clear BK269; clear HO310; clear HB; clear HO_17; have HO_12 := n0_; have HO_15 := n1_; have HO_51 := n2_; have BK269 := n3_; have HO310 := n4_; have HB := n5_; have HO313 := n6_; clear n0_ n1_ n2_ n3_ n4_ n5_ n6_; clear ho hb hg hat) | ((with_reducible refine gate_builtin (b := .append) (xs := #[.tmp 86, .tmp 88]) rfl ?_); at_builtin; refine Kd.R_append (Kd.int .i64) (w0 := w) w.heap.size rfl (.tmp 86) (.tmp 88) 22 2 (.int .i64 0) 8 rfl Try.underlying22 info2 rfl (by decide) (by omega) v312 y311 0 [.int .i64 0] (fun k_ => some k_ ≠ (.slice (some ad293) t272.length co15 : Value).ownBlock ∧ some k_ ≠ (v281 : Value).ownBlock ∧ some k_ ≠ (.slice (some ad293) t272.length co15 : Value).ownBlock ∧ some k_ ≠ (.slice Ao44 t307.length co44 : Value).ownBlock) (fun _ => False) rfl rfl ?aP (fun _ hk => hk.elim) ?aF ?aO ?aB ?aS ?aL ?_; (case aP => exact rfl); (case aB => exact (by repeat (first | (with_reducible first | exact HB.out | apply zzA | apply zzN | apply zzD | refine below_set ?_ GE269.out) | exact HB.out))); (case aF => exact (fun k_ hk => ⟨Kd.fresh' (Kd.R_lt (by (with_reducible repeat (first | apply rrA | apply rrN | apply rrD)); exact HO_12.out)) k_ hk, Kd.fresh' (Kd.R_lt (by (with_reducible repeat (first | apply rrA | apply rrN | apply rrD)); exact HO_15.out)) k_ hk, Kd.fresh' (Kd.R_lt (by (with_reducible repeat (first | apply rrA | apply rrN | apply rrD)); exact HO_51.out)) k_ hk, Kd.fresh' (Kd.R_lt (by (with_reducible repeat (first | apply rrA | apply rrN | apply rrD)); exact HO310.out)) k_ hk⟩)); (case aO => exact (by (with_reducible repeat (first | apply rrA | apply rrN | apply rrD)); exact HO313.out)); (case aS => exact (zzS (by repeat (first | (with_reducible first | exact HB.out | apply zzA | apply zzN | apply zzD | refine below_set ?_ GE269.out) | exact HB.out)))); (case aL => have := LMc40.out; omega); intro v315 w45 ho hb hg hat; rw [← Ny314.out] at ho; have n0_ := Aside0.mk (Kd.R_after (ok := (fun k_ => some k_ ≠ (v281 : Value).ownBlock ∧ some k_ ≠ (.slice Ao44 t307.length co44 : Value).ownBlock)) (by (with_reducible repeat (first | apply rrA | apply rrN | apply rrD)); exact HO_12.out) hg hat); have n1_ := Aside0.mk (Kd.R_after (ok := (fun k_ => some k_ ≠ (.slice (some ad293) t272.length co15 : Value).ownBlock ∧ some k_ ≠ (.slice (some ad293) t272.length co15 : Value).ownBlock ∧ some k_ ≠ (.slice Ao44 t307.length co44 : Value).ownBlock)) (by (with_reducible repeat (first | apply rrA | apply rrN | apply rrD)); exact HO_15.out) hg hat); have n2_ := Aside0.mk (Kd.R_after (ok := (fun k_ => some k_ ≠ (v281 : Value).ownBlock ∧ some k_ ≠ (.slice Ao44 t307.length co44 : Value).ownBlock)) (by (with_reducible repeat (first | apply rrA | apply rrN | apply rrD)); exact HO_51.out) hg hat); have n3_ := Aside0.mk (blk_grown (g := gb269) (o := .cells #[.slice A2_0 l2_0.length c2_0, .int .i64 a2_1] 26 (0, 0)) (by (with_reducible repeat (first | refine kkN ?_ _ | refine kkD ?_ | refine kkA ?_ _)); exact BK269.out) hg (Kd.R_ne HO313.out BK269.out (by decide))); have n4_ := Aside0.mk (Kd.R_after (ok := (fun k_ => some k_ ≠ (.slice (some ad293) t272.length co15 : Value).ownBlock ∧ some k_ ≠ (v281 : Value).ownBlock ∧ some k_ ≠ (.slice (some ad293) t272.length co15 : Value).ownBlock)) (by (with_reducible repeat (first | apply rrA | apply rrN | apply rrD)); exact HO310.out) hg hat); have n5_ := Aside0.mk (hb); have n6_ := Aside0.mk (ho); clear HO_12; clear HO_15; clear HO_51; clear BK269; clear HO310; clear HB; clear HO313; have HO_12 := n0_; have HO_15 := n1_; have HO_51 := n2_; have BK269 := n3_; have HO310 := n4_; have HB := n5_; have HO316 := n6_; clear n0_ n1_ n2_ n3_ n4_ n5_ n6_; clear ho hb hg hat))
           go_roundg k1
           case measure => have := HK1.out; omega
           case rel => exact ⟨(y314), (wrap64 (x53_1 + 1)), (by first | rfl | (simp; done) | (simp [*]; done)), H', ⟨by have := HK1.out; omega⟩, ⟨by (with_reducible repeat (first | apply rrA | apply rrN | apply rrD)); exact Kd.R_mono HO_12.out (fun _ hk => ⟨hk.1.1, hk.2⟩)⟩, ⟨by (with_reducible repeat (first | apply rrA | apply rrN | apply rrD)); exact Kd.R_mono HO_15.out (fun _ hk => ⟨hk.1.1, ⟨hk.2, hk.1.2.1⟩⟩)⟩, ⟨by (with_reducible repeat (first | apply rrA | apply rrN | apply rrD)); exact Kd.R_mono HO316.out (fun _ hk => ⟨hk.1, ⟨hk.2.1, hk.2.2.1⟩⟩)⟩, ⟨by (with_reducible repeat (first | apply rrA | apply rrN | apply rrD)); exact Kd.R_mono HO_51.out (fun _ hk => ⟨hk.1.1, hk.2⟩)⟩, ⟨by (with_reducible repeat (first | refine kkN ?_ _ | refine kkD ?_ | refine kkA ?_ _)); exact BK269.out⟩, ⟨by repeat (first | (with_reducible first | exact HB.out | apply zzA | apply zzN | apply zzD | refine below_set ?_ GE269.out) | exact HB.out)⟩⟩
          ·
           rw [if_neg c40] at H
           exact absurd H (by simp)
         ·
          rw [if_neg c39] at H
          exact absurd H (by simp)
        ·
         rw [if_neg c38] at H
         have c38b0 : (t308 == 0) = false := beq_eq_false_iff_ne.mpr c38
         have c38b1 : (t308 != 0) = true := bne_iff_ne.mpr c38
         simp only [Option.some.injEq, Prod.mk.injEq] at H
         obtain ⟨rfl, rfl⟩ := H
         have p293 : 0 ≤ (x53_1 : Int) := of_decide_eq_true (by first | (with_reducible assumption) | assumption)
         have q293 : x53_1 < (t272.length : Int) := of_decide_eq_true (by first | (with_reducible assumption) | assumption)
         obtain ⟨ad293, e293, hx293_0⟩ := Kd.at_int (Kd.R_reads' HO_51.out).2.2 x53_1 p293 q293
         cases e293
         replace p293 := eq_true p293
         replace q293 := eq_true q293
         have hcz46_0 : wr.cell? ⟨gb269, 0, none⟩ = some (.slice A2_0 l2_0.length c2_0) := (blk_cell BK269.out 0).trans rfl
         have hcz46_1 : wr.cell? ⟨gb269, 1, none⟩ = some (.int .i64 a2_1) := (blk_cell BK269.out 1).trans rfl
         have hfz46_0 := blk_frozen BK269.out 0
         have hfz46_1 := blk_frozen BK269.out 1
         go_wp2_with (first | ((with_reducible refine gate_callee (f := 64) rfl ?_); refine goesL_ (some 78) rfl rfl Try.func64 (by kernel_rfl) rfl #[.slice A2_0 l2_0.length c2_0, .int .i64 0, .int .i64 a3] rfl (by (try simp only [List.map_toArray, List.map_cons, List.map_nil]); first | done | rfl | (simp only [List.length_drop, List.length_take]; rfl)) ?_; (with_reducible refine (thrumref02_Scale.calls _ _ l2_0 0 a3 t307 t308 _ ?side1 ?side2 A37.out).mono ?_); (case side1 => repeat (first | exact (Kd.C_below HR2_0.out HB.out) | (with_reducible refine ccA ?_ _) | (with_reducible refine ccN ?_ _) | (with_reducible refine ccD ?_))); (case side2 => exact HC2_0.out); rintro e w47 ⟨v309, rfl, ho0, hb⟩; refine ⟨_, rfl, ?_⟩; have n0_ := Aside0.mk (Kd.R_elder' (by (with_reducible repeat (first | apply rrA | apply rrN | apply rrD)); exact HO_12.out) (Kd.R_base ho0) hb); have n1_ := Aside0.mk (Kd.R_elder' (by (with_reducible repeat (first | apply rrA | apply rrN | apply rrD)); exact HO_15.out) (Kd.R_base ho0) hb); have n2_ := Aside0.mk (Kd.R_elder' (by (with_reducible repeat (first | apply rrA | apply rrN | apply rrD)); exact HO_17.out) (Kd.R_base ho0) hb); have n3_ := Aside0.mk (Kd.R_elder' (by (with_reducible repeat (first | apply rrA | apply rrN | apply rrD)); exact HO_51.out) (Kd.R_base ho0) hb); have n4_ := Aside0.mk (Kd.R_lower (Kd.R_new' (Kd.R_new' (Kd.R_new' (Kd.R_new' ho0 (Kd.R_lt (by (with_reducible repeat (first | apply rrA | apply rrN | apply rrD)); exact HO_12.out))) (Kd.R_lt (by (with_reducible repeat (first | apply rrA | apply rrN | apply rrD)); exact HO_15.out))) (Kd.R_lt (by (with_reducible repeat (first | apply rrA | apply rrN | apply rrD)); exact HO_17.out))) (Kd.R_lt (by (with_reducible repeat (first | apply rrA | apply rrN | apply rrD)); exact HO_51.out))) (zzS (by repeat (first | (with_reducible first | exact HB.out | apply zzA | apply zzN | apply zzD | refine below_set ?_ GE269.out) | exact HB.out)))); have n5_ := Aside0.mk (blk_below (g := gb269) (o := .cells #[.slice A2_0 l2_0.length c2_0, .int .i64 a2_1] 26 (0, 0)) (by (with_reducible repeat (first | refine kkN ?_ _ | refine kkD ?_ | refine kkA ?_ _)); exact BK269.out) hb); have n6_ := Aside0.mk (zzT (by repeat (first | (with_reducible first | exact HB.out | apply zzA | apply zzN | apply zzD | refine below_set ?_ GE269.out) | exact HB.out)) hb); clear HO_12; clear HO_15; clear HO_17; clear HO_51; clear BK269; clear HB; have HO_12 := n0_; have HO_15 := n1_; have HO_17 := n2_; have HO_51 := n3_; have HO310 := n4_; have BK269 := n5_; have HB := n6_; clear n0_ n1_ n2_ n3_ n4_ n5_ n6_; (try clear hb); (try clear hb2); (try clear hk); (try clear hi); (try clear ho0)))
         go_ret2
         exact ⟨_, by first | rfl | (simp [errW_none, errW_some] <;> rfl) | (simp [*, errW_none, errW_some] <;> rfl), by first | exact Kd.R_nil _ _ _ _ _ | exact Kd.N_nil _ _ _ _ _ | exact Kd.V_nil _ _ _ _ _ | exact Kd.Q_nil _ _ _ _ _ | exact Kd.S_nil _ _ _ _ _, by repeat (first | (with_reducible first | exact HB.out | apply zzA | apply zzN | apply zzD | refine below_set ?_ GE269.out) | exact HB.out)⟩
      ·
       rw [if_neg c18] at H
       exact absurd H (by simp)
     ·
      rw [if_neg c17] at H
      exact absurd H (by simp)
    ·
     rw [if_neg c16] at H
     have c16b0 : decide (x53_1 < (t272.length : Int)) = false := decide_eq_false c16
     clear c16
     replace H := Option.bind_eq_some_iff.mp H
     obtain ⟨⟨t283, t284⟩, A480, H⟩ := H
     replace H : (if t284 = 0 then (if x17_1.length + t283.length < 17592186044416 then ((some (x17_1 ++ t283 : List Int)).bind fun y287 => (if y287.length < 17592186044416 then (some ((y287 ++ [t270]), 0)) else (none))) else (none)) else (some (([] : List Int), t284))) = some (r1, r2) := H
     have A48 := Aside0.mk A480
     clear A480
     by_cases c49 : t284 = 0
     ·
      rw [if_pos c49] at H
      have c49b0 : (t284 == 0) = true := beq_iff_eq.mpr c49
      have c49b1 : (t284 != 0) = false := bne_eq_false_iff_eq.mpr c49
      clear c49
      by_cases c50 : x17_1.length + t283.length < 17592186044416
      ·
       rw [if_pos c50] at H
       have LMc50 := Aside0.mk c50
       clear c50
       obtain ⟨y287, hy287⟩ : ∃ y_ : List Int, y_ = (x17_1 ++ t283) := ⟨_, rfl⟩
       replace H : (if y287.length < 17592186044416 then (some ((y287 ++ [t270]), 0)) else (none)) = some (r1, r2) := by first | (rw [hy287]; with_reducible exact H) | (have H2_ := (Option.bind_some _ _).symm.trans H; rw [hy287]; with_reducible exact H2_) | (have H2_ := (Option.bind_some _ _).symm.trans H; with_reducible exact H2_) | with_reducible exact H | (rw [hy287]; exact H) | exact H
       have Ny287 := Aside0.mk hy287
       clear hy287
       by_cases c51 : y287.length < 17592186044416
       ·
        rw [if_pos c51] at H
        have LMc51 := Aside0.mk c51
        clear c51
        obtain ⟨y290, hy290⟩ : ∃ y_ : List Int, y_ = (y287 ++ [t270]) := ⟨_, rfl⟩
        replace H : (some (y290, 0)) = some (r1, r2) := by first | (rw [hy290]; with_reducible exact H) | (have H2_ := (Option.bind_some _ _).symm.trans H; rw [hy290]; with_reducible exact H2_) | (have H2_ := (Option.bind_some _ _).symm.trans H; with_reducible exact H2_) | with_reducible exact H | (rw [hy290]; exact H) | exact H
        have Ny290 := Aside0.mk hy290
        clear hy290
        simp only [Option.some.injEq, Prod.mk.injEq] at H
        obtain ⟨rfl, rfl⟩ := H
        go_wp2_with (first | ((with_reducible refine gate_callee (f := 64) rfl ?_); refine goesL_ (some 95) rfl rfl Try.func64 (by kernel_rfl) rfl #[.slice Ao15 t272.length co15, .int .i64 t270, .int .i64 a3] rfl (by (try simp only [List.map_toArray, List.map_cons, List.map_nil]); first | done | rfl | (simp only [List.length_drop, List.length_take]; rfl)) ?_; (with_reducible refine (thrumref02_Scale.calls _ _ t272 t270 a3 t283 t284 _ ?side1 ?side2 A48.out).mono ?_); (case side1 => repeat (first | exact (Kd.R_reads' HO_12.out).2.2 | (with_reducible refine ccA ?_ _) | (with_reducible refine ccN ?_ _) | (with_reducible refine ccD ?_))); (case side2 => exact (Kd.R_reads' HO_12.out).2.1); rintro e w52 ⟨v285, rfl, ho0, hb⟩; refine ⟨_, rfl, ?_⟩; have n0_ := Aside0.mk (Kd.R_elder' (by (with_reducible repeat (first | apply rrA | apply rrN | apply rrD)); exact HO_12.out) (Kd.R_base ho0) hb); have n1_ := Aside0.mk (Kd.R_elder' (by (with_reducible repeat (first | apply rrA | apply rrN | apply rrD)); exact HO_15.out) (Kd.R_base ho0) hb); have n2_ := Aside0.mk (Kd.R_elder' (by (with_reducible repeat (first | apply rrA | apply rrN | apply rrD)); exact HO_17.out) (Kd.R_base ho0) hb); have n3_ := Aside0.mk (Kd.R_elder' (by (with_reducible repeat (first | apply rrA | apply rrN | apply rrD)); exact HO_51.out) (Kd.R_base ho0) hb); have n4_ := Aside0.mk (Kd.R_lower (Kd.R_new' (Kd.R_new' (Kd.R_new' (Kd.R_new' ho0 (Kd.R_lt (by (with_reducible repeat (first | apply rrA | apply rrN | apply rrD)); exact HO_12.out))) (Kd.R_lt (by (with_reducible repeat (first | apply rrA | apply rrN | apply rrD)); exact HO_15.out))) (Kd.R_lt (by (with_reducible repeat (first | apply rrA | apply rrN | apply rrD)); exact HO_17.out))) (Kd.R_lt (by (with_reducible repeat (first | apply rrA | apply rrN | apply rrD)); exact HO_51.out))) (zzS (by repeat (first | (with_reducible first | exact HB.out | apply zzA | apply zzN | apply zzD | refine below_set ?_ GE269.out) | exact HB.out)))); have n5_ := Aside0.mk (blk_below (g := gb269) (o := .cells #[.slice A2_0 l2_0.length c2_0, .int .i64 a2_1] 26 (0, 0)) (by (with_reducible repeat (first | refine kkN ?_ _ | refine kkD ?_ | refine kkA ?_ _)); exact BK269.out) hb); have n6_ := Aside0.mk (zzT (by repeat (first | (with_reducible first | exact HB.out | apply zzA | apply zzN | apply zzD | refine below_set ?_ GE269.out) | exact HB.out)) hb); clear HO_12; clear HO_15; clear HO_17; clear HO_51; clear BK269; clear HB; have HO_12 := n0_; have HO_15 := n1_; have HO_17 := n2_; have HO_51 := n3_; have HO286 := n4_; have BK269 := n5_; have HB := n6_; clear n0_ n1_ n2_ n3_ n4_ n5_ n6_; (try clear hb); (try clear hb2); (try clear hk); (try clear hi); (try clear ho0); obtain ⟨Ao54, co54, eo54⟩ := Kd.R_slice HO286.out; subst eo54) | ((with_reducible refine gate_builtin (b := .append) (xs := #[.tmp 101, .tmp 102]) rfl ?_); at_builtin; refine Kd.R_append_rows (Kd.int .i64) (w0 := w) w.heap.size rfl (.tmp 101) (.tmp 102) 22 2 (.int .i64 0) 8 rfl Try.underlying22 info2 rfl (by decide) (by omega) u17 x17_1 t283 _ _ _ (fun k_ => some k_ ≠ (.slice Ao15 t272.length co15 : Value).ownBlock ∧ some k_ ≠ (v281 : Value).ownBlock ∧ some k_ ≠ (.slice Ao15 t272.length co15 : Value).ownBlock ∧ some k_ ≠ (.slice Ao54 t283.length co54 : Value).ownBlock) (fun _ => False) rfl rfl ?aO ?aR (fun _ _ h => h) (fun _ h => h.elim) ?aF ?aB ?aS ?aL ?_; (case aR => repeat (first | exact (Kd.R_reads' HO286.out).2.2 | (with_reducible refine ccA ?_ _) | (with_reducible refine ccN ?_ _) | (with_reducible refine ccD ?_))); (case aB => exact (by repeat (first | (with_reducible first | exact HB.out | apply zzA | apply zzN | apply zzD | refine below_set ?_ GE269.out) | exact HB.out))); (case aF => exact (fun k_ hk => ⟨Kd.fresh' (Kd.R_lt (by (with_reducible repeat (first | apply rrA | apply rrN | apply rrD)); exact HO_12.out)) k_ hk, Kd.fresh' (Kd.R_lt (by (with_reducible repeat (first | apply rrA | apply rrN | apply rrD)); exact HO_15.out)) k_ hk, Kd.fresh' (Kd.R_lt (by (with_reducible repeat (first | apply rrA | apply rrN | apply rrD)); exact HO_51.out)) k_ hk, Kd.fresh' (Kd.R_lt (by (with_reducible repeat (first | apply rrA | apply rrN | apply rrD)); exact HO286.out)) k_ hk⟩)); (case aO => exact (by (with_reducible repeat (first | apply rrA | apply rrN | apply rrD)); exact Kd.R_mono HO_17.out (fun _ hk => ⟨hk.1.1, ⟨hk.1.2.1, ⟨hk.1.2.2, hk.2⟩⟩⟩))); (case aS => exact (zzS (by repeat (first | (with_reducible first | exact HB.out | apply zzA | apply zzN | apply zzD | refine below_set ?_ GE269.out) | exact HB.out)))); (case aL => have := LMc50.out; omega); intro v288 w53 ho hb hg hat; rw [← Ny287.out] at ho; have n0_ := Aside0.mk (Kd.R_after (ok := (fun k_ => some k_ ≠ (v281 : Value).ownBlock ∧ some k_ ≠ (.slice Ao54 t283.length co54 : Value).ownBlock)) (by (with_reducible repeat (first | apply rrA | apply rrN | apply rrD)); exact Kd.R_mono HO_12.out (fun _ hk => ⟨⟨hk.1.1, hk.2⟩, hk.1.2⟩)) hg hat); have n1_ := Aside0.mk (Kd.R_after (ok := (fun k_ => some k_ ≠ (.slice Ao15 t272.length co15 : Value).ownBlock ∧ some k_ ≠ (.slice Ao15 t272.length co15 : Value).ownBlock ∧ some k_ ≠ (.slice Ao54 t283.length co54 : Value).ownBlock)) (by (with_reducible repeat (first | apply rrA | apply rrN | apply rrD)); exact Kd.R_mono HO_15.out (fun _ hk => ⟨⟨hk.1.1, ⟨hk.1.2.2, hk.2⟩⟩, hk.1.2.1⟩)) hg hat); have n2_ := Aside0.mk (Kd.R_after (ok := (fun k_ => some k_ ≠ (v281 : Value).ownBlock ∧ some k_ ≠ (.slice Ao54 t283.length co54 : Value).ownBlock)) (by (with_reducible repeat (first | apply rrA | apply rrN | apply rrD)); exact Kd.R_mono HO_51.out (fun _ hk => ⟨⟨hk.1.1, hk.2⟩, hk.1.2⟩)) hg hat); have n3_ := Aside0.mk (blk_grown (g := gb269) (o := .cells #[.slice A2_0 l2_0.length c2_0, .int .i64 a2_1] 26 (0, 0)) (by (with_reducible repeat (first | refine kkN ?_ _ | refine kkD ?_ | refine kkA ?_ _)); exact BK269.out) hg (Kd.R_ne HO_17.out BK269.out (by decide))); have n4_ := Aside0.mk (Kd.R_after (ok := (fun k_ => some k_ ≠ (.slice Ao15 t272.length co15 : Value).ownBlock ∧ some k_ ≠ (v281 : Value).ownBlock ∧ some k_ ≠ (.slice Ao15 t272.length co15 : Value).ownBlock)) (by (with_reducible repeat (first | apply rrA | apply rrN | apply rrD)); exact Kd.R_mono HO286.out (fun _ hk => ⟨⟨hk.1.1.1.2, ⟨hk.1.1.2, hk.2⟩⟩, hk.1.2⟩)) hg hat); have n5_ := Aside0.mk (hb); have n6_ := Aside0.mk (ho); clear HO_12; clear HO_15; clear HO_51; clear BK269; clear HO286; clear HB; clear HO_17; have HO_12 := n0_; have HO_15 := n1_; have HO_51 := n2_; have BK269 := n3_; have HO286 := n4_; have HB := n5_; have HO289 := n6_; clear n0_ n1_ n2_ n3_ n4_ n5_ n6_; clear ho hb hg hat) | ((with_reducible refine gate_builtin (b := .append) (xs := #[.tmp 103, .tmp 105]) rfl ?_); at_builtin; refine Kd.R_append (Kd.int .i64) (w0 := w) w.heap.size rfl (.tmp 103) (.tmp 105) 22 2 (.int .i64 0) 8 rfl Try.underlying22 info2 rfl (by decide) (by omega) v288 y287 t270 [.int .i64 t270] (fun k_ => some k_ ≠ (.slice Ao15 t272.length co15 : Value).ownBlock ∧ some k_ ≠ (v281 : Value).ownBlock ∧ some k_ ≠ (.slice Ao15 t272.length co15 : Value).ownBlock ∧ some k_ ≠ (.slice Ao54 t283.length co54 : Value).ownBlock) (fun _ => False) rfl rfl ?aP (fun _ hk => hk.elim) ?aF ?aO ?aB ?aS ?aL ?_; (case aP => exact rfl); (case aB => exact (by repeat (first | (with_reducible first | exact HB.out | apply zzA | apply zzN | apply zzD | refine below_set ?_ GE269.out) | exact HB.out))); (case aF => exact (fun k_ hk => ⟨Kd.fresh' (Kd.R_lt (by (with_reducible repeat (first | apply rrA | apply rrN | apply rrD)); exact HO_12.out)) k_ hk, Kd.fresh' (Kd.R_lt (by (with_reducible repeat (first | apply rrA | apply rrN | apply rrD)); exact HO_15.out)) k_ hk, Kd.fresh' (Kd.R_lt (by (with_reducible repeat (first | apply rrA | apply rrN | apply rrD)); exact HO_51.out)) k_ hk, Kd.fresh' (Kd.R_lt (by (with_reducible repeat (first | apply rrA | apply rrN | apply rrD)); exact HO286.out)) k_ hk⟩)); (case aO => exact (by (with_reducible repeat (first | apply rrA | apply rrN | apply rrD)); exact HO289.out)); (case aS => exact (zzS (by repeat (first | (with_reducible first | exact HB.out | apply zzA | apply zzN | apply zzD | refine below_set ?_ GE269.out) | exact HB.out)))); (case aL => have := LMc51.out; omega); intro v291 w55 ho hb hg hat; rw [← Ny290.out] at ho; have n0_ := Aside0.mk (Kd.R_after (ok := (fun k_ => some k_ ≠ (v281 : Value).ownBlock ∧ some k_ ≠ (.slice Ao54 t283.length co54 : Value).ownBlock)) (by (with_reducible repeat (first | apply rrA | apply rrN | apply rrD)); exact HO_12.out) hg hat); have n1_ := Aside0.mk (Kd.R_after (ok := (fun k_ => some k_ ≠ (.slice Ao15 t272.length co15 : Value).ownBlock ∧ some k_ ≠ (.slice Ao15 t272.length co15 : Value).ownBlock ∧ some k_ ≠ (.slice Ao54 t283.length co54 : Value).ownBlock)) (by (with_reducible repeat (first | apply rrA | apply rrN | apply rrD)); exact HO_15.out) hg hat); have n2_ := Aside0.mk (Kd.R_after (ok := (fun k_ => some k_ ≠ (v281 : Value).ownBlock ∧ some k_ ≠ (.slice Ao54 t283.length co54 : Value).ownBlock)) (by (with_reducible repeat (first | apply rrA | apply rrN | apply rrD)); exact HO_51.out) hg hat); have n3_ := Aside0.mk (blk_grown (g := gb269) (o := .cells #[.slice A2_0 l2_0.length c2_0, .int .i64 a2_1] 26 (0, 0)) (by (with_reducible repeat (first | refine kkN ?_ _ | refine kkD ?_ | refine kkA ?_ _)); exact BK269.out) hg (Kd.R_ne HO289.out BK269.out (by decide))); have n4_ := Aside0.mk (Kd.R_after (ok := (fun k_ => some k_ ≠ (.slice Ao15 t272.length co15 : Value).ownBlock ∧ some k_ ≠ (v281 : Value).ownBlock ∧ some k_ ≠ (.slice Ao15 t272.length co15 : Value).ownBlock)) (by (with_reducible repeat (first | apply rrA | apply rrN | apply rrD)); exact HO286.out) hg hat); have n5_ := Aside0.mk (hb); have n6_ := Aside0.mk (ho); clear HO_12; clear HO_15; clear HO_51; clear BK269; clear HO286; clear HB; clear HO289; have HO_12 := n0_; have HO_15 := n1_; have HO_51 := n2_; have BK269 := n3_; have HO286 := n4_; have HB := n5_; have HO292 := n6_; clear n0_ n1_ n2_ n3_ n4_ n5_ n6_; clear ho hb hg hat))
        go_ret2
        exact ⟨_, by first | rfl | (simp [errW_none, errW_some] <;> rfl) | (simp [*, errW_none, errW_some] <;> rfl), by (with_reducible repeat (first | apply rrA | apply rrN | apply rrD)); exact Kd.R_mono HO292.out (fun _ hk => trivial), by repeat (first | (with_reducible first | exact HB.out | apply zzA | apply zzN | apply zzD | refine below_set ?_ GE269.out) | exact HB.out)⟩
       ·
        rw [if_neg c51] at H
        exact absurd H (by simp)
      ·
       rw [if_neg c50] at H
       exact absurd H (by simp)
     ·
      rw [if_neg c49] at H
      have c49b0 : (t284 == 0) = false := beq_eq_false_iff_ne.mpr c49
      have c49b1 : (t284 != 0) = true := bne_iff_ne.mpr c49
      simp only [Option.some.injEq, Prod.mk.injEq] at H
      obtain ⟨rfl, rfl⟩ := H
      go_wp2_with (first | ((with_reducible refine gate_callee (f := 64) rfl ?_); refine goesL_ (some 95) rfl rfl Try.func64 (by kernel_rfl) rfl #[.slice Ao15 t272.length co15, .int .i64 t270, .int .i64 a3] rfl (by (try simp only [List.map_toArray, List.map_cons, List.map_nil]); first | done | rfl | (simp only [List.length_drop, List.length_take]; rfl)) ?_; (with_reducible refine (thrumref02_Scale.calls _ _ t272 t270 a3 t283 t284 _ ?side1 ?side2 A48.out).mono ?_); (case side1 => repeat (first | exact (Kd.R_reads' HO_12.out).2.2 | (with_reducible refine ccA ?_ _) | (with_reducible refine ccN ?_ _) | (with_reducible refine ccD ?_))); (case side2 => exact (Kd.R_reads' HO_12.out).2.1); rintro e w56 ⟨v285, rfl, ho0, hb⟩; refine ⟨_, rfl, ?_⟩; have n0_ := Aside0.mk (Kd.R_elder' (by (with_reducible repeat (first | apply rrA | apply rrN | apply rrD)); exact HO_12.out) (Kd.R_base ho0) hb); have n1_ := Aside0.mk (Kd.R_elder' (by (with_reducible repeat (first | apply rrA | apply rrN | apply rrD)); exact HO_15.out) (Kd.R_base ho0) hb); have n2_ := Aside0.mk (Kd.R_elder' (by (with_reducible repeat (first | apply rrA | apply rrN | apply rrD)); exact HO_17.out) (Kd.R_base ho0) hb); have n3_ := Aside0.mk (Kd.R_elder' (by (with_reducible repeat (first | apply rrA | apply rrN | apply rrD)); exact HO_51.out) (Kd.R_base ho0) hb); have n4_ := Aside0.mk (Kd.R_lower (Kd.R_new' (Kd.R_new' (Kd.R_new' (Kd.R_new' ho0 (Kd.R_lt (by (with_reducible repeat (first | apply rrA | apply rrN | apply rrD)); exact HO_12.out))) (Kd.R_lt (by (with_reducible repeat (first | apply rrA | apply rrN | apply rrD)); exact HO_15.out))) (Kd.R_lt (by (with_reducible repeat (first | apply rrA | apply rrN | apply rrD)); exact HO_17.out))) (Kd.R_lt (by (with_reducible repeat (first | apply rrA | apply rrN | apply rrD)); exact HO_51.out))) (zzS (by repeat (first | (with_reducible first | exact HB.out | apply zzA | apply zzN | apply zzD | refine below_set ?_ GE269.out) | exact HB.out)))); have n5_ := Aside0.mk (blk_below (g := gb269) (o := .cells #[.slice A2_0 l2_0.length c2_0, .int .i64 a2_1] 26 (0, 0)) (by (with_reducible repeat (first | refine kkN ?_ _ | refine kkD ?_ | refine kkA ?_ _)); exact BK269.out) hb); have n6_ := Aside0.mk (zzT (by repeat (first | (with_reducible first | exact HB.out | apply zzA | apply zzN | apply zzD | refine below_set ?_ GE269.out) | exact HB.out)) hb); clear HO_12; clear HO_15; clear HO_17; clear HO_51; clear BK269; clear HB; have HO_12 := n0_; have HO_15 := n1_; have HO_17 := n2_; have HO_51 := n3_; have HO286 := n4_; have BK269 := n5_; have HB := n6_; clear n0_ n1_ n2_ n3_ n4_ n5_ n6_; (try clear hb); (try clear hb2); (try clear hk); (try clear hi); (try clear ho0)))
      go_ret2
      exact ⟨_, by first | rfl | (simp [errW_none, errW_some] <;> rfl) | (simp [*, errW_none, errW_some] <;> rfl), by first | exact Kd.R_nil _ _ _ _ _ | exact Kd.N_nil _ _ _ _ _ | exact Kd.V_nil _ _ _ _ _ | exact Kd.Q_nil _ _ _ _ _ | exact Kd.S_nil _ _ _ _ _, by repeat (first | (with_reducible first | exact HB.out | apply zzA | apply zzN | apply zzD | refine below_set ?_ GE269.out) | exact HB.out)⟩
 ·
  rw [if_neg c6] at H
  have c6b0 : (t271 == 0) = false := beq_eq_false_iff_ne.mpr c6
  have c6b1 : (t271 != 0) = true := bne_iff_ne.mpr c6
  simp only [Option.some.injEq, Prod.mk.injEq] at H
  obtain ⟨rfl, rfl⟩ := H
  go_enter Try.func47, Try.ntmps47
  go_wp2_with (first | ((with_reducible refine gate_dst (N := 6) rfl ?_); refine box_event ?hg (N := 6) ?hd (cs := #[.slice A2_0 l2_0.length c2_0, .int .i64 a2_1]) (t := 26) ?hr ?_; (case hd => rfl); (case hg => rfl); (case hr => first | (go_simp; done) | (go_simp; rfl)); intro gb269 hg w57 hbox hb; have n0_ := Aside0.mk (zzT (by repeat (first | (with_reducible first | exact HB.out | apply zzA | apply zzN | apply zzD) | exact HB.out)) hb); have n1_ := Aside0.mk (hbox); have n2_ := Aside0.mk ((by rw [hg]; exact (zzS (by repeat (first | (with_reducible first | exact HB.out | apply zzA | apply zzN | apply zzD) | exact HB.out))) : w.heap.size ≤ gb269)); have n3_ := Aside0.mk ((by rw [hg]; exact (zzS (by repeat (first | (with_reducible first | exact HB.out | apply zzA | apply zzN | apply zzD) | exact HB.out))) : w.heap.size ≤ gb269)); clear HB; have HB := n0_; have BK269 := n1_; have GW269 := n2_; have GE269 := n3_; clear n0_ n1_ n2_ n3_; clear hb hbox hg; have hcz58_0 : w57.cell? ⟨gb269, 0, none⟩ = some (.slice A2_0 l2_0.length c2_0) := (blk_cell BK269.out 0).trans rfl; have hcz58_1 : w57.cell? ⟨gb269, 1, none⟩ = some (.int .i64 a2_1) := (blk_cell BK269.out 1).trans rfl; have hfz58_0 := blk_frozen BK269.out 0; have hfz58_1 := blk_frozen BK269.out 1) | ((with_reducible refine gate_callee (f := 17) rfl ?_); refine goesL_ (some 29) rfl rfl Try.func17 (by kernel_rfl) rfl #[.int .i64 a0, .slice A1 l1.length c1, .agg #[.slice A2_0 l2_0.length c2_0, .int .i64 a2_1], .int .i64 a3] rfl (by (try simp only [List.map_toArray, List.map_cons, List.map_nil]); first | done | rfl | (simp only [List.length_drop, List.length_take]; rfl)) ?_; (with_reducible refine (thrumref16_Off.calls a0 _ _ l1 _ _ l2_0 a2_1 a3 t270 t271 _ ?side1 ?side2 ?side3 ?side4 A5.out).mono ?_); (case side1 => repeat (first | exact (Kd.C_below HR1.out HB.out) | (with_reducible refine ccA ?_ _) | (with_reducible refine ccN ?_ _) | (with_reducible refine ccD ?_))); (case side2 => exact HC1.out); (case side3 => repeat (first | exact (Kd.C_below HR2_0.out HB.out) | (with_reducible refine ccA ?_ _) | (with_reducible refine ccN ?_ _) | (with_reducible refine ccD ?_))); (case side4 => exact HC2_0.out); rintro e w59 ⟨rfl, hb⟩; refine ⟨_, rfl, ?_⟩; have n0_ := Aside0.mk (blk_below (g := gb269) (o := .cells #[.slice A2_0 l2_0.length c2_0, .int .i64 a2_1] 26 (0, 0)) (by (with_reducible repeat (first | refine kkN ?_ _ | refine kkD ?_ | refine kkA ?_ _)); exact BK269.out) hb); have n1_ := Aside0.mk (zzT (by repeat (first | (with_reducible first | exact HB.out | apply zzA | apply zzN | apply zzD | refine below_set ?_ GE269.out) | exact HB.out)) hb); clear BK269; clear HB; have BK269 := n0_; have HB := n1_; clear n0_ n1_; (try clear hb); (try clear hb2); (try clear hk); (try clear hi)))
  go_ret2
  exact ⟨_, by first | rfl | (simp [errW_none, errW_some] <;> rfl) | (simp [*, errW_none, errW_some] <;> rfl), by first | exact Kd.R_nil _ _ _ _ _ | exact Kd.N_nil _ _ _ _ _ | exact Kd.V_nil _ _ _ _ _ | exact Kd.Q_nil _ _ _ _ _ | exact Kd.S_nil _ _ _ _ _, by repeat (first | (with_reducible first | exact HB.out | apply zzA | apply zzN | apply zzD | refine below_set ?_ GE269.out) | exact HB.out)⟩

def thrumref16_one.f (a0 : Int) (l1 : List Int) (l2_0 : List Int) (a2_1 : Int) (a3 : Int) : Option (List Int × Int) := if V64 l1 ∧ V64 l2_0 ∧ I64 a2_1 then some (oneM a0 l1 l2_0 a2_1 a3) else none
theorem thrumref16_one.of (a0 : Int) (l1 : List Int) (l2_0 : List Int) (a2_1 : Int) (a3 : Int)  (h_ : V64 l1 ∧ V64 l2_0 ∧ I64 a2_1) : thrumref16_one.f a0 l1 l2_0 a2_1 a3 = some (oneM a0 l1 l2_0 a2_1 a3) := if_pos h_
theorem thrumref16_oneP.loop (x last h : List Int) (off f y : Int) (hx : V64 x) (hh : V64 h) (hof : I64 off) (hxl : x.length ≤ 16) (hh8 : h.length ≤ 8) (hll : h.length < last.length) (hlv : V64 last) : ∀ (d i : Nat) (acc : List Int), d + i = h.length → acc.length ≤ i * 17 →
    thrumref16_oneP.l0 (d + 1) f off h last acc h (h.length : Int) (i : Int) x y = some (finM x off f h (stepsM last x off f (h.drop i) i 0 acc)) := by
  intro d
  induction d with
  | zero =>
    intro i acc hd ha
    have hsl := scaleV_len h off f
    rw [thrumref16_oneP.l0, if_neg (by omega), List.drop_eq_nil_of_le (by omega), stepsM, thrumref02_Scale.of _ _ _ ⟨hh, hof⟩, Option.bind_some]
    unfold finM addE addG
    dsimp only
    rw [if_pos rfl, if_pos rfl]
    by_cases c : (scaleV h off f).2 = 0
    · rw [if_pos c, if_neg (not_not_intro c), if_pos (by omega), Option.bind_some, if_pos (by rw [List.length_append]; omega)]
    · rw [if_neg c, if_pos c]
  | succ d ih =>
    intro i acc hd ha
    have hi : i < h.length := by omega
    have e2 : wrap64 ((i : Int) + 1) = ((i + 1 : Nat) : Int) := by rw [wrap64_of (by unfold I64; omega)]; omega
    have step : ∀ b : Int, I64 b → byM last off f h[i] i 0 = (b, 0) → (thrumref02_Scale.f x b f).bind (fun bt => (if bt.2 = 0 then (if acc.length + bt.1.length < 17592186044416 then ((some (acc ++ bt.1 : List Int)).bind fun y301 => (if y301.length < 17592186044416 then (thrumref16_oneP.l0 (d + 1) f off h last (y301 ++ [b]) h (h.length : Int) (wrap64 ((i : Int) + 1)) x y) else (none))) else (none)) else (some (([] : List Int), bt.2)))) = some (finM x off f h (stepsM last x off f (h.drop i) i 0 acc)) := by
      intro b hb hby
      have hsl := scaleV_len x b f
      rw [thrumref02_Scale.of _ _ _ ⟨hx, hb⟩, Option.bind_some, List.drop_eq_getElem_cons hi, stepsM, hby]
      unfold addE addG
      dsimp only
      rw [if_pos rfl, if_pos rfl]
      by_cases c : (scaleV x b f).2 = 0
      · rw [if_pos c, if_pos (by omega), Option.bind_some, if_pos (by rw [List.length_append]; omega), e2, ih (i + 1) _ (by omega) (by rw [List.length_append, List.length_append, List.length_singleton]; omega), c]
      · rw [if_neg c, stepsM_err _ _ _ _ _ _ _ _ c, finM_err _ _ _ _ _ c]
    rw [thrumref16_oneP.l0, if_pos (by omega), if_pos (by omega), if_pos (by omega), rd_nat hi]
    by_cases cn : h[i] > 0
    · obtain ⟨⟨b, e⟩, hp⟩ : ∃ p, mulF off (rd last i) f = p := ⟨_, rfl⟩
      have hby : byM last off f h[i] i 0 = (b, e) := by unfold byM; rw [if_pos ⟨cn, rfl⟩, hp]
      have hbi : I64 b := by have := mulF_i64 off (rd last i) f; rw [hp] at this; exact this
      have hrd : I64 (rd last (i : Int)) := by rw [rd_nat (show i < last.length by omega)]; exact hlv _ (List.getElem_mem _)
      rw [if_pos cn, if_pos (by omega), thrumref01_Mul.of _ _ _ ⟨hof, hrd⟩, Option.bind_some, hp]
      dsimp only
      by_cases ce : e = 0
      · subst ce
        rw [if_pos rfl]
        exact step b hbi hby
      · rw [if_neg ce, List.drop_eq_getElem_cons hi, stepsM, hby, show addE (b, e).2 x (b, e).1 f = e from if_neg ce, show addG (b, e).2 acc x (b, e).1 f = acc from if_neg ce, stepsM_err _ _ _ _ _ _ _ _ ce, finM_err _ _ _ _ _ ce]
    · rw [if_neg cn]
      exact step 0 i64_zero (if_neg (fun c => cn c.1))
theorem thrumref16_oneP.is (a0 : Int) (w x : List Int) (y f : Int) (hw : V64 w) (hx : V64 x) (hy : I64 y) : thrumref16_oneP.f ((hidM a0 w x f).1.length + 1) a0 w x y f = some (oneM a0 w x y f) := by
  unfold thrumref16_oneP.f thrumref16_Off.f oneM
  rw [thrumref16_Tell.of _ _ _ _ ⟨hw, hx⟩, Option.bind_some]
  by_cases s : (splitM a0 w).2.2 = 0
  · rw [if_pos s]
    obtain ⟨k, m, rfl, hk1, hk8, hm2, hm17, hkm, hlm, hsp⟩ := splitM_good s
    have hte : tellM k w x f = (ptellM (rowsM k m w) (w.drop (k * m)) ((m : Int) - 1) x f).2 := by unfold tellM; rw [if_pos s, hlm, hsp]
    have hhi : hidM k w x f = hiddenM (rowsM k m w) ((m : Int) - 1) x f := by unfold hidM; rw [if_pos s, hlm, hsp]
    rw [hte, hlm, hsp]
    unfold bendN
    by_cases c : (ptellM (rowsM k m w) (w.drop (k * m)) ((m : Int) - 1) x f).2.2 = 0
    · have hc : (hiddenM (rowsM k m w) ((m : Int) - 1) x f).2 = 0 := by
        apply Classical.byContradiction
        intro hn
        unfold ptellM at c
        rw [if_neg hn] at c
        exact hn c
      have hxe : (x.length : Int) = (m : Int) - 1 := by
        apply Classical.byContradiction
        intro hn
        unfold hiddenM at hc
        rw [if_pos hn] at hc
        cases hc
      have hph : (ptellM (rowsM k m w) (w.drop (k * m)) ((m : Int) - 1) x f).1 = (hiddenM (rowsM k m w) ((m : Int) - 1) x f).1 := by unfold ptellM; rw [if_pos hc]
      have hti : I64 (ptellM (rowsM k m w) (w.drop (k * m)) ((m : Int) - 1) x f).2.1 := by unfold ptellM; rw [if_pos hc]; exact tellL_i64 _ _ _
      have hhv := hiddenM_v64 (rowsM k m w) ((m : Int) - 1) x f
      have hlle := hiddenM_lle (rowsM k m w) ((m : Int) - 1) x f
      rw [rowsM_len] at hlle
      have hld : (w.drop (k * m)).length = k + 1 := by rw [List.length_drop]; omega
      have hlv := v64_drop hw (k * m)
      rw [if_pos c, if_neg (not_not_intro c), thrumref01_Sub.of _ _ ⟨hti, hy⟩, Option.bind_some, Option.bind_some, hph]
      obtain ⟨⟨off, e1⟩, hoff⟩ : ∃ p, res ((ptellM (rowsM k m w) (w.drop (k * m)) ((m : Int) - 1) x f).2.1 - y) = p := ⟨_, rfl⟩
      have hofi : I64 off := by have := res_i64 ((ptellM (rowsM k m w) (w.drop (k * m)) ((m : Int) - 1) x f).2.1 - y); rw [hoff] at this; exact this
      rw [hoff]
      dsimp only
      by_cases c1 : e1 = 0
      · rw [if_pos c1, if_neg (not_not_intro c1), thrumref16_Hidden.of _ _ _ _ ⟨hw, hx⟩, Option.bind_some, thrumref16_Split.f, Option.bind_some, hhi, hsp, endM_fin]
        dsimp only
        generalize (hiddenM (rowsM k m w) ((m : Int) - 1) x f).1 = h at hlle hhv ⊢
        have hl := thrumref16_oneP.loop x (w.drop (k * m)) h off f y hx hhv hofi (by omega) (by omega) (by omega) hlv h.length 0 [] (by omega) (by simp)
        rw [List.drop_zero] at hl
        exact hl
      · rw [if_neg c1, if_pos c1]
    · rw [if_neg c, if_pos c, Option.bind_some, if_neg c]
  · have hte : tellM a0 w x f = (0, (splitM a0 w).2.2) := by unfold tellM; rw [if_neg s]
    rw [hte, if_neg s, if_neg s, Option.bind_some, if_neg s]
theorem thrumref16_one.calls (a0 : Int) (A1 : Option Addr) (c1 : Nat) (l1 : List Int) (A2_0 : Option Addr) (c2_0 : Nat) (l2_0 : List Int) (a2_1 : Int) (a3 : Int) (r1 : List Int) (r2 : Int) (w : World) (hr1 : Kd.C (Kd.int .i64) w A1 l1.length l1) (hc1 : l1.length ≤ c1) (hr2_0 : Kd.C (Kd.int .i64) w A2_0 l2_0.length l2_0) (hc2_0 : l2_0.length ≤ c2_0) (h : thrumref16_one.f a0 l1 l2_0 a2_1 a3 = some (r1, r2)) :
    Calls Try.prog 47 #[.int .i64 a0, .slice A1 l1.length c1, .agg #[.slice A2_0 l2_0.length c2_0, .int .i64 a2_1], .int .i64 a3] w fun e w' => ∃ v0_ : Value, e = .returned (.tuple #[v0_, .int .i64 r2]) ∧ Kd.R (Kd.int .i64) 2 w' w.heap.size (fun _ => True) v0_ r1 ∧ Below w.heap.size w w' := by
  unfold thrumref16_one.f at h
  split at h
  case isFalse => cases h
  rename_i hv
  exact thrumref16_oneP.calls ((hidM a0 l1 l2_0 a3).1.length + 1) a0 A1 c1 l1 A2_0 c2_0 l2_0 a2_1 a3 r1 r2 w hr1 hc1 hr2_0 hc2_0 ((thrumref16_oneP.is a0 l1 l2_0 a2_1 a3 hv.1 hv.2.1 hv.2.2).trans h)


/-! ### thrumref02_Check: function 79 -/
def thrumref02_Check.f (l0 : List Int) : Option (Int) := if (l0.length : Int) > 4096 then (some 3) else (some 0)
set_option maxHeartbeats 8000000 in
set_option maxRecDepth 100000 in
theorem thrumref02_Check.calls (A0 : Option Addr) (c0 : Nat) (l0 : List Int) (r : Int) (w : World) (hr0 : Kd.C (Kd.int .i64) w A0 l0.length l0) (hc0 : l0.length ≤ c0) (h : thrumref02_Check.f l0 = some r) :
  Calls Try.prog 79 #[.slice A0 l0.length c0] w fun e w' => e = .returned (.int .i64 r) ∧ Drawn0 w w' := by
 have HR0 := Aside0.mk hr0
 have HC0 := Aside0.mk hc0
 clear hr0 hc0
 have H : (if (l0.length : Int) > 4096 then (some 3) else (some 0)) = some r := h
 clear h
 by_cases c2 : (l0.length : Int) > 4096
 ·
  rw [if_pos c2] at H
  have c2b0 : decide (4096 < (l0.length : Int)) = true := decide_eq_true c2
  have c2b1 : decide (4096 < l0.length) = true := decide_eq_true (by omega)
  clear c2
  obtain rfl := Option.some.inj H
  go_enter Try.func79, Try.ntmps79
  go_wp2
  go_ret
  exact ⟨by first | rfl | (simp; done) | (simp [*]; done), by repeat (first | exact ddR _ | apply ddS)⟩
 ·
  rw [if_neg c2] at H
  have c2b0 : decide (4096 < (l0.length : Int)) = false := decide_eq_false c2
  have c2b1 : decide (4096 < l0.length) = false := decide_eq_false (by omega)
  clear c2
  obtain rfl := Option.some.inj H
  go_enter Try.func79, Try.ntmps79
  go_wp2
  go_ret
  exact ⟨by first | rfl | (simp; done) | (simp [*]; done), by repeat (first | exact ddR _ | apply ddS)⟩

end Go.Proofs.Ytalamamjodihaaa.HO
