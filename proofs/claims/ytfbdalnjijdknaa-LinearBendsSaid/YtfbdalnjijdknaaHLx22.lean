/- What Go functions do, each as a plain Lean function with the same answers, and the proof of it, in every world: printed by the session's driver over the kit's print, with texts by hand. -/
import Derived.Test.YtfbdalnjijdknaaHLx0
import Derived.Test.YtfbdalnjijdknaaHLx1
import Derived.Test.YtfbdalnjijdknaaHLx10
import Derived.Test.YtfbdalnjijdknaaHLx11
import Derived.Test.YtfbdalnjijdknaaHLx13
namespace Go.Proofs.Ytfbdalnjijdknaa.HL
open Go.RowKit Go.Proofs.YtfbdalnjijdknaaW.PrintWords Go.Proofs.YtfbdalnjijdknaaW.PrintLast Go.Proofs.YtfbdalnjijdknaaW.PrintMore
attribute [local go_sem] max2_int min2_int max_two min_two max_three min_three max_four min_four   -- for this text's walks alone
open Go.Proofs.Ytfbdalnjijdknaa.Sp
attribute [local go_sem] Go.Proofs.Ytfbdalnjijdknaa.Sp.u64_not
set_option linter.unusedVariables false
set_option linter.unusedSimpArgs false

/-! ### thrumref14_LossP: function 74 -/
def thrumref14_LossP.l0 : Nat → List Int → Int → Int → List (S26) → Int → Int → Option (Int × Int)
 | 0, _, _, _, _, _, _ => none
 | k + 1, x0, x1, x9, x24, x25, x26 => if x26 < x25 then (if 0 ≤ x26 then (if x26 < (x24.length : Int) then ((thrumref14_Off.f x0 ((rd_T26 x24 x26).f0) ((rd_T26 x24 x26).f1) x1).bind fun bt324 => (if bt324.2 = 0 then ((thrumref01_Mul.f bt324.1 bt324.1 x1).bind fun bt326 => (if bt326.2 = 0 then ((thrumref01_Add.f x9 bt326.1).bind fun bt328 => (if bt328.2 = 0 then (thrumref14_LossP.l0 k x0 x1 bt328.1 x24 x25 (wrap64 (x26 + 1))) else (some (0, bt328.2)))) else (some (0, bt326.2)))) else (some (0, bt324.2)))) else (none)) else (none)) else (some (x9, 0))
def thrumref14_LossP.f (k : Nat) (l0 : List Int) (a1 : Int) (l2 : List (S26)) : Option (Int × Int) := (thrumref14_Check.f (wrap64 ((l0.length : Int) - 1)) l0 l2).bind fun t321 => (if t321 = 0 then (thrumref14_LossP.l0 k l0 a1 0 l2 (l2.length : Int) 0) else (some (0, t321)))
theorem thrumref14_LossP.mono_l : ∀ k, (∀ y0 y1 y2 y3 y4 y5, LeO (thrumref14_LossP.l0 k y0 y1 y2 y3 y4 y5) (thrumref14_LossP.l0 (k + 1) y0 y1 y2 y3 y4 y5))
 | 0 => fun _ _ _ _ _ _ r h => by simp [thrumref14_LossP.l0] at h
 | k + 1 => by
  have ih0 := thrumref14_LossP.mono_l k
  ·
   intro y0 y1 y2 y3 y4 y5
   unfold thrumref14_LossP.l0
   repeat' first
   | (with_reducible exact ih0 _ _ _ _ _ _)
   | (with_reducible exact LeO.refl _)
   | (with_reducible exact LeO.none _)
   | (with_reducible refine LeO.ite ?_ ?_)
   | (with_reducible refine LeO.bind ?_ (fun _ => ?_))
   | exact ih0 _ _ _ _ _ _
   | exact LeO.none _
   | refine LeO.ite ?_ ?_
   | refine LeO.bind ?_ (fun _ => ?_)
theorem thrumref14_LossP.mono : ∀ a0 a1 a2 k, LeO (thrumref14_LossP.f k a0 a1 a2) (thrumref14_LossP.f (k + 1) a0 a1 a2) := by
 intro a0 a1 a2 k
 have ih0 := thrumref14_LossP.mono_l k
 unfold thrumref14_LossP.f
 repeat' first
   | (with_reducible exact ih0 _ _ _ _ _ _)
   | (with_reducible exact LeO.refl _)
   | (with_reducible exact LeO.none _)
   | (with_reducible refine LeO.ite ?_ ?_)
   | (with_reducible refine LeO.bind ?_ (fun _ => ?_))
   | exact ih0 _ _ _ _ _ _
   | exact LeO.none _
   | refine LeO.ite ?_ ?_
   | refine LeO.bind ?_ (fun _ => ?_)
set_option maxHeartbeats 8000000 in
set_option maxRecDepth 100000 in
theorem thrumref14_LossP.calls (k : Nat) (A0 : Option Addr) (c0 : Nat) (l0 : List Int) (a1 : Int) (A2 : Option Addr) (c2 : Nat) (l2 : List (S26)) (r1 : Int) (r2 : Int) (w : World) (hr0 : Kd.C (Kd.int .i64) w A0 l0.length l0) (hc0 : l0.length ≤ c0) (hr2 : Kd.C k26 w A2 l2.length l2) (hc2 : l2.length ≤ c2) (h : thrumref14_LossP.f k l0 a1 l2 = some (r1, r2)) :
  Calls Try.prog 74 #[.slice A0 l0.length c0, .int .i64 a1, .slice A2 l2.length c2] w fun e w' => e = .returned (.tuple #[.int .i64 r1, .int .i64 r2]) ∧ Below w.heap.size w w' := by
 have hu26 := Try.underlying26
 have HR0 := Aside0.mk hr0
 have HC0 := Aside0.mk hc0
 clear hr0 hc0
 have HR2 := Aside0.mk hr2
 have HC2 := Aside0.mk hc2
 clear hr2 hc2
 have HB := Aside0.mk (Below.refl w.heap.size w)
 have H : ((thrumref14_Check.f (wrap64 ((l0.length : Int) - 1)) l0 l2).bind fun t321 => (if t321 = 0 then (thrumref14_LossP.l0 k l0 a1 0 l2 (l2.length : Int) 0) else (some (0, t321)))) = some (r1, r2) := h
 clear h
 replace H := Option.bind_eq_some_iff.mp H
 obtain ⟨t321, A40, H⟩ := H
 replace H : (if t321 = 0 then (thrumref14_LossP.l0 k l0 a1 0 l2 (l2.length : Int) 0) else (some (0, t321))) = some (r1, r2) := H
 have A4 := Aside0.mk A40
 clear A40
 by_cases c5 : t321 = 0
 ·
  rw [if_pos c5] at H
  have c5b0 : (t321 == 0) = true := beq_iff_eq.mpr c5
  have c5b1 : (t321 != 0) = false := bne_eq_false_iff_eq.mpr c5
  clear c5
  have H' := Aside0.mk H
  clear H
  go_enter Try.func74, Try.ntmps74
  go_wp2_with (first | ((with_reducible refine gate_callee (f := 70) rfl ?_); refine goesL_ (some 20) rfl rfl Try.func70 (by kernel_rfl) rfl #[.int .i64 (wrap64 ((l0.length : Int) - 1)), .slice A0 l0.length c0, .slice A2 l2.length c2] rfl (by (try simp only [List.map_toArray, List.map_cons, List.map_nil]); first | done | rfl | (simp only [List.length_drop, List.length_take]; rfl)) ?_; (with_reducible refine (thrumref14_Check.calls (wrap64 ((l0.length : Int) - 1)) _ _ l0 _ _ l2 t321 _ ?side1 ?side2 ?side3 ?side4 A4.out).mono ?_); (case side1 => repeat (first | exact HR0.out | (with_reducible refine ccA ?_ _) | (with_reducible refine ccN ?_ _) | (with_reducible refine ccD ?_))); (case side2 => exact HC0.out); (case side3 => repeat (first | exact HR2.out | (with_reducible refine ccA ?_ _) | (with_reducible refine ccN ?_ _) | (with_reducible refine ccD ?_))); (case side4 => exact HC2.out); rintro e w6 ⟨rfl, hb⟩; refine ⟨_, rfl, ?_⟩; have n0_ := Aside0.mk (zzT (by repeat (first | (with_reducible first | exact HB.out | apply zzA | apply zzN | apply zzD) | exact HB.out)) hb); clear HB; have HB := n0_; clear n0_; (try clear hb); (try clear hb2); (try clear hk); (try clear hi)))
  go_loopg [9, 26] k (fun kq v9 v26 w' => ∃ (x9_1 : Int) (x26_1 : Int), v9 = .int .i64 x9_1 ∧ v26 = .int .i64 x26_1 ∧ Aside0 (thrumref14_LossP.l0 kq l0 a1 x9_1 l2 (l2.length : Int) x26_1 = some (r1, r2)) ∧ Aside0 (kq ≤ k) ∧ Aside0 (Below w.heap.size w w'))
  case atStart => exact ⟨(0), (0), (by first | rfl | (simp; done) | (simp [*]; done)), (by first | rfl | (simp; done) | (simp [*]; done)), H', ⟨Nat.le_refl _⟩, ⟨by repeat (first | (with_reducible first | exact HB.out | apply zzA | apply zzN | apply zzD) | exact HB.out)⟩⟩
  case round =>
   clear H'
   try clear c2
   try clear p2
   try clear c5
   try clear c5b0
   try clear c5b1
   try clear p6
   obtain ⟨x9_1, x26_1, rfl, rfl, HA, HK1, HB⟩ := hrel
   cases gk with
   | zero => exact absurd HA.out (by simp [thrumref14_LossP.l0])
   | succ k1 =>
    have H := HA.out
    clear HA
    simp only [thrumref14_LossP.l0] at H
    by_cases c7 : x26_1 < (l2.length : Int)
    ·
     rw [if_pos c7] at H
     have c7b0 : decide (x26_1 < (l2.length : Int)) = true := decide_eq_true c7
     clear c7
     by_cases c8 : 0 ≤ x26_1
     ·
      rw [if_pos c8] at H
      have c8b0 : decide (0 ≤ x26_1) = true := decide_eq_true c8
      clear c8
      by_cases c9 : x26_1 < (l2.length : Int)
      ·
       rw [if_pos c9] at H
       have c9b0 : decide (x26_1 < (l2.length : Int)) = true := decide_eq_true c9
       clear c9
       replace H := Option.bind_eq_some_iff.mp H
       obtain ⟨⟨t324, t325⟩, A100, H⟩ := H
       replace H : (if t325 = 0 then ((thrumref01_Mul.f t324 t324 a1).bind fun bt326 => (if bt326.2 = 0 then ((thrumref01_Add.f x9_1 bt326.1).bind fun bt328 => (if bt328.2 = 0 then (thrumref14_LossP.l0 k1 l0 a1 bt328.1 l2 (l2.length : Int) (wrap64 (x26_1 + 1))) else (some (0, bt328.2)))) else (some (0, bt326.2)))) else (some (0, t325))) = some (r1, r2) := H
       have A10 := Aside0.mk A100
       clear A100
       by_cases c11 : t325 = 0
       ·
        rw [if_pos c11] at H
        have c11b0 : (t325 == 0) = true := beq_iff_eq.mpr c11
        have c11b1 : (t325 != 0) = false := bne_eq_false_iff_eq.mpr c11
        clear c11
        replace H := Option.bind_eq_some_iff.mp H
        obtain ⟨⟨t326, t327⟩, A120, H⟩ := H
        replace H : (if t327 = 0 then ((thrumref01_Add.f x9_1 t326).bind fun bt328 => (if bt328.2 = 0 then (thrumref14_LossP.l0 k1 l0 a1 bt328.1 l2 (l2.length : Int) (wrap64 (x26_1 + 1))) else (some (0, bt328.2)))) else (some (0, t327))) = some (r1, r2) := H
        have A12 := Aside0.mk A120
        clear A120
        by_cases c13 : t327 = 0
        ·
         rw [if_pos c13] at H
         have c13b0 : (t327 == 0) = true := beq_iff_eq.mpr c13
         have c13b1 : (t327 != 0) = false := bne_eq_false_iff_eq.mpr c13
         clear c13
         replace H := Option.bind_eq_some_iff.mp H
         obtain ⟨⟨t328, t329⟩, A140, H⟩ := H
         replace H : (if t329 = 0 then (thrumref14_LossP.l0 k1 l0 a1 t328 l2 (l2.length : Int) (wrap64 (x26_1 + 1))) else (some (0, t329))) = some (r1, r2) := H
         have A14 := Aside0.mk A140
         clear A140
         by_cases c15 : t329 = 0
         ·
          rw [if_pos c15] at H
          have c15b0 : (t329 == 0) = true := beq_iff_eq.mpr c15
          have c15b1 : (t329 != 0) = false := bne_eq_false_iff_eq.mpr c15
          clear c15
          have H' := Aside0.mk H
          clear H
          have p322 : 0 ≤ (x26_1 : Int) := of_decide_eq_true (by first | (with_reducible assumption) | assumption)
          have q322 : x26_1 < (l2.length : Int) := of_decide_eq_true (by first | (with_reducible assumption) | assumption)
          obtain ⟨ad322, A322_0, c322_0, e322, hx322_0, hx322_1, hl322_0, hi322_0⟩ := at_T26 HR2.out x26_1 p322 q322
          cases e322
          replace hx322_0 := (HB.out.cell (World.block_lt_of_cell? w _ hx322_0)).trans hx322_0
          replace hx322_1 := (HB.out.cell (World.block_lt_of_cell? w _ hx322_1)).trans hx322_1
          have HR322_0 := Aside0.mk hi322_0
          have HC322_0 := Aside0.mk hl322_0
          clear hi322_0 hl322_0
          replace p322 := eq_true p322
          replace q322 := eq_true q322
          go_wp2_with (first | ((with_reducible refine gate_dst (N := 11) rfl ?_); refine box_event ?hg (N := 11) ?hd (cs := #[.slice none 0 0, .int .i64 0]) (t := 26) ?hr ?_; (case hd => rfl); (case hg => rfl); (case hr => first | (go_simp; done) | (go_simp; rfl)); intro gb323 hg w16 hbox hb; have n0_ := Aside0.mk (zzT (by repeat (first | (with_reducible first | exact HB.out | apply zzA | apply zzN | apply zzD) | exact HB.out)) hb); have n1_ := Aside0.mk (hbox); have n2_ := Aside0.mk ((by rw [hg]; exact (zzS (by repeat (first | (with_reducible first | exact HB.out | apply zzA | apply zzN | apply zzD) | exact HB.out))) : w.heap.size ≤ gb323)); have n3_ := Aside0.mk ((by rw [hg]; exact (zzS (by repeat (first | (with_reducible first | exact HB.out | apply zzA | apply zzN | apply zzD) | exact HB.out))) : w.heap.size ≤ gb323)); clear HB; have HB := n0_; have BK323 := n1_; have GW323 := n2_; have GE323 := n3_; clear n0_ n1_ n2_ n3_; clear hb hbox hg; have hcz17_0 : w16.cell? ⟨gb323, 0, none⟩ = some (.slice none 0 0) := (blk_cell BK323.out 0).trans rfl; have hcz17_1 : w16.cell? ⟨gb323, 1, none⟩ = some (.int .i64 0) := (blk_cell BK323.out 1).trans rfl; have hfz17_0 := blk_frozen BK323.out 0; have hfz17_1 := blk_frozen BK323.out 1) | ((with_reducible refine gate_callee (f := 64) rfl ?_); refine goesL_ (some 34) rfl rfl Try.func64 (by kernel_rfl) rfl #[.slice A0 l0.length c0, .agg #[.slice A322_0 ((rd_T26 l2 x26_1).f0).length c322_0, .int .i64 ((rd_T26 l2 x26_1).f1)], .int .i64 a1] rfl (by (try simp only [List.map_toArray, List.map_cons, List.map_nil]); first | done | rfl | (simp only [List.length_drop, List.length_take]; rfl)) ?_; (with_reducible refine (thrumref14_Off.calls _ _ l0 _ _ ((rd_T26 l2 x26_1).f0) ((rd_T26 l2 x26_1).f1) a1 t324 t325 _ ?side1 ?side2 ?side3 ?side4 A10.out).mono ?_); (case side1 => exact Kd.C_below HR0.out (by repeat (first | (with_reducible first | exact HB.out | apply zzA | apply zzN | apply zzD | refine below_set ?_ GE323.out) | exact HB.out))); (case side2 => exact HC0.out); (case side3 => exact Kd.C_below HR322_0.out (by repeat (first | (with_reducible first | exact HB.out | apply zzA | apply zzN | apply zzD | refine below_set ?_ GE323.out) | exact HB.out))); (case side4 => exact HC322_0.out); rintro e w18 ⟨rfl, hb⟩; refine ⟨_, rfl, ?_⟩; have n0_ := Aside0.mk (blk_below (g := gb323) (o := .cells #[.slice A322_0 ((rd_T26 l2 x26_1).f0).length c322_0, .int .i64 ((rd_T26 l2 x26_1).f1)] 26 (0, 0)) (by (with_reducible repeat (first | refine kkN ?_ _ | refine kkD ?_ | refine kkA ?_ _)); refine blk_put (cs := #[.slice A322_0 ((rd_T26 l2 x26_1).f0).length c322_0, .int .i64 0]) ?_ 1 _ rfl; (with_reducible repeat (first | refine kkN ?_ _ | refine kkD ?_ | refine kkA ?_ _)); refine blk_put (cs := #[.slice none 0 0, .int .i64 0]) ?_ 0 _ rfl; (with_reducible repeat (first | refine kkN ?_ _ | refine kkD ?_ | refine kkA ?_ _)); exact BK323.out) hb); have n1_ := Aside0.mk (zzT (by repeat (first | (with_reducible first | exact HB.out | apply zzA | apply zzN | apply zzD | refine below_set ?_ GE323.out) | exact HB.out)) hb); clear BK323; clear HB; have BK323 := n0_; have HB := n1_; clear n0_ n1_; (try clear hb); (try clear hb2); (try clear hk); (try clear hi)) | ((with_reducible refine gate_callee (f := 132) rfl ?_); refine goesL_ (some 44) rfl rfl Try.func132 (by kernel_rfl) rfl #[.int .i64 t324, .int .i64 t324, .int .i64 a1] rfl (by (try simp only [List.map_toArray, List.map_cons, List.map_nil]); first | done | rfl | (simp only [List.length_drop, List.length_take]; rfl)) ?_; (with_reducible refine (thrumref01_Mul.calls t324 t324 a1 t326 t327 _ A12.out).mono ?_); rintro e w' ⟨rfl, ⟨nd, rfl⟩⟩; refine ⟨_, rfl, ?_⟩) | ((with_reducible refine gate_callee (f := 122) rfl ?_); refine goesL_ (some 53) rfl rfl Try.func122 (by kernel_rfl) rfl #[.int .i64 x9_1, .int .i64 t326] rfl (by (try simp only [List.map_toArray, List.map_cons, List.map_nil]); first | done | rfl | (simp only [List.length_drop, List.length_take]; rfl)) ?_; (with_reducible refine (thrumref01_Add.calls x9_1 t326 t328 t329 _ A14.out).mono ?_); rintro e w' ⟨rfl, ⟨nd, rfl⟩⟩; refine ⟨_, rfl, ?_⟩))
          go_roundg k1
          case measure => have := HK1.out; omega
          case rel => exact ⟨(t328), (wrap64 (x26_1 + 1)), (by first | rfl | (simp; done) | (simp [*]; done)), (by first | rfl | (simp; done) | (simp [*]; done)), H', ⟨by have := HK1.out; omega⟩, ⟨by repeat (first | (with_reducible first | exact HB.out | apply zzA | apply zzN | apply zzD | refine below_set ?_ GE323.out) | exact HB.out)⟩⟩
         ·
          rw [if_neg c15] at H
          have c15b0 : (t329 == 0) = false := beq_eq_false_iff_ne.mpr c15
          have c15b1 : (t329 != 0) = true := bne_iff_ne.mpr c15
          simp only [Option.some.injEq, Prod.mk.injEq] at H
          obtain ⟨rfl, rfl⟩ := H
          have p322 : 0 ≤ (x26_1 : Int) := of_decide_eq_true (by first | (with_reducible assumption) | assumption)
          have q322 : x26_1 < (l2.length : Int) := of_decide_eq_true (by first | (with_reducible assumption) | assumption)
          obtain ⟨ad322, A322_0, c322_0, e322, hx322_0, hx322_1, hl322_0, hi322_0⟩ := at_T26 HR2.out x26_1 p322 q322
          cases e322
          replace hx322_0 := (HB.out.cell (World.block_lt_of_cell? w _ hx322_0)).trans hx322_0
          replace hx322_1 := (HB.out.cell (World.block_lt_of_cell? w _ hx322_1)).trans hx322_1
          have HR322_0 := Aside0.mk hi322_0
          have HC322_0 := Aside0.mk hl322_0
          clear hi322_0 hl322_0
          replace p322 := eq_true p322
          replace q322 := eq_true q322
          go_wp2_with (first | ((with_reducible refine gate_dst (N := 11) rfl ?_); refine box_event ?hg (N := 11) ?hd (cs := #[.slice none 0 0, .int .i64 0]) (t := 26) ?hr ?_; (case hd => rfl); (case hg => rfl); (case hr => first | (go_simp; done) | (go_simp; rfl)); intro gb323 hg w19 hbox hb; have n0_ := Aside0.mk (zzT (by repeat (first | (with_reducible first | exact HB.out | apply zzA | apply zzN | apply zzD) | exact HB.out)) hb); have n1_ := Aside0.mk (hbox); have n2_ := Aside0.mk ((by rw [hg]; exact (zzS (by repeat (first | (with_reducible first | exact HB.out | apply zzA | apply zzN | apply zzD) | exact HB.out))) : w.heap.size ≤ gb323)); have n3_ := Aside0.mk ((by rw [hg]; exact (zzS (by repeat (first | (with_reducible first | exact HB.out | apply zzA | apply zzN | apply zzD) | exact HB.out))) : w.heap.size ≤ gb323)); clear HB; have HB := n0_; have BK323 := n1_; have GW323 := n2_; have GE323 := n3_; clear n0_ n1_ n2_ n3_; clear hb hbox hg; have hcz20_0 : w19.cell? ⟨gb323, 0, none⟩ = some (.slice none 0 0) := (blk_cell BK323.out 0).trans rfl; have hcz20_1 : w19.cell? ⟨gb323, 1, none⟩ = some (.int .i64 0) := (blk_cell BK323.out 1).trans rfl; have hfz20_0 := blk_frozen BK323.out 0; have hfz20_1 := blk_frozen BK323.out 1) | ((with_reducible refine gate_callee (f := 64) rfl ?_); refine goesL_ (some 34) rfl rfl Try.func64 (by kernel_rfl) rfl #[.slice A0 l0.length c0, .agg #[.slice A322_0 ((rd_T26 l2 x26_1).f0).length c322_0, .int .i64 ((rd_T26 l2 x26_1).f1)], .int .i64 a1] rfl (by (try simp only [List.map_toArray, List.map_cons, List.map_nil]); first | done | rfl | (simp only [List.length_drop, List.length_take]; rfl)) ?_; (with_reducible refine (thrumref14_Off.calls _ _ l0 _ _ ((rd_T26 l2 x26_1).f0) ((rd_T26 l2 x26_1).f1) a1 t324 t325 _ ?side1 ?side2 ?side3 ?side4 A10.out).mono ?_); (case side1 => exact Kd.C_below HR0.out (by repeat (first | (with_reducible first | exact HB.out | apply zzA | apply zzN | apply zzD | refine below_set ?_ GE323.out) | exact HB.out))); (case side2 => exact HC0.out); (case side3 => exact Kd.C_below HR322_0.out (by repeat (first | (with_reducible first | exact HB.out | apply zzA | apply zzN | apply zzD | refine below_set ?_ GE323.out) | exact HB.out))); (case side4 => exact HC322_0.out); rintro e w21 ⟨rfl, hb⟩; refine ⟨_, rfl, ?_⟩; have n0_ := Aside0.mk (blk_below (g := gb323) (o := .cells #[.slice A322_0 ((rd_T26 l2 x26_1).f0).length c322_0, .int .i64 ((rd_T26 l2 x26_1).f1)] 26 (0, 0)) (by (with_reducible repeat (first | refine kkN ?_ _ | refine kkD ?_ | refine kkA ?_ _)); refine blk_put (cs := #[.slice A322_0 ((rd_T26 l2 x26_1).f0).length c322_0, .int .i64 0]) ?_ 1 _ rfl; (with_reducible repeat (first | refine kkN ?_ _ | refine kkD ?_ | refine kkA ?_ _)); refine blk_put (cs := #[.slice none 0 0, .int .i64 0]) ?_ 0 _ rfl; (with_reducible repeat (first | refine kkN ?_ _ | refine kkD ?_ | refine kkA ?_ _)); exact BK323.out) hb); have n1_ := Aside0.mk (zzT (by repeat (first | (with_reducible first | exact HB.out | apply zzA | apply zzN | apply zzD | refine below_set ?_ GE323.out) | exact HB.out)) hb); clear BK323; clear HB; have BK323 := n0_; have HB := n1_; clear n0_ n1_; (try clear hb); (try clear hb2); (try clear hk); (try clear hi)) | ((with_reducible refine gate_callee (f := 132) rfl ?_); refine goesL_ (some 44) rfl rfl Try.func132 (by kernel_rfl) rfl #[.int .i64 t324, .int .i64 t324, .int .i64 a1] rfl (by (try simp only [List.map_toArray, List.map_cons, List.map_nil]); first | done | rfl | (simp only [List.length_drop, List.length_take]; rfl)) ?_; (with_reducible refine (thrumref01_Mul.calls t324 t324 a1 t326 t327 _ A12.out).mono ?_); rintro e w' ⟨rfl, ⟨nd, rfl⟩⟩; refine ⟨_, rfl, ?_⟩) | ((with_reducible refine gate_callee (f := 122) rfl ?_); refine goesL_ (some 53) rfl rfl Try.func122 (by kernel_rfl) rfl #[.int .i64 x9_1, .int .i64 t326] rfl (by (try simp only [List.map_toArray, List.map_cons, List.map_nil]); first | done | rfl | (simp only [List.length_drop, List.length_take]; rfl)) ?_; (with_reducible refine (thrumref01_Add.calls x9_1 t326 t328 t329 _ A14.out).mono ?_); rintro e w' ⟨rfl, ⟨nd, rfl⟩⟩; refine ⟨_, rfl, ?_⟩))
          go_ret2
          exact ⟨by first | rfl | (simp [errW_none, errW_some] <;> rfl) | (simp [*, errW_none, errW_some] <;> rfl), by repeat (first | (with_reducible first | exact HB.out | apply zzA | apply zzN | apply zzD | refine below_set ?_ GE323.out) | exact HB.out)⟩
        ·
         rw [if_neg c13] at H
         have c13b0 : (t327 == 0) = false := beq_eq_false_iff_ne.mpr c13
         have c13b1 : (t327 != 0) = true := bne_iff_ne.mpr c13
         simp only [Option.some.injEq, Prod.mk.injEq] at H
         obtain ⟨rfl, rfl⟩ := H
         have p322 : 0 ≤ (x26_1 : Int) := of_decide_eq_true (by first | (with_reducible assumption) | assumption)
         have q322 : x26_1 < (l2.length : Int) := of_decide_eq_true (by first | (with_reducible assumption) | assumption)
         obtain ⟨ad322, A322_0, c322_0, e322, hx322_0, hx322_1, hl322_0, hi322_0⟩ := at_T26 HR2.out x26_1 p322 q322
         cases e322
         replace hx322_0 := (HB.out.cell (World.block_lt_of_cell? w _ hx322_0)).trans hx322_0
         replace hx322_1 := (HB.out.cell (World.block_lt_of_cell? w _ hx322_1)).trans hx322_1
         have HR322_0 := Aside0.mk hi322_0
         have HC322_0 := Aside0.mk hl322_0
         clear hi322_0 hl322_0
         replace p322 := eq_true p322
         replace q322 := eq_true q322
         go_wp2_with (first | ((with_reducible refine gate_dst (N := 11) rfl ?_); refine box_event ?hg (N := 11) ?hd (cs := #[.slice none 0 0, .int .i64 0]) (t := 26) ?hr ?_; (case hd => rfl); (case hg => rfl); (case hr => first | (go_simp; done) | (go_simp; rfl)); intro gb323 hg w22 hbox hb; have n0_ := Aside0.mk (zzT (by repeat (first | (with_reducible first | exact HB.out | apply zzA | apply zzN | apply zzD) | exact HB.out)) hb); have n1_ := Aside0.mk (hbox); have n2_ := Aside0.mk ((by rw [hg]; exact (zzS (by repeat (first | (with_reducible first | exact HB.out | apply zzA | apply zzN | apply zzD) | exact HB.out))) : w.heap.size ≤ gb323)); have n3_ := Aside0.mk ((by rw [hg]; exact (zzS (by repeat (first | (with_reducible first | exact HB.out | apply zzA | apply zzN | apply zzD) | exact HB.out))) : w.heap.size ≤ gb323)); clear HB; have HB := n0_; have BK323 := n1_; have GW323 := n2_; have GE323 := n3_; clear n0_ n1_ n2_ n3_; clear hb hbox hg; have hcz23_0 : w22.cell? ⟨gb323, 0, none⟩ = some (.slice none 0 0) := (blk_cell BK323.out 0).trans rfl; have hcz23_1 : w22.cell? ⟨gb323, 1, none⟩ = some (.int .i64 0) := (blk_cell BK323.out 1).trans rfl; have hfz23_0 := blk_frozen BK323.out 0; have hfz23_1 := blk_frozen BK323.out 1) | ((with_reducible refine gate_callee (f := 64) rfl ?_); refine goesL_ (some 34) rfl rfl Try.func64 (by kernel_rfl) rfl #[.slice A0 l0.length c0, .agg #[.slice A322_0 ((rd_T26 l2 x26_1).f0).length c322_0, .int .i64 ((rd_T26 l2 x26_1).f1)], .int .i64 a1] rfl (by (try simp only [List.map_toArray, List.map_cons, List.map_nil]); first | done | rfl | (simp only [List.length_drop, List.length_take]; rfl)) ?_; (with_reducible refine (thrumref14_Off.calls _ _ l0 _ _ ((rd_T26 l2 x26_1).f0) ((rd_T26 l2 x26_1).f1) a1 t324 t325 _ ?side1 ?side2 ?side3 ?side4 A10.out).mono ?_); (case side1 => exact Kd.C_below HR0.out (by repeat (first | (with_reducible first | exact HB.out | apply zzA | apply zzN | apply zzD | refine below_set ?_ GE323.out) | exact HB.out))); (case side2 => exact HC0.out); (case side3 => exact Kd.C_below HR322_0.out (by repeat (first | (with_reducible first | exact HB.out | apply zzA | apply zzN | apply zzD | refine below_set ?_ GE323.out) | exact HB.out))); (case side4 => exact HC322_0.out); rintro e w24 ⟨rfl, hb⟩; refine ⟨_, rfl, ?_⟩; have n0_ := Aside0.mk (blk_below (g := gb323) (o := .cells #[.slice A322_0 ((rd_T26 l2 x26_1).f0).length c322_0, .int .i64 ((rd_T26 l2 x26_1).f1)] 26 (0, 0)) (by (with_reducible repeat (first | refine kkN ?_ _ | refine kkD ?_ | refine kkA ?_ _)); refine blk_put (cs := #[.slice A322_0 ((rd_T26 l2 x26_1).f0).length c322_0, .int .i64 0]) ?_ 1 _ rfl; (with_reducible repeat (first | refine kkN ?_ _ | refine kkD ?_ | refine kkA ?_ _)); refine blk_put (cs := #[.slice none 0 0, .int .i64 0]) ?_ 0 _ rfl; (with_reducible repeat (first | refine kkN ?_ _ | refine kkD ?_ | refine kkA ?_ _)); exact BK323.out) hb); have n1_ := Aside0.mk (zzT (by repeat (first | (with_reducible first | exact HB.out | apply zzA | apply zzN | apply zzD | refine below_set ?_ GE323.out) | exact HB.out)) hb); clear BK323; clear HB; have BK323 := n0_; have HB := n1_; clear n0_ n1_; (try clear hb); (try clear hb2); (try clear hk); (try clear hi)) | ((with_reducible refine gate_callee (f := 132) rfl ?_); refine goesL_ (some 44) rfl rfl Try.func132 (by kernel_rfl) rfl #[.int .i64 t324, .int .i64 t324, .int .i64 a1] rfl (by (try simp only [List.map_toArray, List.map_cons, List.map_nil]); first | done | rfl | (simp only [List.length_drop, List.length_take]; rfl)) ?_; (with_reducible refine (thrumref01_Mul.calls t324 t324 a1 t326 t327 _ A12.out).mono ?_); rintro e w' ⟨rfl, ⟨nd, rfl⟩⟩; refine ⟨_, rfl, ?_⟩))
         go_ret2
         exact ⟨by first | rfl | (simp [errW_none, errW_some] <;> rfl) | (simp [*, errW_none, errW_some] <;> rfl), by repeat (first | (with_reducible first | exact HB.out | apply zzA | apply zzN | apply zzD | refine below_set ?_ GE323.out) | exact HB.out)⟩
       ·
        rw [if_neg c11] at H
        have c11b0 : (t325 == 0) = false := beq_eq_false_iff_ne.mpr c11
        have c11b1 : (t325 != 0) = true := bne_iff_ne.mpr c11
        simp only [Option.some.injEq, Prod.mk.injEq] at H
        obtain ⟨rfl, rfl⟩ := H
        have p322 : 0 ≤ (x26_1 : Int) := of_decide_eq_true (by first | (with_reducible assumption) | assumption)
        have q322 : x26_1 < (l2.length : Int) := of_decide_eq_true (by first | (with_reducible assumption) | assumption)
        obtain ⟨ad322, A322_0, c322_0, e322, hx322_0, hx322_1, hl322_0, hi322_0⟩ := at_T26 HR2.out x26_1 p322 q322
        cases e322
        replace hx322_0 := (HB.out.cell (World.block_lt_of_cell? w _ hx322_0)).trans hx322_0
        replace hx322_1 := (HB.out.cell (World.block_lt_of_cell? w _ hx322_1)).trans hx322_1
        have HR322_0 := Aside0.mk hi322_0
        have HC322_0 := Aside0.mk hl322_0
        clear hi322_0 hl322_0
        replace p322 := eq_true p322
        replace q322 := eq_true q322
        go_wp2_with (first | ((with_reducible refine gate_dst (N := 11) rfl ?_); refine box_event ?hg (N := 11) ?hd (cs := #[.slice none 0 0, .int .i64 0]) (t := 26) ?hr ?_; (case hd => rfl); (case hg => rfl); (case hr => first | (go_simp; done) | (go_simp; rfl)); intro gb323 hg w25 hbox hb; have n0_ := Aside0.mk (zzT (by repeat (first | (with_reducible first | exact HB.out | apply zzA | apply zzN | apply zzD) | exact HB.out)) hb); have n1_ := Aside0.mk (hbox); have n2_ := Aside0.mk ((by rw [hg]; exact (zzS (by repeat (first | (with_reducible first | exact HB.out | apply zzA | apply zzN | apply zzD) | exact HB.out))) : w.heap.size ≤ gb323)); have n3_ := Aside0.mk ((by rw [hg]; exact (zzS (by repeat (first | (with_reducible first | exact HB.out | apply zzA | apply zzN | apply zzD) | exact HB.out))) : w.heap.size ≤ gb323)); clear HB; have HB := n0_; have BK323 := n1_; have GW323 := n2_; have GE323 := n3_; clear n0_ n1_ n2_ n3_; clear hb hbox hg; have hcz26_0 : w25.cell? ⟨gb323, 0, none⟩ = some (.slice none 0 0) := (blk_cell BK323.out 0).trans rfl; have hcz26_1 : w25.cell? ⟨gb323, 1, none⟩ = some (.int .i64 0) := (blk_cell BK323.out 1).trans rfl; have hfz26_0 := blk_frozen BK323.out 0; have hfz26_1 := blk_frozen BK323.out 1) | ((with_reducible refine gate_callee (f := 64) rfl ?_); refine goesL_ (some 34) rfl rfl Try.func64 (by kernel_rfl) rfl #[.slice A0 l0.length c0, .agg #[.slice A322_0 ((rd_T26 l2 x26_1).f0).length c322_0, .int .i64 ((rd_T26 l2 x26_1).f1)], .int .i64 a1] rfl (by (try simp only [List.map_toArray, List.map_cons, List.map_nil]); first | done | rfl | (simp only [List.length_drop, List.length_take]; rfl)) ?_; (with_reducible refine (thrumref14_Off.calls _ _ l0 _ _ ((rd_T26 l2 x26_1).f0) ((rd_T26 l2 x26_1).f1) a1 t324 t325 _ ?side1 ?side2 ?side3 ?side4 A10.out).mono ?_); (case side1 => exact Kd.C_below HR0.out (by repeat (first | (with_reducible first | exact HB.out | apply zzA | apply zzN | apply zzD | refine below_set ?_ GE323.out) | exact HB.out))); (case side2 => exact HC0.out); (case side3 => exact Kd.C_below HR322_0.out (by repeat (first | (with_reducible first | exact HB.out | apply zzA | apply zzN | apply zzD | refine below_set ?_ GE323.out) | exact HB.out))); (case side4 => exact HC322_0.out); rintro e w27 ⟨rfl, hb⟩; refine ⟨_, rfl, ?_⟩; have n0_ := Aside0.mk (blk_below (g := gb323) (o := .cells #[.slice A322_0 ((rd_T26 l2 x26_1).f0).length c322_0, .int .i64 ((rd_T26 l2 x26_1).f1)] 26 (0, 0)) (by (with_reducible repeat (first | refine kkN ?_ _ | refine kkD ?_ | refine kkA ?_ _)); refine blk_put (cs := #[.slice A322_0 ((rd_T26 l2 x26_1).f0).length c322_0, .int .i64 0]) ?_ 1 _ rfl; (with_reducible repeat (first | refine kkN ?_ _ | refine kkD ?_ | refine kkA ?_ _)); refine blk_put (cs := #[.slice none 0 0, .int .i64 0]) ?_ 0 _ rfl; (with_reducible repeat (first | refine kkN ?_ _ | refine kkD ?_ | refine kkA ?_ _)); exact BK323.out) hb); have n1_ := Aside0.mk (zzT (by repeat (first | (with_reducible first | exact HB.out | apply zzA | apply zzN | apply zzD | refine below_set ?_ GE323.out) | exact HB.out)) hb); clear BK323; clear HB; have BK323 := n0_; have HB := n1_; clear n0_ n1_; (try clear hb); (try clear hb2); (try clear hk); (try clear hi)))
        go_ret2
        exact ⟨by first | rfl | (simp [errW_none, errW_some] <;> rfl) | (simp [*, errW_none, errW_some] <;> rfl), by repeat (first | (with_reducible first | exact HB.out | apply zzA | apply zzN | apply zzD | refine below_set ?_ GE323.out) | exact HB.out)⟩
      ·
       rw [if_neg c9] at H
       exact absurd H (by simp)
     ·
      rw [if_neg c8] at H
      exact absurd H (by simp)
    ·
     rw [if_neg c7] at H
     have c7b0 : decide (x26_1 < (l2.length : Int)) = false := decide_eq_false c7
     clear c7
     simp only [Option.some.injEq, Prod.mk.injEq] at H
     obtain ⟨rfl, rfl⟩ := H
     go_wp2
     go_ret2
     exact ⟨by first | rfl | (simp [errW_none, errW_some] <;> rfl) | (simp [*, errW_none, errW_some] <;> rfl), by repeat (first | (with_reducible first | exact HB.out | apply zzA | apply zzN | apply zzD) | exact HB.out)⟩
 ·
  rw [if_neg c5] at H
  have c5b0 : (t321 == 0) = false := beq_eq_false_iff_ne.mpr c5
  have c5b1 : (t321 != 0) = true := bne_iff_ne.mpr c5
  simp only [Option.some.injEq, Prod.mk.injEq] at H
  obtain ⟨rfl, rfl⟩ := H
  go_enter Try.func74, Try.ntmps74
  go_wp2_with (first | ((with_reducible refine gate_callee (f := 70) rfl ?_); refine goesL_ (some 20) rfl rfl Try.func70 (by kernel_rfl) rfl #[.int .i64 (wrap64 ((l0.length : Int) - 1)), .slice A0 l0.length c0, .slice A2 l2.length c2] rfl (by (try simp only [List.map_toArray, List.map_cons, List.map_nil]); first | done | rfl | (simp only [List.length_drop, List.length_take]; rfl)) ?_; (with_reducible refine (thrumref14_Check.calls (wrap64 ((l0.length : Int) - 1)) _ _ l0 _ _ l2 t321 _ ?side1 ?side2 ?side3 ?side4 A4.out).mono ?_); (case side1 => repeat (first | exact HR0.out | (with_reducible refine ccA ?_ _) | (with_reducible refine ccN ?_ _) | (with_reducible refine ccD ?_))); (case side2 => exact HC0.out); (case side3 => repeat (first | exact HR2.out | (with_reducible refine ccA ?_ _) | (with_reducible refine ccN ?_ _) | (with_reducible refine ccD ?_))); (case side4 => exact HC2.out); rintro e w28 ⟨rfl, hb⟩; refine ⟨_, rfl, ?_⟩; have n0_ := Aside0.mk (zzT (by repeat (first | (with_reducible first | exact HB.out | apply zzA | apply zzN | apply zzD) | exact HB.out)) hb); clear HB; have HB := n0_; clear n0_; (try clear hb); (try clear hb2); (try clear hk); (try clear hi)))
  go_ret2
  exact ⟨by first | rfl | (simp [errW_none, errW_some] <;> rfl) | (simp [*, errW_none, errW_some] <;> rfl), by repeat (first | (with_reducible first | exact HB.out | apply zzA | apply zzN | apply zzD) | exact HB.out)⟩

theorem thrumref14_LossP.loop (x0 : List Int) (x1 : Int) (x2 : List S26) (h0 : V64 x0) (h2 : ∀ s ∈ x2, Sm64 s) (hb : x2.length ≤ 9223372036854775807) : ∀ (d i : Nat) (s : Int), d + i = x2.length → I64 s →
    thrumref14_LossP.l0 (d + 1) x0 x1 s x2 (x2.length : Int) (i : Int) = some (sumV ((x2.drop i).map fun s => lossS x0 x1 (sm s)) s) := by
  intro d
  induction d with
  | zero =>
    intro i s hd hs
    rw [thrumref14_LossP.l0, if_neg (by omega), List.drop_eq_nil_of_le (by omega)]; rfl
  | succ d ih =>
    intro i s hd hs
    have hi : i < x2.length := by omega
    have hx := h2 _ (List.getElem_mem hi)
    rw [thrumref14_LossP.l0, if_pos (by omega), if_pos (by omega), if_pos (by omega), rd_sm hi, thrumref14_Off.of _ _ _ _ ⟨h0, hx.1, hx.2⟩, List.drop_eq_getElem_cons hi]
    simp only [Option.bind_some, List.map_cons, sumV]
    have hbd : lossS x0 x1 (sm x2[i]) = if (offL x0 x2[i].f0 x2[i].f1 x1).2 = 0 then mulF (offL x0 x2[i].f0 x2[i].f1 x1).1 (offL x0 x2[i].f0 x2[i].f1 x1).1 x1 else (0, (offL x0 x2[i].f0 x2[i].f1 x1).2) := rfl
    by_cases c : (offL x0 x2[i].f0 x2[i].f1 x1).2 = 0
    · rw [if_pos c] at hbd
      rw [if_pos c, hbd, thrumref01_Mul.of _ _ _ ⟨offL_i64 _ _ _ _, offL_i64 _ _ _ _⟩]
      simp only [Option.bind_some]
      by_cases c2 : (mulF (offL x0 x2[i].f0 x2[i].f1 x1).1 (offL x0 x2[i].f0 x2[i].f1 x1).1 x1).2 = 0
      · rw [if_pos c2, if_pos c2, thrumref01_Add.of _ _ ⟨hs, mulF_i64 _ _ _⟩]
        simp only [Option.bind_some]
        by_cases c3 : (res (s + (mulF (offL x0 x2[i].f0 x2[i].f1 x1).1 (offL x0 x2[i].f0 x2[i].f1 x1).1 x1).1)).2 = 0
        · rw [if_pos c3, if_pos c3, wrap64_of (by unfold I64; omega), show (i : Int) + 1 = ((i + 1 : Nat) : Int) by omega]
          exact ih (i + 1) _ (by omega) (res_i64 _)
        · rw [if_neg c3, if_neg c3]
      · rw [if_neg c2, if_neg c2]
    · rw [if_neg c] at hbd
      rw [if_neg c, hbd]
      simp only [if_neg c]
def thrumref14_Loss.f (l0 : List Int) (a1 : Int) (l2 : List S26) : Option (Int × Int) := if V64 l0 ∧ ∀ s ∈ l2, Sm64 s then some (lossL l0 a1 (l2.map sm)) else none
theorem thrumref14_Loss.of (l0 : List Int) (a1 : Int) (l2 : List S26)  (h_ : V64 l0 ∧ ∀ s ∈ l2, Sm64 s) : thrumref14_Loss.f l0 a1 l2 = some (lossL l0 a1 (l2.map sm)) := if_pos h_
theorem thrumref14_Loss.calls (A0 : Option Addr) (c0 : Nat) (l0 : List Int) (a1 : Int) (A2 : Option Addr) (c2 : Nat) (l2 : List (S26)) (r1 : Int) (r2 : Int) (w : World) (hr0 : Kd.C (Kd.int .i64) w A0 l0.length l0) (hc0 : l0.length ≤ c0) (hr2 : Kd.C k26 w A2 l2.length l2) (hc2 : l2.length ≤ c2) (h : thrumref14_Loss.f l0 a1 l2 = some (r1, r2)) :
    Calls Try.prog 74 #[.slice A0 l0.length c0, .int .i64 a1, .slice A2 l2.length c2] w fun e w' => e = .returned (.tuple #[.int .i64 r1, .int .i64 r2]) ∧ Below w.heap.size w w' := by
  unfold thrumref14_Loss.f at h
  split at h
  case isFalse => cases h
  rename_i hv
  have hm := Kd.C_max hr2
  refine thrumref14_LossP.calls (l2.length + 1) A0 c0 l0 a1 A2 c2 l2 r1 r2 w hr0 hc0 hr2 hc2 (Eq.trans ?_ h)
  unfold thrumref14_LossP.f lossL thrumref14_Check.f
  simp only [Option.bind_some]
  by_cases c : checkL (wrap64 ((l0.length : Int) - 1)) l0 (l2.map sm) = 0
  · rw [if_pos c, if_pos c, List.map_map]
    exact thrumref14_LossP.loop l0 a1 l2 hv.1 hv.2 hm l2.length 0 0 (by omega) i64_zero
  · rw [if_neg c, if_neg c]




















































































































































































































































































































































































































































































































































end Go.Proofs.Ytfbdalnjijdknaa.HL
