/- What Go functions do, each as a plain Lean function with the same answers, and the proof of it, in every world: printed by the session's driver over the kit's print, with texts by hand. -/
import Derived.Test.YtalamamjodihaaaHNx0
import Derived.Test.YtalamamjodihaaaHNx1
import Derived.Test.YtalamamjodihaaaHNx3
namespace Go.Proofs.Ytalamamjodihaaa.HN
open Go.RowKit Go.Proofs.YtalamamjodihaaaW.PrintWords Go.Proofs.YtalamamjodihaaaW.PrintLast Go.Proofs.YtalamamjodihaaaW.PrintMore
attribute [local go_sem] max2_int min2_int max_two min_two max_three min_three max_four min_four   -- for this text's walks alone
open Go.Proofs.Ytalamamjodihaaa.Sp
attribute [local go_sem] Go.Proofs.Ytalamamjodihaaa.Sp.u64_not
set_option linter.unusedVariables false
set_option linter.unusedSimpArgs false

/-! ### thrumref16_CheckP: function 26 -/
def thrumref16_CheckP.l0 : Nat → Int → List (S26) → List (S26) → Int → Int → Option (Int)
 | 0, _, _, _, _, _ => none
 | k + 1, x0, x3, x26, x27, x28 => if x28 < x27 then (if 0 ≤ x28 then (if x28 < (x26.length : Int) then (if (((rd_T26 x26 x28).f0).length : Int) = x0 then (thrumref16_CheckP.l0 k x0 x3 x26 x27 (wrap64 (x28 + 1))) else (some 4)) else (none)) else (none)) else (if (x3.length : Int) = 0 then (some 1) else (if (x3.length : Int) > 64 then (some 1) else (some 0)))
def thrumref16_CheckP.f (k : Nat) (a0 : Int) (a1 : Int) (l2 : List Int) (l3 : List (S26)) : Option (Int) := (thrumref16_Dim.f a0 a1).bind fun bt247 => (if bt247.2 = 0 then (if (l2.length : Int) = bt247.1 then (thrumref16_CheckP.l0 k a0 l3 l3 (l3.length : Int) 0) else (some 4)) else (some bt247.2))
theorem thrumref16_CheckP.mono_l : ∀ k, (∀ y0 y1 y2 y3 y4, LeO (thrumref16_CheckP.l0 k y0 y1 y2 y3 y4) (thrumref16_CheckP.l0 (k + 1) y0 y1 y2 y3 y4))
 | 0 => fun _ _ _ _ _ r h => by simp [thrumref16_CheckP.l0] at h
 | k + 1 => by
  have ih0 := thrumref16_CheckP.mono_l k
  ·
   intro y0 y1 y2 y3 y4
   unfold thrumref16_CheckP.l0
   repeat' first
   | (with_reducible exact ih0 _ _ _ _ _)
   | (with_reducible exact LeO.refl _)
   | (with_reducible exact LeO.none _)
   | (with_reducible refine LeO.ite ?_ ?_)
   | (with_reducible refine LeO.bind ?_ (fun _ => ?_))
   | exact ih0 _ _ _ _ _
   | exact LeO.none _
   | refine LeO.ite ?_ ?_
   | refine LeO.bind ?_ (fun _ => ?_)
theorem thrumref16_CheckP.mono : ∀ a0 a1 a2 a3 k, LeO (thrumref16_CheckP.f k a0 a1 a2 a3) (thrumref16_CheckP.f (k + 1) a0 a1 a2 a3) := by
 intro a0 a1 a2 a3 k
 have ih0 := thrumref16_CheckP.mono_l k
 unfold thrumref16_CheckP.f
 repeat' first
   | (with_reducible exact ih0 _ _ _ _ _)
   | (with_reducible exact LeO.refl _)
   | (with_reducible exact LeO.none _)
   | (with_reducible refine LeO.ite ?_ ?_)
   | (with_reducible refine LeO.bind ?_ (fun _ => ?_))
   | exact ih0 _ _ _ _ _
   | exact LeO.none _
   | refine LeO.ite ?_ ?_
   | refine LeO.bind ?_ (fun _ => ?_)
set_option maxHeartbeats 8000000 in
set_option maxRecDepth 100000 in
theorem thrumref16_CheckP.calls (k : Nat) (a0 : Int) (a1 : Int) (A2 : Option Addr) (c2 : Nat) (l2 : List Int) (A3 : Option Addr) (c3 : Nat) (l3 : List (S26)) (r : Int) (w : World) (hr2 : Kd.C (Kd.int .i64) w A2 l2.length l2) (hc2 : l2.length ≤ c2) (hr3 : Kd.C k26 w A3 l3.length l3) (hc3 : l3.length ≤ c3) (h : thrumref16_CheckP.f k a0 a1 l2 l3 = some r) :
  Calls Try.prog 26 #[.int .i64 a0, .int .i64 a1, .slice A2 l2.length c2, .slice A3 l3.length c3] w fun e w' => e = .returned (.int .i64 r) ∧ Below w.heap.size w w' := by
 have hu26 := Try.underlying26
 have HR2 := Aside0.mk hr2
 have HC2 := Aside0.mk hc2
 clear hr2 hc2
 have HR3 := Aside0.mk hr3
 have HC3 := Aside0.mk hc3
 clear hr3 hc3
 have HB := Aside0.mk (Below.refl w.heap.size w)
 have H : ((thrumref16_Dim.f a0 a1).bind fun bt247 => (if bt247.2 = 0 then (if (l2.length : Int) = bt247.1 then (thrumref16_CheckP.l0 k a0 l3 l3 (l3.length : Int) 0) else (some 4)) else (some bt247.2))) = some r := h
 clear h
 replace H := Option.bind_eq_some_iff.mp H
 obtain ⟨⟨t247, t248⟩, A50, H⟩ := H
 replace H : (if t248 = 0 then (if (l2.length : Int) = t247 then (thrumref16_CheckP.l0 k a0 l3 l3 (l3.length : Int) 0) else (some 4)) else (some t248)) = some r := H
 have A5 := Aside0.mk A50
 clear A50
 by_cases c6 : t248 = 0
 ·
  rw [if_pos c6] at H
  have c6b0 : (t248 == 0) = true := beq_iff_eq.mpr c6
  have c6b1 : (t248 != 0) = false := bne_eq_false_iff_eq.mpr c6
  clear c6
  by_cases c7 : (l2.length : Int) = t247
  ·
   rw [if_pos c7] at H
   have c7b0 : ((l2.length : Int) == t247) = true := beq_iff_eq.mpr c7
   have c7b1 : ((l2.length : Int) != t247) = false := bne_eq_false_iff_eq.mpr c7
   clear c7
   have H' := Aside0.mk H
   clear H
   go_enter Try.func26, Try.ntmps26
   go_wp2_with (first | ((with_reducible refine gate_callee (f := 20) rfl ?_); refine goesL_ (some 16) rfl rfl Try.func20 (by kernel_rfl) rfl #[.int .i64 a0, .int .i64 a1] rfl (by (try simp only [List.map_toArray, List.map_cons, List.map_nil]); first | done | rfl | (simp only [List.length_drop, List.length_take]; rfl)) ?_; (with_reducible refine (thrumref16_Dim.calls a0 a1 t247 t248 _ A5.out).mono ?_); rintro e w' ⟨rfl, ⟨nd, rfl⟩⟩; refine ⟨_, rfl, ?_⟩))
   go_loopg [28] k (fun kq v28 w' => ∃ (x28_1 : Int), v28 = .int .i64 x28_1 ∧ Aside0 (thrumref16_CheckP.l0 kq a0 l3 l3 (l3.length : Int) x28_1 = some r) ∧ Aside0 (kq ≤ k) ∧ Aside0 (Below w.heap.size w w'))
   case atStart => exact ⟨(0), (by first | rfl | (simp; done) | (simp [*]; done)), H', ⟨Nat.le_refl _⟩, ⟨by repeat (first | (with_reducible first | exact HB.out | apply zzA | apply zzN | apply zzD) | exact HB.out)⟩⟩
   case round =>
    clear H'
    try clear c2
    try clear p2
    try clear c3
    try clear c6
    try clear c6b0
    try clear c6b1
    try clear c7
    try clear c7b0
    try clear c7b1
    obtain ⟨x28_1, rfl, HA, HK1, HB⟩ := hrel
    cases gk with
    | zero => exact absurd HA.out (by simp [thrumref16_CheckP.l0])
    | succ k1 =>
     have H := HA.out
     clear HA
     simp only [thrumref16_CheckP.l0] at H
     by_cases c8 : x28_1 < (l3.length : Int)
     ·
      rw [if_pos c8] at H
      have c8b0 : decide (x28_1 < (l3.length : Int)) = true := decide_eq_true c8
      clear c8
      by_cases c9 : 0 ≤ x28_1
      ·
       rw [if_pos c9] at H
       have c9b0 : decide (0 ≤ x28_1) = true := decide_eq_true c9
       clear c9
       by_cases c10 : x28_1 < (l3.length : Int)
       ·
        rw [if_pos c10] at H
        have c10b0 : decide (x28_1 < (l3.length : Int)) = true := decide_eq_true c10
        clear c10
        by_cases c11 : (((rd_T26 l3 x28_1).f0).length : Int) = a0
        ·
         rw [if_pos c11] at H
         have c11b0 : ((((rd_T26 l3 x28_1).f0).length : Int) == a0) = true := beq_iff_eq.mpr c11
         have c11b1 : ((((rd_T26 l3 x28_1).f0).length : Int) != a0) = false := bne_eq_false_iff_eq.mpr c11
         clear c11
         have H' := Aside0.mk H
         clear H
         have p249 : 0 ≤ (x28_1 : Int) := of_decide_eq_true (by first | (with_reducible assumption) | assumption)
         have q249 : x28_1 < (l3.length : Int) := of_decide_eq_true (by first | (with_reducible assumption) | assumption)
         obtain ⟨ad249, A249_0, c249_0, e249, hx249_0, hx249_1, hl249_0, hi249_0⟩ := at_T26 HR3.out x28_1 p249 q249
         cases e249
         replace hx249_0 := (HB.out.cell (World.block_lt_of_cell? w _ hx249_0)).trans hx249_0
         replace hx249_1 := (HB.out.cell (World.block_lt_of_cell? w _ hx249_1)).trans hx249_1
         have HR249_0 := Aside0.mk hi249_0
         have HC249_0 := Aside0.mk hl249_0
         clear hi249_0 hl249_0
         replace p249 := eq_true p249
         replace q249 := eq_true q249
         go_wp2_with (first | ((with_reducible refine gate_dst (N := 12) rfl ?_); (try (refine gate_guard (by rfl) ?_; dsimp only)); refine box_event ?hg (N := 12) ?hd (cs := #[.slice none 0 0, .int .i64 0]) (t := 26) ?hr ?_; (case hd => rfl); (case hg => rfl); (case hr => first | (go_simp; done) | (go_simp; rfl)); intro gb250 hg w12 hbox hb; have n0_ := Aside0.mk (zzT (by repeat (first | (with_reducible first | exact HB.out | apply zzA | apply zzN | apply zzD) | exact HB.out)) hb); have n1_ := Aside0.mk (hbox); have n2_ := Aside0.mk ((by rw [hg]; exact (zzS (by repeat (first | (with_reducible first | exact HB.out | apply zzA | apply zzN | apply zzD) | exact HB.out))) : w.heap.size ≤ gb250)); have n3_ := Aside0.mk ((by rw [hg]; exact (zzS (by repeat (first | (with_reducible first | exact HB.out | apply zzA | apply zzN | apply zzD) | exact HB.out))) : w.heap.size ≤ gb250)); clear HB; have HB := n0_; have BK250 := n1_; have GW250 := n2_; have GE250 := n3_; clear n0_ n1_ n2_ n3_; clear hb hbox hg; have hcz13_0 : w12.cell? ⟨gb250, 0, none⟩ = some (.slice none 0 0) := (blk_cell BK250.out 0).trans rfl; have hcz13_1 : w12.cell? ⟨gb250, 1, none⟩ = some (.int .i64 0) := (blk_cell BK250.out 1).trans rfl; have hfz13_0 := blk_frozen BK250.out 0; have hfz13_1 := blk_frozen BK250.out 1))
         go_roundg k1
         case measure => have := HK1.out; omega
         case rel => exact ⟨(wrap64 (x28_1 + 1)), (by first | rfl | (simp; done) | (simp [*]; done)), H', ⟨by have := HK1.out; omega⟩, ⟨by repeat (first | (with_reducible first | exact HB.out | apply zzA | apply zzN | apply zzD | refine below_set ?_ GE250.out) | exact HB.out)⟩⟩
        ·
         rw [if_neg c11] at H
         have c11b0 : ((((rd_T26 l3 x28_1).f0).length : Int) == a0) = false := beq_eq_false_iff_ne.mpr c11
         have c11b1 : ((((rd_T26 l3 x28_1).f0).length : Int) != a0) = true := bne_iff_ne.mpr c11
         obtain rfl := Option.some.inj H
         have p249 : 0 ≤ (x28_1 : Int) := of_decide_eq_true (by first | (with_reducible assumption) | assumption)
         have q249 : x28_1 < (l3.length : Int) := of_decide_eq_true (by first | (with_reducible assumption) | assumption)
         obtain ⟨ad249, A249_0, c249_0, e249, hx249_0, hx249_1, hl249_0, hi249_0⟩ := at_T26 HR3.out x28_1 p249 q249
         cases e249
         replace hx249_0 := (HB.out.cell (World.block_lt_of_cell? w _ hx249_0)).trans hx249_0
         replace hx249_1 := (HB.out.cell (World.block_lt_of_cell? w _ hx249_1)).trans hx249_1
         have HR249_0 := Aside0.mk hi249_0
         have HC249_0 := Aside0.mk hl249_0
         clear hi249_0 hl249_0
         replace p249 := eq_true p249
         replace q249 := eq_true q249
         go_wp2_with (first | ((with_reducible refine gate_dst (N := 12) rfl ?_); (try (refine gate_guard (by rfl) ?_; dsimp only)); refine box_event ?hg (N := 12) ?hd (cs := #[.slice none 0 0, .int .i64 0]) (t := 26) ?hr ?_; (case hd => rfl); (case hg => rfl); (case hr => first | (go_simp; done) | (go_simp; rfl)); intro gb250 hg w14 hbox hb; have n0_ := Aside0.mk (zzT (by repeat (first | (with_reducible first | exact HB.out | apply zzA | apply zzN | apply zzD) | exact HB.out)) hb); have n1_ := Aside0.mk (hbox); have n2_ := Aside0.mk ((by rw [hg]; exact (zzS (by repeat (first | (with_reducible first | exact HB.out | apply zzA | apply zzN | apply zzD) | exact HB.out))) : w.heap.size ≤ gb250)); have n3_ := Aside0.mk ((by rw [hg]; exact (zzS (by repeat (first | (with_reducible first | exact HB.out | apply zzA | apply zzN | apply zzD) | exact HB.out))) : w.heap.size ≤ gb250)); clear HB; have HB := n0_; have BK250 := n1_; have GW250 := n2_; have GE250 := n3_; clear n0_ n1_ n2_ n3_; clear hb hbox hg; have hcz15_0 : w14.cell? ⟨gb250, 0, none⟩ = some (.slice none 0 0) := (blk_cell BK250.out 0).trans rfl; have hcz15_1 : w14.cell? ⟨gb250, 1, none⟩ = some (.int .i64 0) := (blk_cell BK250.out 1).trans rfl; have hfz15_0 := blk_frozen BK250.out 0; have hfz15_1 := blk_frozen BK250.out 1))
         go_ret
         exact ⟨by first | rfl | (simp [errW_none, errW_some] <;> rfl) | (simp [*, errW_none, errW_some] <;> rfl), by repeat (first | (with_reducible first | exact HB.out | apply zzA | apply zzN | apply zzD | refine below_set ?_ GE250.out) | exact HB.out)⟩
       ·
        rw [if_neg c10] at H
        exact absurd H (by simp)
      ·
       rw [if_neg c9] at H
       exact absurd H (by simp)
     ·
      rw [if_neg c8] at H
      have c8b0 : decide (x28_1 < (l3.length : Int)) = false := decide_eq_false c8
      clear c8
      by_cases c16 : (l3.length : Int) = 0
      ·
       rw [if_pos c16] at H
       have c16b0 : ((l3.length : Int) == 0) = true := beq_iff_eq.mpr c16
       have c16b1 : ((l3.length : Int) != 0) = false := bne_eq_false_iff_eq.mpr c16
       clear c16
       obtain rfl := Option.some.inj H
       go_wp2
       go_ret
       exact ⟨by first | rfl | (simp [errW_none, errW_some] <;> rfl) | (simp [*, errW_none, errW_some] <;> rfl), by repeat (first | (with_reducible first | exact HB.out | apply zzA | apply zzN | apply zzD) | exact HB.out)⟩
      ·
       rw [if_neg c16] at H
       have c16b0 : ((l3.length : Int) == 0) = false := beq_eq_false_iff_ne.mpr c16
       have c16b1 : ((l3.length : Int) != 0) = true := bne_iff_ne.mpr c16
       have c16b2 : ¬ (l3 = []) := fun h_ => c16 (by rw [h_]; rfl)
       by_cases c17 : (l3.length : Int) > 64
       ·
        rw [if_pos c17] at H
        have c17b0 : decide (64 < (l3.length : Int)) = true := decide_eq_true c17
        have c17b1 : decide (64 < l3.length) = true := decide_eq_true (by omega)
        clear c17
        obtain rfl := Option.some.inj H
        go_wp2
        go_ret
        exact ⟨by first | rfl | (simp [errW_none, errW_some] <;> rfl) | (simp [*, errW_none, errW_some] <;> rfl), by repeat (first | (with_reducible first | exact HB.out | apply zzA | apply zzN | apply zzD) | exact HB.out)⟩
       ·
        rw [if_neg c17] at H
        have c17b0 : decide (64 < (l3.length : Int)) = false := decide_eq_false c17
        have c17b1 : decide (64 < l3.length) = false := decide_eq_false (by omega)
        clear c17
        obtain rfl := Option.some.inj H
        go_wp2
        go_ret
        exact ⟨by first | rfl | (simp [errW_none, errW_some] <;> rfl) | (simp [*, errW_none, errW_some] <;> rfl), by repeat (first | (with_reducible first | exact HB.out | apply zzA | apply zzN | apply zzD) | exact HB.out)⟩
  ·
   rw [if_neg c7] at H
   have c7b0 : ((l2.length : Int) == t247) = false := beq_eq_false_iff_ne.mpr c7
   have c7b1 : ((l2.length : Int) != t247) = true := bne_iff_ne.mpr c7
   obtain rfl := Option.some.inj H
   go_enter Try.func26, Try.ntmps26
   go_wp2_with (first | ((with_reducible refine gate_callee (f := 20) rfl ?_); refine goesL_ (some 16) rfl rfl Try.func20 (by kernel_rfl) rfl #[.int .i64 a0, .int .i64 a1] rfl (by (try simp only [List.map_toArray, List.map_cons, List.map_nil]); first | done | rfl | (simp only [List.length_drop, List.length_take]; rfl)) ?_; (with_reducible refine (thrumref16_Dim.calls a0 a1 t247 t248 _ A5.out).mono ?_); rintro e w' ⟨rfl, ⟨nd, rfl⟩⟩; refine ⟨_, rfl, ?_⟩))
   go_ret
   exact ⟨by first | rfl | (simp [errW_none, errW_some] <;> rfl) | (simp [*, errW_none, errW_some] <;> rfl), by repeat (first | (with_reducible first | exact HB.out | apply zzA | apply zzN | apply zzD) | exact HB.out)⟩
 ·
  rw [if_neg c6] at H
  have c6b0 : (t248 == 0) = false := beq_eq_false_iff_ne.mpr c6
  have c6b1 : (t248 != 0) = true := bne_iff_ne.mpr c6
  obtain rfl := Option.some.inj H
  go_enter Try.func26, Try.ntmps26
  go_wp2_with (first | ((with_reducible refine gate_callee (f := 20) rfl ?_); refine goesL_ (some 16) rfl rfl Try.func20 (by kernel_rfl) rfl #[.int .i64 a0, .int .i64 a1] rfl (by (try simp only [List.map_toArray, List.map_cons, List.map_nil]); first | done | rfl | (simp only [List.length_drop, List.length_take]; rfl)) ?_; (with_reducible refine (thrumref16_Dim.calls a0 a1 t247 t248 _ A5.out).mono ?_); rintro e w' ⟨rfl, ⟨nd, rfl⟩⟩; refine ⟨_, rfl, ?_⟩))
  go_ret
  exact ⟨by first | rfl | (simp [errW_none, errW_some] <;> rfl) | (simp [*, errW_none, errW_some] <;> rfl), by repeat (first | (with_reducible first | exact HB.out | apply zzA | apply zzN | apply zzD) | exact HB.out)⟩

def thrumref16_Check.f (a0 a1 : Int) (l2 : List Int) (l3 : List S26) : Option Int := some (checkM a0 a1 l2 (l3.map sm))
theorem thrumref16_CheckP.loop0 (a : Int) (l : List S26) (hb : l.length ≤ 9223372036854775807) : ∀ (d i : Nat), d + i = l.length →
    thrumref16_CheckP.l0 (d + 1) a l l (l.length : Int) (i : Int) = some (if ((l.drop i).any fun s => (s.f0.length : Int) != a) = true then 4 else if l.length = 0 ∨ l.length > 64 then 1 else 0) := by
  intro d
  induction d with
  | zero =>
    intro i hd
    rw [thrumref16_CheckP.l0, if_neg (by omega), List.drop_eq_nil_of_le (by omega), if_neg (show ¬ (([] : List S26).any fun s => (s.f0.length : Int) != a) = true from fun h => by cases h)]
    by_cases c : (l.length : Int) = 0
    · rw [if_pos c, if_pos (.inl (by omega))]
    · rw [if_neg c]
      by_cases c2 : (l.length : Int) > 64
      · rw [if_pos c2, if_pos (.inr (by omega))]
      · rw [if_neg c2, if_neg (fun h => h.elim (fun h => c (by omega)) (fun h => c2 (by omega)))]
  | succ d ih =>
    intro i hd
    have hi : i < l.length := by omega
    rw [thrumref16_CheckP.l0, if_pos (by omega), if_pos (by omega), if_pos (by omega), rd_sm hi, List.drop_eq_getElem_cons hi, List.any_cons]
    by_cases c : (l[i].f0.length : Int) = a
    · rw [if_pos c, wrap64_of (by unfold I64; omega), show (i : Int) + 1 = ((i + 1 : Nat) : Int) by omega, ih (i + 1) (by omega), show ((l[i].f0.length : Int) != a) = false from bne_eq_false_iff_eq.2 c, Bool.false_or]
    · rw [if_neg c, show ((l[i].f0.length : Int) != a) = true from bne_iff_ne.2 c, Bool.true_or, if_pos rfl]
theorem checkMr_any (a0 a1 : Int) (l2 : List Int) (l3 : List S26) : checkM a0 a1 l2 (l3.map sm) =
    if (dimM a0 a1).2 ≠ 0 then 1 else if (l2.length : Int) ≠ (dimM a0 a1).1 ∨ (l3.any fun s => (s.f0.length : Int) != a0) = true then 4 else
    if l3.length = 0 ∨ l3.length > 64 then 1 else 0 := by
  unfold checkM
  have h1 : (¬ ∀ s ∈ l3.map sm, (s.1.length : Int) = a0) ↔ (l3.any fun s => (s.f0.length : Int) != a0) = true := by
    simp [List.any_eq_true, sm]
  rw [List.length_map]
  simp only [h1]
theorem thrumref16_CheckP.is (a0 a1 : Int) (l2 : List Int) (l3 : List S26) (hb : l3.length ≤ 9223372036854775807) : thrumref16_CheckP.f (l3.length + 1) a0 a1 l2 l3 = some (checkM a0 a1 l2 (l3.map sm)) := by
  unfold thrumref16_CheckP.f
  rw [thrumref16_Dim.f, Option.bind_some, checkMr_any]
  by_cases c : (dimM a0 a1).2 = 0
  · rw [if_pos c, if_neg (not_not_intro c)]
    by_cases c2 : (l2.length : Int) = (dimM a0 a1).1
    · have h0 := thrumref16_CheckP.loop0 a0 l3 hb l3.length 0 (by omega)
      rw [show ((0 : Nat) : Int) = 0 from rfl, List.drop_zero] at h0
      rw [if_pos c2, h0]
      by_cases cA : (l3.any fun s => (s.f0.length : Int) != a0) = true
      · rw [if_pos cA, if_pos (.inr cA)]
      · rw [if_neg cA, if_neg (show ¬ ((l2.length : Int) ≠ (dimM a0 a1).1 ∨ (l3.any fun s => (s.f0.length : Int) != a0) = true) from fun h => h.elim (fun h => h c2) cA)]
    · rw [if_neg c2, if_pos (.inl c2)]
  · rw [if_neg c, if_pos c, dimM_bad c]
theorem thrumref16_Check.calls (a0 : Int) (a1 : Int) (A2 : Option Addr) (c2 : Nat) (l2 : List Int) (A3 : Option Addr) (c3 : Nat) (l3 : List (S26)) (r : Int) (w : World) (hr2 : Kd.C (Kd.int .i64) w A2 l2.length l2) (hc2 : l2.length ≤ c2) (hr3 : Kd.C k26 w A3 l3.length l3) (hc3 : l3.length ≤ c3) (h : thrumref16_Check.f a0 a1 l2 l3 = some r) :
    Calls Try.prog 26 #[.int .i64 a0, .int .i64 a1, .slice A2 l2.length c2, .slice A3 l3.length c3] w fun e w' => e = .returned (.int .i64 r) ∧ Below w.heap.size w w' := by
  unfold thrumref16_Check.f at h
  exact thrumref16_CheckP.calls (l3.length + 1) a0 a1 A2 c2 l2 A3 c3 l3 r w hr2 hc2 hr3 hc3 ((thrumref16_CheckP.is a0 a1 l2 l3 (Kd.C_max hr3)).trans h)




















































































































































































































































































































































































































































































































































































































































































































































































































































































































































































































































end Go.Proofs.Ytalamamjodihaaa.HN
