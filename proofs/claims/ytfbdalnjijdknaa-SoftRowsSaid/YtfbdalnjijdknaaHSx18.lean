/- What Go functions do, each as a plain Lean function with the same answers, and the proof of it, in every world: printed by the session's driver over the kit's print, with texts by hand. -/
import Derived.Test.YtfbdalnjijdknaaHSx0
import Derived.Test.YtfbdalnjijdknaaHSx1
import Derived.Test.YtfbdalnjijdknaaHSx9
import Derived.Test.YtfbdalnjijdknaaHSx12
import Derived.Test.YtfbdalnjijdknaaHSx16
namespace Go.Proofs.Ytfbdalnjijdknaa.HS
open Go.RowKit Go.Proofs.YtfbdalnjijdknaaW.PrintWords Go.Proofs.YtfbdalnjijdknaaW.PrintLast Go.Proofs.YtfbdalnjijdknaaW.PrintMore
attribute [local go_sem] max2_int min2_int max_two min_two max_three min_three max_four min_four   -- for this text's walks alone
open Go.Proofs.Ytfbdalnjijdknaa.Sp
attribute [local go_sem] Go.Proofs.Ytfbdalnjijdknaa.Sp.u64_not
set_option linter.unusedVariables false
set_option linter.unusedSimpArgs false

/-! ### thrumlaw15_SoftRows: function 22 -/
mutual
def thrumlaw15_SoftRows.l0 : Nat → Int → List Int → Bool → List (List Int) → List Int → List (List Int) → Int → Int → Option (Bool)
 | 0, _, _, _, _, _, _, _, _ => none
 | k + 1, x0, x1, x5, x6, x8, x34, x35, x36 => if x36 < x35 then (if 0 ≤ x36 then (if x36 < (x34.length : Int) then (if 0 < (x6.length : Int) then (if ((rd_L1 x34 x36).length : Int) = ((rd_L1 x6 0).length : Int) then (if x8.length + (rd_L1 x34 x36).length < 17592186044416 then (thrumlaw15_SoftRows.l0 k x0 x1 x5 x6 (x8 ++ (rd_L1 x34 x36)) x34 x35 (wrap64 (x36 + 1))) else (none)) else (some false)) else (none)) else (none)) else (none)) else (if (x6.length : Int) = x0 then (thrumlaw15_SoftRows.j1 k x0 x1 x5 x6 x8 ((x6.length : Int) == 0)) else (thrumlaw15_SoftRows.j1 k x0 x1 x5 x6 x8 true))
def thrumlaw15_SoftRows.j1 : Nat → Int → List Int → Bool → List (List Int) → List Int → Bool → Option (Bool)
 | 0, _, _, _, _, _, _ => none
 | k + 1, x0, x1, x5, x6, x8, x59 => if x59 = true then (some false) else (if 0 < (x6.length : Int) then ((soft_Dim.f (wrap64 (((rd_L1 x6 0).length : Int) - 1)) x0).bind fun bt277 => (if x5 = true then (if bt277.2 = 0 then (if bt277.1 = (x1.length : Int) then ((thrumref02_Same.f x8 x1).bind fun t279 => (some t279)) else (some false)) else (some false)) else (some false))) else (none))
end
def thrumlaw15_SoftRows.f (k : Nat) (a0 : Int) (l1 : List Int) : Option (Bool) := (thrumlaw15_live.f).bind fun t266 => (if t266 = true then (if (l1.length : Int) > 500 then (some t266) else ((soft_Rows.f a0 l1).bind fun bt267 => (if bt267.2 = 0 then (thrumlaw15_SoftRows.l0 k a0 l1 t266 bt267.1 ([] : List Int) bt267.1 (bt267.1.length : Int) 0) else (some ((bt267.1.length : Int) == 0))))) else (some false))
theorem thrumlaw15_SoftRows.mono_l : ∀ k, (∀ y0 y1 y2 y3 y4 y5 y6 y7, LeO (thrumlaw15_SoftRows.l0 k y0 y1 y2 y3 y4 y5 y6 y7) (thrumlaw15_SoftRows.l0 (k + 1) y0 y1 y2 y3 y4 y5 y6 y7)) ∧ (∀ y0 y1 y2 y3 y4 y5, LeO (thrumlaw15_SoftRows.j1 k y0 y1 y2 y3 y4 y5) (thrumlaw15_SoftRows.j1 (k + 1) y0 y1 y2 y3 y4 y5))
 | 0 => ⟨fun _ _ _ _ _ _ _ _ r h => by simp [thrumlaw15_SoftRows.l0] at h, fun _ _ _ _ _ _ r h => by simp [thrumlaw15_SoftRows.j1] at h⟩
 | k + 1 => by
  obtain ⟨ih0, ih1⟩ := thrumlaw15_SoftRows.mono_l k
  refine ⟨?_, ?_⟩
  ·
   intro y0 y1 y2 y3 y4 y5 y6 y7
   unfold thrumlaw15_SoftRows.l0
   repeat' first
   | (with_reducible exact ih0 _ _ _ _ _ _ _ _)
   | (with_reducible exact ih1 _ _ _ _ _ _)
   | (with_reducible exact LeO.refl _)
   | (with_reducible exact LeO.none _)
   | (with_reducible refine LeO.ite ?_ ?_)
   | (with_reducible refine LeO.bind ?_ (fun _ => ?_))
   | exact ih0 _ _ _ _ _ _ _ _
   | exact ih1 _ _ _ _ _ _
   | exact LeO.none _
   | refine LeO.ite ?_ ?_
   | refine LeO.bind ?_ (fun _ => ?_)
  ·
   intro y0 y1 y2 y3 y4 y5
   unfold thrumlaw15_SoftRows.j1
   repeat' first
   | (with_reducible exact ih0 _ _ _ _ _ _ _ _)
   | (with_reducible exact ih1 _ _ _ _ _ _)
   | (with_reducible exact LeO.refl _)
   | (with_reducible exact LeO.none _)
   | (with_reducible refine LeO.ite ?_ ?_)
   | (with_reducible refine LeO.bind ?_ (fun _ => ?_))
   | exact ih0 _ _ _ _ _ _ _ _
   | exact ih1 _ _ _ _ _ _
   | exact LeO.none _
   | refine LeO.ite ?_ ?_
   | refine LeO.bind ?_ (fun _ => ?_)
theorem thrumlaw15_SoftRows.mono : ∀ a0 a1 k, LeO (thrumlaw15_SoftRows.f k a0 a1) (thrumlaw15_SoftRows.f (k + 1) a0 a1) := by
 intro a0 a1 k
 obtain ⟨ih0, ih1⟩ := thrumlaw15_SoftRows.mono_l k
 unfold thrumlaw15_SoftRows.f
 repeat' first
   | (with_reducible exact ih0 _ _ _ _ _ _ _ _)
   | (with_reducible exact ih1 _ _ _ _ _ _)
   | (with_reducible exact LeO.refl _)
   | (with_reducible exact LeO.none _)
   | (with_reducible refine LeO.ite ?_ ?_)
   | (with_reducible refine LeO.bind ?_ (fun _ => ?_))
   | exact ih0 _ _ _ _ _ _ _ _
   | exact ih1 _ _ _ _ _ _
   | exact LeO.none _
   | refine LeO.ite ?_ ?_
   | refine LeO.bind ?_ (fun _ => ?_)
theorem thrumlaw15_SoftRows.j1_not {k : Nat} {y0} {y1} {y2} {y3} {y4} (h : thrumlaw15_SoftRows.j1 k y0 y1 y2 y3 y4 true = some true) : False := by cases k <;> simp [thrumlaw15_SoftRows.j1] at h
set_option maxHeartbeats 80000000 in
set_option maxRecDepth 100000 in
theorem thrumlaw15_SoftRows.calls (k : Nat) (a0 : Int) (A1 : Option Addr) (c1 : Nat) (l1 : List Int) (r : Bool) (w : World) (hr1 : Kd.C (Kd.int .i64) w A1 l1.length l1) (hc1 : l1.length ≤ c1) (h : thrumlaw15_SoftRows.f k a0 l1 = some r) (hr_ : r = true) :
  Calls Try.prog 22 #[.int .i64 a0, .slice A1 l1.length c1] w fun e w' => e = .returned (.bool r) ∧ Below w.heap.size w w' := by
 have HR_ := Aside0.mk hr_
 clear hr_
 have HR1 := Aside0.mk hr1
 have HC1 := Aside0.mk hc1
 clear hr1 hc1
 have HB := Aside0.mk (Below.refl w.heap.size w)
 have H : ((thrumlaw15_live.f).bind fun t266 => (if t266 = true then (if (l1.length : Int) > 500 then (some t266) else ((soft_Rows.f a0 l1).bind fun bt267 => (if bt267.2 = 0 then (thrumlaw15_SoftRows.l0 k a0 l1 t266 bt267.1 ([] : List Int) bt267.1 (bt267.1.length : Int) 0) else (some ((bt267.1.length : Int) == 0))))) else (some false))) = some r := h
 clear h
 replace H := Option.bind_eq_some_iff.mp H
 obtain ⟨t266, A30, H⟩ := H
 replace H : (if t266 = true then (if (l1.length : Int) > 500 then (some t266) else ((soft_Rows.f a0 l1).bind fun bt267 => (if bt267.2 = 0 then (thrumlaw15_SoftRows.l0 k a0 l1 t266 bt267.1 ([] : List Int) bt267.1 (bt267.1.length : Int) 0) else (some ((bt267.1.length : Int) == 0))))) else (some false)) = some r := H
 have A3 := Aside0.mk A30
 clear A30
 by_cases c4 : t266 = true
 ·
  subst c4
  have H1 : (if (l1.length : Int) > 500 then (some true) else ((soft_Rows.f a0 l1).bind fun bt267 => (if bt267.2 = 0 then (thrumlaw15_SoftRows.l0 k a0 l1 true bt267.1 ([] : List Int) bt267.1 (bt267.1.length : Int) 0) else (some ((bt267.1.length : Int) == 0))))) = some r := by rw [if_pos rfl] at H; exact H
  clear H
  have H := H1
  clear H1
  by_cases c5 : (l1.length : Int) > 500
  ·
   rw [if_pos c5] at H
   have c5b0 : decide (500 < (l1.length : Int)) = true := decide_eq_true c5
   have c5b1 : decide (500 < l1.length) = true := decide_eq_true (by omega)
   clear c5
   obtain rfl := Option.some.inj H
   go_enter Try.func22, Try.ntmps22
   go_wp2_with (first | ((with_reducible refine gate_callee (f := 79) rfl ?_); refine goesL_ (some 13) rfl rfl Try.func79 (by kernel_rfl) rfl #[] rfl (by (try simp only [List.map_toArray, List.map_cons, List.map_nil]); first | done | rfl | (simp only [List.length_drop, List.length_take]; rfl)) ?_; (with_reducible refine (thrumlaw15_live.calls  true _ A3.out).mono ?_); rintro e w6 ⟨rfl, hb⟩; refine ⟨_, rfl, ?_⟩; have n0_ := Aside0.mk (zzT (by repeat (first | (with_reducible first | exact HB.out | apply zzA | apply zzN | apply zzD) | exact HB.out)) hb); clear HB; have HB := n0_; clear n0_; (try clear hb); (try clear hb2); (try clear hk); (try clear hi)))
   go_ret
   exact ⟨by first | rfl | (simp [errW_none, errW_some] <;> rfl) | (simp [*, errW_none, errW_some] <;> rfl), by repeat (first | (with_reducible first | exact HB.out | apply zzA | apply zzN | apply zzD) | exact HB.out)⟩
  ·
   rw [if_neg c5] at H
   have c5b0 : decide (500 < (l1.length : Int)) = false := decide_eq_false c5
   have c5b1 : decide (500 < l1.length) = false := decide_eq_false (by omega)
   clear c5
   replace H := Option.bind_eq_some_iff.mp H
   obtain ⟨⟨t267, t268⟩, A70, H⟩ := H
   replace H : (if t268 = 0 then (thrumlaw15_SoftRows.l0 k a0 l1 true t267 ([] : List Int) t267 (t267.length : Int) 0) else (some ((t267.length : Int) == 0))) = some r := H
   have A7 := Aside0.mk A70
   clear A70
   by_cases c8 : t268 = 0
   ·
    rw [if_pos c8] at H
    have c8b0 : (t268 == 0) = true := beq_iff_eq.mpr c8
    have c8b1 : (t268 != 0) = false := bne_eq_false_iff_eq.mpr c8
    clear c8
    have H' := Aside0.mk H
    clear H
    go_enter Try.func22, Try.ntmps22
    go_wp2_with (first | ((with_reducible refine gate_callee (f := 79) rfl ?_); refine goesL_ (some 13) rfl rfl Try.func79 (by kernel_rfl) rfl #[] rfl (by (try simp only [List.map_toArray, List.map_cons, List.map_nil]); first | done | rfl | (simp only [List.length_drop, List.length_take]; rfl)) ?_; (with_reducible refine (thrumlaw15_live.calls  true _ A3.out).mono ?_); rintro e w9 ⟨rfl, hb⟩; refine ⟨_, rfl, ?_⟩; have n0_ := Aside0.mk (zzT (by repeat (first | (with_reducible first | exact HB.out | apply zzA | apply zzN | apply zzD) | exact HB.out)) hb); clear HB; have HB := n0_; clear n0_; (try clear hb); (try clear hb2); (try clear hk); (try clear hi)) | ((with_reducible refine gate_callee (f := 81) rfl ?_); refine goesL_ (some 23) rfl rfl Try.func81 (by kernel_rfl) rfl #[.int .i64 a0, .slice A1 l1.length c1] rfl (by (try simp only [List.map_toArray, List.map_cons, List.map_nil]); first | done | rfl | (simp only [List.length_drop, List.length_take]; rfl)) ?_; (with_reducible refine (soft_Rows.calls a0 _ _ l1 t267 t268 _ ?side1 ?side2 A7.out).mono ?_); (case side1 => repeat (first | exact (Kd.C_below HR1.out HB.out) | (with_reducible refine ccA ?_ _) | (with_reducible refine ccN ?_ _) | (with_reducible refine ccD ?_))); (case side2 => exact HC1.out); rintro e w10 ⟨v269, rfl, ho0, hb⟩; refine ⟨_, rfl, ?_⟩; have n0_ := Aside0.mk (Kd.S_lower ho0 (zzS (by repeat (first | (with_reducible first | exact HB.out | apply zzA | apply zzN | apply zzD) | exact HB.out)))); have n1_ := Aside0.mk (zzT (by repeat (first | (with_reducible first | exact HB.out | apply zzA | apply zzN | apply zzD) | exact HB.out)) hb); clear HB; have HO270 := n0_; have HB := n1_; clear n0_ n1_; (try clear hb); (try clear hb2); (try clear hk); (try clear hi); (try clear ho0); obtain ⟨Ao11, co11, eo11⟩ := Kd.S_slice HO270.out; subst eo11))
    go_loopg [8, 36] k (fun kq v8 v36 w' => ∃ (x8_1 : List Int) (x36_1 : Int), v36 = .int .i64 x36_1 ∧ Aside0 (thrumlaw15_SoftRows.l0 kq a0 l1 true t267 x8_1 t267 (t267.length : Int) x36_1 = some r) ∧ Aside0 (kq ≤ k) ∧ Aside0 (Kd.S (Kd.slice 2 (Kd.int .i64)) 22 w' w.heap.size (fun k_ => some k_ ≠ (v8 : Value).ownBlock) (.slice Ao11 t267.length co11) t267) ∧ Aside0 (Kd.R (Kd.int .i64) 2 w' w.heap.size (fun _ => True) v8 x8_1) ∧ Aside0 (Kd.S (Kd.slice 2 (Kd.int .i64)) 22 w' w.heap.size (fun k_ => some k_ ≠ (v8 : Value).ownBlock) (.slice Ao11 t267.length co11) t267) ∧ Aside0 (Below w.heap.size w w'))
    case atStart => exact ⟨(([] : List Int)), (0), (by first | rfl | (simp; done) | (simp [*]; done)), H', ⟨Nat.le_refl _⟩, ⟨by (with_reducible repeat (first | apply Kd.S_alloc | apply Kd.S_drewN | apply Kd.S_drew)); exact Kd.S_mono HO270.out (fun _ hk => (by simp [Value.ownBlock]))⟩, ⟨by first | exact Kd.R_nil _ _ _ _ _ | exact Kd.N_nil _ _ _ _ _ | exact Kd.V_nil _ _ _ _ _ | exact Kd.Q_nil _ _ _ _ _ | exact Kd.S_nil _ _ _ _ _⟩, ⟨by (with_reducible repeat (first | apply Kd.S_alloc | apply Kd.S_drewN | apply Kd.S_drew)); exact Kd.S_mono HO270.out (fun _ hk => (by simp [Value.ownBlock]))⟩, ⟨by repeat (first | (with_reducible first | exact HB.out | apply zzA | apply zzN | apply zzD) | exact HB.out)⟩⟩
    case round =>
     clear H'
     try clear c1
     try clear c2
     try clear p2
     try clear c4
     try clear c5
     try clear c5b0
     try clear c5b1
     try clear c7
     try clear c8
     try clear c8b0
     try clear c8b1
     obtain ⟨x8_1, x36_1, rfl, HA, HK1, HO_6, HO_8, HO_34, HB⟩ := hrel
     cases gk with
     | zero => exact absurd HA.out (by simp [thrumlaw15_SoftRows.l0])
     | succ k1 =>
      have H := HA.out
      clear HA
      simp only [thrumlaw15_SoftRows.l0] at H
      by_cases c12 : x36_1 < (t267.length : Int)
      ·
       rw [if_pos c12] at H
       have c12b0 : decide (x36_1 < (t267.length : Int)) = true := decide_eq_true c12
       clear c12
       by_cases c13 : 0 ≤ x36_1
       ·
        rw [if_pos c13] at H
        have c13b0 : decide (0 ≤ x36_1) = true := decide_eq_true c13
        clear c13
        by_cases c14 : x36_1 < (t267.length : Int)
        ·
         rw [if_pos c14] at H
         have c14b0 : decide (x36_1 < (t267.length : Int)) = true := decide_eq_true c14
         clear c14
         by_cases c15 : 0 < (t267.length : Int)
         ·
          rw [if_pos c15] at H
          have c15b0 : decide (0 < (t267.length : Int)) = true := decide_eq_true c15
          have c15b1 : decide (0 < t267.length) = true := decide_eq_true (by omega)
          clear c15
          by_cases c16 : ((rd_L1 t267 x36_1).length : Int) = ((rd_L1 t267 0).length : Int)
          ·
           rw [if_pos c16] at H
           have c16b0 : (((rd_L1 t267 x36_1).length : Int) == ((rd_L1 t267 0).length : Int)) = true := beq_iff_eq.mpr c16
           have c16b1 : (((rd_L1 t267 x36_1).length : Int) != ((rd_L1 t267 0).length : Int)) = false := bne_eq_false_iff_eq.mpr c16
           have c16b2 : ((rd_L1 t267 x36_1).length == (rd_L1 t267 0).length) = true := by first | simpa using c16 | (simp at c16 ⊢; omega)
           clear c16
           by_cases c17 : x8_1.length + (rd_L1 t267 x36_1).length < 17592186044416
           ·
            rw [if_pos c17] at H
            have LMc17 := Aside0.mk c17
            clear c17
            obtain ⟨y273, hy273⟩ : ∃ y_ : List Int, y_ = (x8_1 ++ (rd_L1 t267 x36_1)) := ⟨_, rfl⟩
            replace H : (thrumlaw15_SoftRows.l0 k1 a0 l1 true t267 y273 t267 (t267.length : Int) (wrap64 (x36_1 + 1))) = some r := by first | (rw [hy273]; with_reducible exact H) | (have H2_ := (Option.bind_some _ _).symm.trans H; rw [hy273]; with_reducible exact H2_) | (have H2_ := (Option.bind_some _ _).symm.trans H; with_reducible exact H2_) | with_reducible exact H | (rw [hy273]; exact H) | exact H
            have Ny273 := Aside0.mk hy273
            clear hy273
            have H' := Aside0.mk H
            clear H
            have p271 : 0 ≤ (x36_1 : Int) := of_decide_eq_true (by first | (with_reducible assumption) | assumption)
            have q271 : x36_1 < (t267.length : Int) := of_decide_eq_true (by first | (with_reducible assumption) | assumption)
            obtain ⟨ad271, A271_0, c271_0, e271, hx271_0, hl271_0, hi271_0⟩ := at_L1 (Kd.S_reads' HO_34.out).2.2 x36_1 p271 q271
            cases e271
            obtain ⟨ce271, hce271, hMe271, hcc271⟩ := Kd.S_get HO_34.out [] x36_1 p271 (by first | exact q271 | exact of_decide_eq_true (by first | (with_reducible assumption) | assumption) | (have e_ := (Kd.S_reads' HO_34.out).1; omega))
            obtain ⟨ve271_0, rfl, ge271_0⟩ := hMe271
            have hv271_0 := hcc271 0 _ rfl
            rw [Nat.add_zero, show ((Kd.slice 2 (Kd.int .i64))).sz = 1 from rfl, Nat.mul_one] at hv271_0
            replace hv271_0 := Option.some.inj (hv271_0.symm.trans hx271_0)
            rw [hv271_0] at ge271_0
            have HL271_0 := Aside0.mk (show Kd.R (Kd.int .i64) 2 _ _ _ _ (rd_L1 t267 x36_1) from ge271_0)
            clear hv271_0 ge271_0
            clear hcc271 hce271
            have HR271_0 := Aside0.mk hi271_0
            have HC271_0 := Aside0.mk hl271_0
            clear hi271_0 hl271_0
            replace p271 := eq_true p271
            replace q271 := eq_true q271
            have p272 : 0 ≤ (0 : Int) := (by omega)
            have q272 : 0 < (t267.length : Int) := of_decide_eq_true (by first | (with_reducible assumption) | assumption)
            obtain ⟨ad272, A272_0, c272_0, e272, hx272_0, hl272_0, hi272_0⟩ := at_L1 (Kd.S_reads' HO_6.out).2.2 0 p272 q272
            obtain rfl : ad271 = ad272 := (by injection e272)
            obtain ⟨ce272, hce272, hMe272, hcc272⟩ := Kd.S_get HO_6.out [] 0 p272 (by first | exact q272 | exact of_decide_eq_true (by first | (with_reducible assumption) | assumption) | (have e_ := (Kd.S_reads' HO_6.out).1; omega))
            obtain ⟨ve272_0, rfl, ge272_0⟩ := hMe272
            have hv272_0 := hcc272 0 _ rfl
            rw [Nat.add_zero, show ((Kd.slice 2 (Kd.int .i64))).sz = 1 from rfl, Nat.mul_one] at hv272_0
            replace hv272_0 := Option.some.inj (hv272_0.symm.trans hx272_0)
            rw [hv272_0] at ge272_0
            have HL272_0 := Aside0.mk (show Kd.R (Kd.int .i64) 2 _ _ _ _ (rd_L1 t267 0) from ge272_0)
            clear hv272_0 ge272_0
            clear hcc272 hce272
            have qi272 : (0 < t267.length) = True := eq_true (by omega)
            (try rw [show ((0 : Int)).toNat = 0 from rfl] at hx272_0)
            (try rw [Addr.add_zero'] at hx272_0)
            have HR272_0 := Aside0.mk hi272_0
            have HC272_0 := Aside0.mk hl272_0
            clear hi272_0 hl272_0
            replace p272 := eq_true p272
            replace q272 := eq_true q272
            go_wp2_with (first | ((with_reducible refine gate_builtin (b := .append) (xs := #[.tmp 47, .tmp 48]) rfl ?_); (try (refine gate_guard (by rfl) ?_; dsimp only)); at_builtin; refine Kd.R_append_rows (Kd.int .i64) (w0 := w) w.heap.size rfl (.tmp 47) (.tmp 48) 22 2 (.int .i64 0) 8 rfl Try.underlying22 info2 rfl (by decide) (by omega) u8 x8_1 (rd_L1 t267 x36_1) _ _ _ (fun _ => True) (fun _ => False) rfl rfl ?aO ?aR (fun _ _ h => h) (fun _ h => h.elim) ?aF ?aB ?aS ?aL ?_; (case aR => repeat (first | exact (by repeat (first | (with_reducible exact HR271_0.out) | (with_reducible refine ccA ?_ _) | (with_reducible refine ccN ?_ _) | (with_reducible refine ccD ?_) | exact HR271_0.out)) | (with_reducible refine ccA ?_ _) | (with_reducible refine ccN ?_ _) | (with_reducible refine ccD ?_))); (case aB => exact (by repeat (first | (with_reducible first | exact HB.out | apply zzA | apply zzN | apply zzD) | exact HB.out))); (case aF => exact (fun _ _ => trivial)); (case aO => exact (by (with_reducible repeat (first | apply rrA | apply rrN | apply rrD)); exact HO_8.out)); (case aS => exact (zzS (by repeat (first | (with_reducible first | exact HB.out | apply zzA | apply zzN | apply zzD) | exact HB.out)))); (case aL => have := LMc17.out; omega); intro v274 w18 ho hb hg hat; rw [← Ny273.out] at ho; have n0_ := Aside0.mk (Kd.S_after (ok := (fun _ => True)) (by (with_reducible repeat (first | apply Kd.S_alloc | apply Kd.S_drewN | apply Kd.S_drew)); exact Kd.S_mono HO_6.out (fun _ hk => ⟨trivial, hk⟩)) hg hat); have n1_ := Aside0.mk (Kd.S_after (ok := (fun _ => True)) (by (with_reducible repeat (first | apply Kd.S_alloc | apply Kd.S_drewN | apply Kd.S_drew)); exact Kd.S_mono HO_34.out (fun _ hk => ⟨trivial, hk⟩)) hg hat); have n2_ := Aside0.mk (Kd.R_after (ok := (fun k_ => some k_ ≠ (.slice (some ad271) t267.length co11 : Value).ownBlock)) (by (with_reducible repeat (first | apply rrA | apply rrN | apply rrD)); exact Kd.R_mono HL271_0.out (fun _ hk => ⟨hk.2, hk.1⟩)) hg hat); have n3_ := Aside0.mk (Kd.R_after (ok := (fun k_ => some k_ ≠ (.slice (some ad271) t267.length co11 : Value).ownBlock)) (by (with_reducible repeat (first | apply rrA | apply rrN | apply rrD)); exact Kd.R_mono HL272_0.out (fun _ hk => ⟨hk.2, hk.1⟩)) hg hat); have n4_ := Aside0.mk (hb); have n5_ := Aside0.mk (ho); clear HO_6; clear HO_34; clear HL271_0; clear HL272_0; clear HB; clear HO_8; have HO_6 := n0_; have HO_34 := n1_; have HL271_0 := n2_; have HL272_0 := n3_; have HB := n4_; have HO275 := n5_; clear n0_ n1_ n2_ n3_ n4_ n5_; clear ho hb hg hat))
            go_roundg k1
            case measure => have := HK1.out; omega
            case rel => exact ⟨(y273), (wrap64 (x36_1 + 1)), (by first | rfl | (simp; done) | (simp [*]; done)), H', ⟨by have := HK1.out; omega⟩, ⟨by (with_reducible repeat (first | apply Kd.S_alloc | apply Kd.S_drewN | apply Kd.S_drew)); exact Kd.S_mono HO_6.out (fun _ hk => hk.2)⟩, ⟨by (with_reducible repeat (first | apply rrA | apply rrN | apply rrD)); exact HO275.out⟩, ⟨by (with_reducible repeat (first | apply Kd.S_alloc | apply Kd.S_drewN | apply Kd.S_drew)); exact Kd.S_mono HO_34.out (fun _ hk => hk.2)⟩, ⟨by repeat (first | (with_reducible first | exact HB.out | apply zzA | apply zzN | apply zzD) | exact HB.out)⟩⟩
           ·
            rw [if_neg c17] at H
            exact absurd H (by simp)
          ·
           rw [if_neg c16] at H
           exact absurd (Option.some.inj H) (by rw [HR_.out]; decide)
         ·
          rw [if_neg c15] at H
          exact absurd H (by simp)
        ·
         rw [if_neg c14] at H
         exact absurd H (by simp)
       ·
        rw [if_neg c13] at H
        exact absurd H (by simp)
      ·
       rw [if_neg c12] at H
       have c12b0 : decide (x36_1 < (t267.length : Int)) = false := decide_eq_false c12
       clear c12
       have HC19 := Aside0.mk H
       clear H
       go_upto_region 17 with (fail)
       go_cut [59] (fun v59 wc => ∃ (kq : Nat) (x59_18 : Bool), v59 = .bool x59_18 ∧ Aside0 (thrumlaw15_SoftRows.j1 kq a0 l1 true t267 x8_1 x59_18 = some r) ∧ Aside0 (kq ≤ k1) ∧ Aside0 (Kd.S (Kd.slice 2 (Kd.int .i64)) 22 wc w.heap.size (fun k_ => some k_ ≠ (u8 : Value).ownBlock) (.slice Ao11 t267.length co11) t267) ∧ Aside0 (Kd.R (Kd.int .i64) 2 wc w.heap.size (fun _ => True) u8 x8_1) ∧ Aside0 (Below w.heap.size w wc))
       case first =>
        have H := HC19.out
        clear HC19
        by_cases c20 : (t267.length : Int) = a0
        ·
         rw [if_pos c20] at H
         have c20b0 : ((t267.length : Int) == a0) = true := beq_iff_eq.mpr c20
         have c20b1 : ((t267.length : Int) != a0) = false := bne_eq_false_iff_eq.mpr c20
         clear c20
         (first | rw [c20b0] | (simp only [i64_w, i32_w]; rw [c20b0]) | skip)
         have H' := Aside0.mk H
         clear H
         go_wp2
         go_meet
         case rel => exact ⟨_, (((t267.length : Int) == 0)), (by first | rfl | (simp; done) | (simp [*]; done)), H', ⟨by have := HK1.out; first | omega | exact Nat.le_refl _⟩, ⟨by (with_reducible repeat (first | apply Kd.S_alloc | apply Kd.S_drewN | apply Kd.S_drew)); exact HO_6.out⟩, ⟨by (with_reducible repeat (first | apply rrA | apply rrN | apply rrD)); exact HO_8.out⟩, ⟨by repeat (first | (with_reducible first | exact HB.out | apply zzA | apply zzN | apply zzD) | exact HB.out)⟩⟩
        ·
         rw [if_neg c20] at H
         exact (thrumlaw15_SoftRows.j1_not (H.trans (by rw [HR_.out]))).elim
       case rest =>
        clear HC19
        try clear c1
        try clear c2
        try clear p2
        try clear q2
        try clear hx2
        try clear qi2
        try clear c4
        try clear c5
        try clear c5b0
        try clear c5b1
        try clear p6
        try clear c7
        try clear c8
        try clear c8b0
        try clear c8b1
        try clear c12
        try clear c12b0
        try clear c13
        try clear c13b0
        try clear c14
        try clear c14b0
        try clear c15
        try clear c15b0
        try clear c15b1
        try clear c16
        try clear c16b0
        try clear c16b1
        try clear c16b2
        try clear c17
        try clear c20
        try clear c20b0
        try clear c20b1
        try clear hx271_0
        try clear hx272_0
        try clear p2
        try clear p271
        try clear p272
        try clear q271
        try clear q272
        obtain ⟨kq, x59_18, rfl, HA, HJ18, HO_6, HO_8, HB⟩ := hcut
        cases kq with
        | zero => exact absurd HA.out (by simp [thrumlaw15_SoftRows.j1])
        | succ kj18 =>
         have H := HA.out
         clear HA
         simp only [thrumlaw15_SoftRows.j1] at H
         by_cases c21 : x59_18 = true
         ·
          subst c21
          have H1 : (some false) = some r := by rw [if_pos rfl] at H; exact H
          exact absurd (Option.some.inj H1) (by rw [HR_.out]; decide)
         ·
          replace c21 := Bool.eq_false_iff.mpr c21
          subst c21
          have H1 : (if 0 < (t267.length : Int) then ((soft_Dim.f (wrap64 (((rd_L1 t267 0).length : Int) - 1)) a0).bind fun bt277 => (if true = true then (if bt277.2 = 0 then (if bt277.1 = (l1.length : Int) then ((thrumref02_Same.f x8_1 l1).bind fun t279 => (some t279)) else (some false)) else (some false)) else (some false))) else (none)) = some r := by rw [if_neg (show ¬ (false = true) by decide)] at H; exact H
          clear H
          have H := H1
          clear H1
          by_cases c22 : 0 < (t267.length : Int)
          ·
           rw [if_pos c22] at H
           have c22b0 : decide (0 < (t267.length : Int)) = true := decide_eq_true c22
           have c22b1 : decide (0 < t267.length) = true := decide_eq_true (by omega)
           clear c22
           replace H := Option.bind_eq_some_iff.mp H
           obtain ⟨⟨t277, t278⟩, A230, H⟩ := H
           replace H : (if true = true then (if t278 = 0 then (if t277 = (l1.length : Int) then ((thrumref02_Same.f x8_1 l1).bind fun t279 => (some t279)) else (some false)) else (some false)) else (some false)) = some r := H
           have A23 := Aside0.mk A230
           clear A230
           first | rw [if_pos rfl] at H | rw [if_pos trivial] at H
           by_cases c24 : t278 = 0
           ·
            rw [if_pos c24] at H
            have c24b0 : (t278 == 0) = true := beq_iff_eq.mpr c24
            have c24b1 : (t278 != 0) = false := bne_eq_false_iff_eq.mpr c24
            clear c24
            by_cases c25 : t277 = (l1.length : Int)
            ·
             rw [if_pos c25] at H
             have c25b0 : (t277 == (l1.length : Int)) = true := beq_iff_eq.mpr c25
             have c25b1 : (t277 != (l1.length : Int)) = false := bne_eq_false_iff_eq.mpr c25
             clear c25
             replace H := Option.bind_eq_some_iff.mp H
             obtain ⟨t279, A260, H⟩ := H
             replace H : (some t279) = some r := H
             have A26 := Aside0.mk A260
             clear A260
             obtain rfl := Option.some.inj H
             have p276 : 0 ≤ (0 : Int) := (by omega)
             have q276 : 0 < (t267.length : Int) := of_decide_eq_true (by first | (with_reducible assumption) | assumption)
             obtain ⟨ad276, A276_0, c276_0, e276, hx276_0, hl276_0, hi276_0⟩ := at_L1 (Kd.S_reads' HO_6.out).2.2 0 p276 q276
             cases e276
             obtain ⟨ce276, hce276, hMe276, hcc276⟩ := Kd.S_get HO_6.out [] 0 p276 (by first | exact q276 | exact of_decide_eq_true (by first | (with_reducible assumption) | assumption) | (have e_ := (Kd.S_reads' HO_6.out).1; omega))
             obtain ⟨ve276_0, rfl, ge276_0⟩ := hMe276
             have hv276_0 := hcc276 0 _ rfl
             rw [Nat.add_zero, show ((Kd.slice 2 (Kd.int .i64))).sz = 1 from rfl, Nat.mul_one] at hv276_0
             replace hv276_0 := Option.some.inj (hv276_0.symm.trans hx276_0)
             rw [hv276_0] at ge276_0
             have HL276_0 := Aside0.mk (show Kd.R (Kd.int .i64) 2 _ _ _ _ (rd_L1 t267 0) from ge276_0)
             clear hv276_0 ge276_0
             clear hcc276 hce276
             have qi276 : (0 < t267.length) = True := eq_true (by omega)
             (try rw [show ((0 : Int)).toNat = 0 from rfl] at hx276_0)
             (try rw [Addr.add_zero'] at hx276_0)
             have HR276_0 := Aside0.mk hi276_0
             have HC276_0 := Aside0.mk hl276_0
             clear hi276_0 hl276_0
             replace p276 := eq_true p276
             replace q276 := eq_true q276
             go_wp2_with (first | ((with_reducible refine gate_callee (f := 82) rfl ?_); refine goesL_ (some 67) rfl rfl Try.func82 (by kernel_rfl) rfl #[.int .i64 (wrap64 (((rd_L1 t267 0).length : Int) - 1)), .int .i64 a0] rfl (by (try simp only [List.map_toArray, List.map_cons, List.map_nil]); first | done | rfl | (simp only [List.length_drop, List.length_take]; rfl)) ?_; (with_reducible refine (soft_Dim.calls (wrap64 (((rd_L1 t267 0).length : Int) - 1)) a0 t277 t278 _ A23.out).mono ?_); rintro e w' ⟨rfl, ⟨nd, rfl⟩⟩; refine ⟨_, rfl, ?_⟩; obtain ⟨Ao27, co27, eo27⟩ := Kd.R_slice HO_8.out; subst eo27) | (go_at_call 44; (with_reducible refine (thrumref02_Same.calls _ _ x8_1 _ _ l1 t279 _ ?side1 ?side2 ?side3 ?side4 A26.out).mono ?_); (case side1 => repeat (first | exact (Kd.R_reads' HO_8.out).2.2 | (with_reducible refine ccA ?_ _) | (with_reducible refine ccN ?_ _) | (with_reducible refine ccD ?_))); (case side2 => exact (Kd.R_reads' HO_8.out).2.1); (case side3 => repeat (first | exact (Kd.C_below HR1.out (by repeat (first | (with_reducible first | exact HB.out | apply zzA | apply zzN | apply zzD) | exact HB.out))) | (with_reducible refine ccA ?_ _) | (with_reducible refine ccN ?_ _) | (with_reducible refine ccD ?_))); (case side4 => exact HC1.out); rintro e w' ⟨rfl, ⟨nd, rfl⟩⟩))
             go_ret
             exact ⟨by first | rfl | (simp [errW_none, errW_some] <;> rfl) | (simp [*, errW_none, errW_some] <;> rfl), by repeat (first | (with_reducible first | exact HB.out | apply zzA | apply zzN | apply zzD) | exact HB.out)⟩
            ·
             rw [if_neg c25] at H
             exact absurd (Option.some.inj H) (by rw [HR_.out]; decide)
           ·
            rw [if_neg c24] at H
            exact absurd (Option.some.inj H) (by rw [HR_.out]; decide)
          ·
           rw [if_neg c22] at H
           exact absurd H (by simp)
   ·
    rw [if_neg c8] at H
    have c8b0 : (t268 == 0) = false := beq_eq_false_iff_ne.mpr c8
    have c8b1 : (t268 != 0) = true := bne_iff_ne.mpr c8
    obtain rfl := Option.some.inj H
    go_enter Try.func22, Try.ntmps22
    go_wp2_with (first | ((with_reducible refine gate_callee (f := 79) rfl ?_); refine goesL_ (some 13) rfl rfl Try.func79 (by kernel_rfl) rfl #[] rfl (by (try simp only [List.map_toArray, List.map_cons, List.map_nil]); first | done | rfl | (simp only [List.length_drop, List.length_take]; rfl)) ?_; (with_reducible refine (thrumlaw15_live.calls  true _ A3.out).mono ?_); rintro e w28 ⟨rfl, hb⟩; refine ⟨_, rfl, ?_⟩; have n0_ := Aside0.mk (zzT (by repeat (first | (with_reducible first | exact HB.out | apply zzA | apply zzN | apply zzD) | exact HB.out)) hb); clear HB; have HB := n0_; clear n0_; (try clear hb); (try clear hb2); (try clear hk); (try clear hi)) | ((with_reducible refine gate_callee (f := 81) rfl ?_); refine goesL_ (some 23) rfl rfl Try.func81 (by kernel_rfl) rfl #[.int .i64 a0, .slice A1 l1.length c1] rfl (by (try simp only [List.map_toArray, List.map_cons, List.map_nil]); first | done | rfl | (simp only [List.length_drop, List.length_take]; rfl)) ?_; (with_reducible refine (soft_Rows.calls a0 _ _ l1 t267 t268 _ ?side1 ?side2 A7.out).mono ?_); (case side1 => repeat (first | exact (Kd.C_below HR1.out HB.out) | (with_reducible refine ccA ?_ _) | (with_reducible refine ccN ?_ _) | (with_reducible refine ccD ?_))); (case side2 => exact HC1.out); rintro e w29 ⟨v269, rfl, ho0, hb⟩; refine ⟨_, rfl, ?_⟩; have n0_ := Aside0.mk (Kd.S_lower ho0 (zzS (by repeat (first | (with_reducible first | exact HB.out | apply zzA | apply zzN | apply zzD) | exact HB.out)))); have n1_ := Aside0.mk (zzT (by repeat (first | (with_reducible first | exact HB.out | apply zzA | apply zzN | apply zzD) | exact HB.out)) hb); clear HB; have HO270 := n0_; have HB := n1_; clear n0_ n1_; (try clear hb); (try clear hb2); (try clear hk); (try clear hi); (try clear ho0); obtain ⟨Ao30, co30, eo30⟩ := Kd.S_slice HO270.out; subst eo30))
    go_ret
    exact ⟨by first | rfl | (simp [errW_none, errW_some] <;> rfl) | (simp [*, errW_none, errW_some] <;> rfl), by repeat (first | (with_reducible first | exact HB.out | apply zzA | apply zzN | apply zzD) | exact HB.out)⟩
 ·
  replace c4 := Bool.eq_false_iff.mpr c4
  subst c4
  have H1 : (some false) = some r := by rw [if_neg (show ¬ (false = true) by decide)] at H; exact H
  exact absurd (Option.some.inj H1) (by rw [HR_.out]; decide)

/-- THE ONE PURE STATEMENT of thrumlaw15_SoftRows: yours. -/
def thrumlaw15_SoftRows.Pure : Prop := ∀ (a0 : Int) (l1 : List Int), (Lit.int .i64 a0).wf = true → l1.length ≤ maxLen → l1.length * 8 ≤ 140737488351232 → (∀ x ∈ l1, (Lit.int .i64 x).wf = true) → ∃ k, thrumlaw15_SoftRows.f k a0 l1 = some true
theorem thrumlaw15_SoftRows.walk (P : thrumlaw15_SoftRows.Pure) (a0 : Int) (a1 : Option Addr) (len1 cap1 : Nat) (z1 : List Int) (w : World) (w0 : (Lit.int .i64 a0).wf = true) (w1 : (a1 = none ∧ len1 = 0 ∧ cap1 = 0 ∧ z1 = []) ∨ ∃ x, a1 = some x ∧ len1 ≤ cap1 ∧ cap1 ≤ maxLen ∧ z1.length = cap1 ∧ (∀ i, i < z1.length → w.cell? (x.add i) = some (.int .i64 (z1.getD i 0))) ∧ ∀ n ∈ z1, (Lit.int .i64 n).wf = true) (y1 : len1 * 8 ≤ 140737488351232) :
  Calls Try.prog 22 #[.int .i64 a0, .slice a1 len1 cap1] w fun e w' => e = .returned (.bool true) ∧ Below w.heap.size w w' := by
 obtain ⟨l1, rfl, hr1, hm1, hw1, hc1⟩ := ReadsInt.ofRowC w1
 obtain ⟨k, h⟩ := P a0 l1 w0 hm1 y1 hw1
 refine (thrumlaw15_SoftRows.calls k a0 _ _ l1 true w (Kd.C_of_reads (d := (0 : Int)) (h1 := fun _ => rfl) hr1) hc1 h rfl).mono ?_
 rintro e w' ⟨rfl, hd⟩
 exact ⟨rfl, hd⟩



















































































































































































































































































































































































































































































































































end Go.Proofs.Ytfbdalnjijdknaa.HS
