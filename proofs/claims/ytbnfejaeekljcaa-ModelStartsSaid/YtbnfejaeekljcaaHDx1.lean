/- What Go functions do, each as a plain Lean function with the same answers, and the proof of it, in every world: printed by the session's driver over the kit's print, with texts by hand. -/
import Derived.Test.YtbnfejaeekljcaaHDx0
namespace Go.Proofs.Ytbnfejaeekljcaa.HD
open Go.RowKit Go.Proofs.YtbnfejaeekljcaaW.PrintWords Go.Proofs.YtbnfejaeekljcaaW.PrintLast Go.Proofs.YtbnfejaeekljcaaW.PrintMore
attribute [local go_sem] max2_int min2_int max_two min_two max_three min_three max_four min_four   -- for this text's walks alone
open Go.Proofs.Ytbnfejaeekljcaa.Sp
attribute [local go_sem] Go.Proofs.Ytbnfejaeekljcaa.Sp.u64_not
set_option linter.unusedVariables false
set_option linter.unusedSimpArgs false

/-! ### linear_Dim: function 69 -/
def linear_Dim.f (a0 : Int) : Option (Int × Int) := if a0 < 1 then (some (0, 1)) else (if a0 > 16 then (some (0, 1)) else (some (wrap64 (a0 + 1), 0)))
set_option maxHeartbeats 8000000 in
set_option maxRecDepth 100000 in
theorem linear_Dim.calls (a0 : Int) (r1 : Int) (r2 : Int) (w : World) (h : linear_Dim.f a0 = some (r1, r2)) :
    Calls Try.prog 69 #[.int .i64 a0] w fun e w' => e = .returned (.tuple #[.int .i64 r1, .int .i64 r2]) ∧ Drawn0 w w' := by
  have H : (if a0 < 1 then (some (0, 1)) else (if a0 > 16 then (some (0, 1)) else (some (wrap64 (a0 + 1), 0)))) = some (r1, r2) := h
  clear h
  by_cases c2 : a0 < 1
  · rw [if_pos c2] at H
    have c2b0 : decide (a0 < 1) = true := decide_eq_true c2
    clear c2
    simp only [Option.some.injEq, Prod.mk.injEq] at H
    obtain ⟨rfl, rfl⟩ := H
    go_enter Try.func69, Try.ntmps69
    go_wp2
    go_ret2
    exact ⟨by first | rfl | (simp; done) | (simp [*]; done), by repeat (first | exact Drawn0.refl _ | apply Drawn0.step)⟩
  · rw [if_neg c2] at H
    have c2b0 : decide (a0 < 1) = false := decide_eq_false c2
    clear c2
    by_cases c3 : a0 > 16
    · rw [if_pos c3] at H
      have c3b0 : decide (16 < a0) = true := decide_eq_true c3
      clear c3
      simp only [Option.some.injEq, Prod.mk.injEq] at H
      obtain ⟨rfl, rfl⟩ := H
      go_enter Try.func69, Try.ntmps69
      go_wp2
      go_ret2
      exact ⟨by first | rfl | (simp; done) | (simp [*]; done), by repeat (first | exact Drawn0.refl _ | apply Drawn0.step)⟩
    · rw [if_neg c3] at H
      have c3b0 : decide (16 < a0) = false := decide_eq_false c3
      clear c3
      simp only [Option.some.injEq, Prod.mk.injEq] at H
      obtain ⟨rfl, rfl⟩ := H
      go_enter Try.func69, Try.ntmps69
      go_wp2
      go_ret2
      exact ⟨by first | rfl | (simp; done) | (simp [*]; done), by repeat (first | exact Drawn0.refl _ | apply Drawn0.step)⟩

/-- A sample, as a pair. -/
def sm (s : S37) : List Int × Int := (s.f0, s.f1)
/-- All of a sample's numbers have 64 bits. -/
def Sm64 (s : S37) : Prop := V64 s.f0 ∧ I64 s.f1
instance (s : S37) : Decidable (Sm64 s) := by unfold Sm64; infer_instance
theorem rd_sm {l : List S37} {i : Nat} (h : i < l.length) : rd_T37 l (i : Int) = l[i] := by simp [rd_T37, List.getD_eq_getElem?_getD, List.getElem?_eq_getElem h]
theorem linear_Dim.of (a0 : Int) : linear_Dim.f a0 = some (dimL a0) := by
  unfold linear_Dim.f dimL
  by_cases c : a0 < 1
  · rw [if_pos c, if_pos (.inl c)]
  · rw [if_neg c]
    by_cases c2 : a0 > 16
    · rw [if_pos c2, if_pos (.inr c2)]
    · rw [if_neg c2, if_neg (fun h => h.elim c c2), wrap64_of (by unfold I64; omega)]
/-- How samples are looked through. -/
def fitsGo (x0 : Int) (l : List S37) (n : Nat) (b : Bool) : Int := if b = true ∧ ∀ s ∈ l, (s.f0.length : Int) = x0 then (if n = 0 ∨ n > 64 then 1 else 0) else 4
theorem fitsGo_nil (x0 : Int) (n : Nat) : fitsGo x0 [] n true = if n = 0 ∨ n > 64 then 1 else 0 := by simp [fitsGo]
theorem fitsGo_false (x0 : Int) (l : List S37) (n : Nat) : fitsGo x0 l n false = 4 := by simp [fitsGo]
theorem fitsGo_cons (x0 : Int) (s : S37) (l : List S37) (n : Nat) : fitsGo x0 (s :: l) n true = fitsGo x0 l n ((s.f0.length : Int) == x0) := by
  by_cases c : (s.f0.length : Int) = x0
  · rw [beq_iff_eq.2 c]; simp [fitsGo, c]
  · rw [beq_eq_false_iff_ne.2 c]; simp [fitsGo, c]
theorem fits_sm (n : Int) (w : List Int) (l : List S37) : fitsL n w (l.map sm) ↔ ((w.length : Int) = n + 1 ∧ ∀ s ∈ l, (s.f0.length : Int) = n) := by
  unfold fitsL; simp [sm]
theorem checkL_sm (n : Int) (w : List Int) (l : List S37) : checkL n w (l.map sm) = if n < 1 ∨ n > 16 then 1 else fitsGo n l l.length ((w.length : Int) == n + 1) := by
  unfold checkL fitsGo
  rw [List.length_map]
  by_cases c : n < 1 ∨ n > 16
  · rw [if_pos c, if_pos c]
  · rw [if_neg c, if_neg c]
    by_cases c2 : (w.length : Int) = n + 1 ∧ ∀ s ∈ l, (s.f0.length : Int) = n
    · rw [if_neg (fun h => h ((fits_sm n w l).2 c2))]
      symm
      rw [if_pos (show ((w.length : Int) == n + 1) = true ∧ _ from ⟨beq_iff_eq.2 c2.1, c2.2⟩)]
    · rw [if_pos (fun h => c2 ((fits_sm n w l).1 h)), if_neg (fun h => c2 ⟨beq_iff_eq.1 h.1, h.2⟩)]


/-! ### model_straight_dim: function 116 -/
def model_straight_dim.f (a0_0 : Int) (a0_1 : Int) (a0_2 : Int) (a0_3 : Int) (a0_4 : Int) : Option (Int × Int) := (linear_Dim.f a0_1).bind fun bt102 => (some (bt102.1, bt102.2))
set_option maxHeartbeats 8000000 in
set_option maxRecDepth 100000 in
theorem model_straight_dim.calls (a0_0 : Int) (a0_1 : Int) (a0_2 : Int) (a0_3 : Int) (a0_4 : Int) (r1 : Int) (r2 : Int) (w : World) (h : model_straight_dim.f a0_0 a0_1 a0_2 a0_3 a0_4 = some (r1, r2)) :
    Calls Try.prog 116 #[.agg #[.int .i64 a0_0, .int .i64 a0_1, .int .i64 a0_2, .int .i64 a0_3, .int .i64 a0_4]] w fun e w' => e = .returned (.tuple #[.int .i64 r1, .int .i64 r2]) ∧ Below w.heap.size w w' := by
  have hu86 := Try.underlying86
  have HB := Aside0.mk (Below.refl w.heap.size w)
  have H : ((linear_Dim.f a0_1).bind fun bt102 => (some (bt102.1, bt102.2))) = some (r1, r2) := h
  clear h
  replace H := Option.bind_eq_some_iff.mp H
  obtain ⟨⟨t102, t103⟩, A20, H⟩ := H
  replace H : (some (t102, t103)) = some (r1, r2) := H
  have A2 := Aside0.mk A20
  clear A20
  simp only [Option.some.injEq, Prod.mk.injEq] at H
  obtain ⟨rfl, rfl⟩ := H
  go_enter Try.func116, Try.ntmps116
  go_wp2_with (first | ((with_reducible refine gate_dst (N := 1) rfl ?_); refine box_event ?hg (N := 1) ?hd (cs := #[.int .i64 a0_0, .int .i64 a0_1, .int .i64 a0_2, .int .i64 a0_3, .int .i64 a0_4]) (t := 86) ?hr ?_; (case hd => rfl); (case hg => rfl); (case hr => first | (go_simp; done) | (go_simp; rfl)); intro gb101 hg w3 hbox hb; have n0_ := Aside0.mk (below_step (by repeat (first | (with_reducible first | exact HB.out | apply below_alloc | apply pw_below_drewN | apply below_drew1) | exact HB.out)) hb); have n1_ := Aside0.mk (hbox); have n2_ := Aside0.mk ((by rw [hg]; exact (below_size (by repeat (first | (with_reducible first | exact HB.out | apply below_alloc | apply pw_below_drewN | apply below_drew1) | exact HB.out))) : w.heap.size ≤ gb101)); have n3_ := Aside0.mk ((by rw [hg]; exact (below_size (by repeat (first | (with_reducible first | exact HB.out | apply below_alloc | apply pw_below_drewN | apply below_drew1) | exact HB.out))) : w.heap.size ≤ gb101)); clear HB; have HB := n0_; have BK101 := n1_; have GW101 := n2_; have GE101 := n3_; clear n0_ n1_ n2_ n3_; clear hb hbox hg; have hcz4_0 : w3.cell? ⟨gb101, 0, none⟩ = some (.int .i64 a0_0) := (blk_cell BK101.out 0).trans rfl; have hcz4_1 : w3.cell? ⟨gb101, 1, none⟩ = some (.int .i64 a0_1) := (blk_cell BK101.out 1).trans rfl; have hcz4_2 : w3.cell? ⟨gb101, 2, none⟩ = some (.int .i64 a0_2) := (blk_cell BK101.out 2).trans rfl; have hcz4_3 : w3.cell? ⟨gb101, 3, none⟩ = some (.int .i64 a0_3) := (blk_cell BK101.out 3).trans rfl; have hcz4_4 : w3.cell? ⟨gb101, 4, none⟩ = some (.int .i64 a0_4) := (blk_cell BK101.out 4).trans rfl; have hfz4_0 := blk_frozen BK101.out 0; have hfz4_1 := blk_frozen BK101.out 1; have hfz4_2 := blk_frozen BK101.out 2; have hfz4_3 := blk_frozen BK101.out 3; have hfz4_4 := blk_frozen BK101.out 4) | ((with_reducible refine gate_callee (f := 69) rfl ?_); refine goesL_ (some 7) rfl rfl Try.func69 (by kernel_rfl) rfl #[.int .i64 a0_1] rfl (by (try simp only [List.map_toArray, List.map_cons, List.map_nil]); first | done | rfl | (simp only [List.length_drop, List.length_take]; rfl)) ?_; (with_reducible refine (linear_Dim.calls a0_1 t102 t103 _ A2.out).mono ?_); rintro e w' ⟨rfl, ⟨nd, rfl⟩⟩; refine ⟨_, rfl, ?_⟩))
  go_ret2
  exact ⟨by first | rfl | (simp [errW_none, errW_some] <;> rfl) | (simp [*, errW_none, errW_some] <;> rfl), by repeat (first | (with_reducible first | exact HB.out | apply below_alloc | apply pw_below_drewN | apply below_drew1 | refine below_set ?_ GE101.out) | exact HB.out)⟩

/-! ### soft_classes: function 81 -/
def soft_classes.f (a0 : Int) : Option (Bool) := if a0 > 1 then (some (decide (a0 ≤ 8))) else (some false)
set_option maxHeartbeats 8000000 in
set_option maxRecDepth 100000 in
theorem soft_classes.calls (a0 : Int) (r : Bool) (w : World) (h : soft_classes.f a0 = some r) :
    Calls Try.prog 81 #[.int .i64 a0] w fun e w' => e = .returned (.bool r) ∧ Drawn0 w w' := by
  have H : (if a0 > 1 then (some (decide (a0 ≤ 8))) else (some false)) = some r := h
  clear h
  by_cases c2 : a0 > 1
  · rw [if_pos c2] at H
    have c2b0 : decide (1 < a0) = true := decide_eq_true c2
    clear c2
    obtain rfl := Option.some.inj H
    go_enter Try.func81, Try.ntmps81
    go_wp2
    go_ret
    exact ⟨by first | rfl | (simp; done) | (simp [*]; done), by repeat (first | exact Drawn0.refl _ | apply Drawn0.step)⟩
  · rw [if_neg c2] at H
    have c2b0 : decide (1 < a0) = false := decide_eq_false c2
    clear c2
    obtain rfl := Option.some.inj H
    go_enter Try.func81, Try.ntmps81
    go_wp2
    go_ret
    exact ⟨by first | rfl | (simp; done) | (simp [*]; done), by repeat (first | exact Drawn0.refl _ | apply Drawn0.step)⟩

/-! ### soft_Dim: function 82 -/
def soft_Dim.f (a0 : Int) (a1 : Int) : Option (Int × Int) := (linear_Dim.f a0).bind fun bt104 => (if bt104.2 = 0 then ((soft_classes.f a1).bind fun t106 => (if t106 = true then (some (wrap64 (bt104.1 * a1), 0)) else (some (0, 1)))) else (some (0, 1)))
set_option maxHeartbeats 8000000 in
set_option maxRecDepth 100000 in
theorem soft_Dim.calls (a0 : Int) (a1 : Int) (r1 : Int) (r2 : Int) (w : World) (h : soft_Dim.f a0 a1 = some (r1, r2)) :
    Calls Try.prog 82 #[.int .i64 a0, .int .i64 a1] w fun e w' => e = .returned (.tuple #[.int .i64 r1, .int .i64 r2]) ∧ Drawn0 w w' := by
  have H : ((linear_Dim.f a0).bind fun bt104 => (if bt104.2 = 0 then ((soft_classes.f a1).bind fun t106 => (if t106 = true then (some (wrap64 (bt104.1 * a1), 0)) else (some (0, 1)))) else (some (0, 1)))) = some (r1, r2) := h
  clear h
  replace H := Option.bind_eq_some_iff.mp H
  obtain ⟨⟨t104, t105⟩, A30, H⟩ := H
  replace H : (if t105 = 0 then ((soft_classes.f a1).bind fun t106 => (if t106 = true then (some (wrap64 (t104 * a1), 0)) else (some (0, 1)))) else (some (0, 1))) = some (r1, r2) := H
  have A3 := Aside0.mk A30
  clear A30
  by_cases c4 : t105 = 0
  · rw [if_pos c4] at H
    have c4b0 : (t105 == 0) = true := beq_iff_eq.mpr c4
    have c4b1 : (t105 != 0) = false := bne_eq_false_iff_eq.mpr c4
    clear c4
    replace H := Option.bind_eq_some_iff.mp H
    obtain ⟨t106, A50, H⟩ := H
    replace H : (if t106 = true then (some (wrap64 (t104 * a1), 0)) else (some (0, 1))) = some (r1, r2) := H
    have A5 := Aside0.mk A50
    clear A50
    by_cases c6 : t106 = true
    · subst c6
      have H1 : (some (wrap64 (t104 * a1), 0)) = some (r1, r2) := by rw [if_pos rfl] at H; exact H
      clear H
      have H := H1
      clear H1
      simp only [Option.some.injEq, Prod.mk.injEq] at H
      obtain ⟨rfl, rfl⟩ := H
      go_enter Try.func82, Try.ntmps82
      go_wp2_with (first | ((with_reducible refine gate_callee (f := 69) rfl ?_); refine goesL_ (some 10) rfl rfl Try.func69 (by kernel_rfl) rfl #[.int .i64 a0] rfl (by (try simp only [List.map_toArray, List.map_cons, List.map_nil]); first | done | rfl | (simp only [List.length_drop, List.length_take]; rfl)) ?_; (with_reducible refine (linear_Dim.calls a0 t104 t105 _ A3.out).mono ?_); rintro e w' ⟨rfl, ⟨nd, rfl⟩⟩; refine ⟨_, rfl, ?_⟩) | (go_at_call 81; (with_reducible refine (soft_classes.calls a1 true _ A5.out).mono ?_); rintro e w' ⟨rfl, ⟨nd, rfl⟩⟩))
      go_ret2
      exact ⟨by first | rfl | (simp; done) | (simp [*]; done), by repeat (first | exact Drawn0.refl _ | apply Drawn0.step)⟩
    · replace c6 := Bool.eq_false_iff.mpr c6
      subst c6
      have H1 : (some (0, 1)) = some (r1, r2) := by rw [if_neg (show ¬ (false = true) by decide)] at H; exact H
      clear H
      have H := H1
      clear H1
      simp only [Option.some.injEq, Prod.mk.injEq] at H
      obtain ⟨rfl, rfl⟩ := H
      go_enter Try.func82, Try.ntmps82
      go_wp2_with (first | ((with_reducible refine gate_callee (f := 69) rfl ?_); refine goesL_ (some 10) rfl rfl Try.func69 (by kernel_rfl) rfl #[.int .i64 a0] rfl (by (try simp only [List.map_toArray, List.map_cons, List.map_nil]); first | done | rfl | (simp only [List.length_drop, List.length_take]; rfl)) ?_; (with_reducible refine (linear_Dim.calls a0 t104 t105 _ A3.out).mono ?_); rintro e w' ⟨rfl, ⟨nd, rfl⟩⟩; refine ⟨_, rfl, ?_⟩) | (go_at_call 81; (with_reducible refine (soft_classes.calls a1 false _ A5.out).mono ?_); rintro e w' ⟨rfl, ⟨nd, rfl⟩⟩))
      go_ret2
      exact ⟨by first | rfl | (simp; done) | (simp [*]; done), by repeat (first | exact Drawn0.refl _ | apply Drawn0.step)⟩
  · rw [if_neg c4] at H
    have c4b0 : (t105 == 0) = false := beq_eq_false_iff_ne.mpr c4
    have c4b1 : (t105 != 0) = true := bne_iff_ne.mpr c4
    simp only [Option.some.injEq, Prod.mk.injEq] at H
    obtain ⟨rfl, rfl⟩ := H
    go_enter Try.func82, Try.ntmps82
    go_wp2_with (first | ((with_reducible refine gate_callee (f := 69) rfl ?_); refine goesL_ (some 10) rfl rfl Try.func69 (by kernel_rfl) rfl #[.int .i64 a0] rfl (by (try simp only [List.map_toArray, List.map_cons, List.map_nil]); first | done | rfl | (simp only [List.length_drop, List.length_take]; rfl)) ?_; (with_reducible refine (linear_Dim.calls a0 t104 t105 _ A3.out).mono ?_); rintro e w' ⟨rfl, ⟨nd, rfl⟩⟩; refine ⟨_, rfl, ?_⟩))
    go_ret2
    exact ⟨by first | rfl | (simp; done) | (simp [*]; done), by repeat (first | exact Drawn0.refl _ | apply Drawn0.step)⟩

/-! ### model_classes_dim: function 121 -/
def model_classes_dim.f (a0_0 : Int) (a0_1 : Int) (a0_2 : Int) (a0_3 : Int) (a0_4 : Int) : Option (Int × Int) := (soft_Dim.f a0_1 a0_2).bind fun bt108 => (some (bt108.1, bt108.2))
set_option maxHeartbeats 8000000 in
set_option maxRecDepth 100000 in
theorem model_classes_dim.calls (a0_0 : Int) (a0_1 : Int) (a0_2 : Int) (a0_3 : Int) (a0_4 : Int) (r1 : Int) (r2 : Int) (w : World) (h : model_classes_dim.f a0_0 a0_1 a0_2 a0_3 a0_4 = some (r1, r2)) :
    Calls Try.prog 121 #[.agg #[.int .i64 a0_0, .int .i64 a0_1, .int .i64 a0_2, .int .i64 a0_3, .int .i64 a0_4]] w fun e w' => e = .returned (.tuple #[.int .i64 r1, .int .i64 r2]) ∧ Below w.heap.size w w' := by
  have hu87 := Try.underlying87
  have HB := Aside0.mk (Below.refl w.heap.size w)
  have H : ((soft_Dim.f a0_1 a0_2).bind fun bt108 => (some (bt108.1, bt108.2))) = some (r1, r2) := h
  clear h
  replace H := Option.bind_eq_some_iff.mp H
  obtain ⟨⟨t108, t109⟩, A20, H⟩ := H
  replace H : (some (t108, t109)) = some (r1, r2) := H
  have A2 := Aside0.mk A20
  clear A20
  simp only [Option.some.injEq, Prod.mk.injEq] at H
  obtain ⟨rfl, rfl⟩ := H
  go_enter Try.func121, Try.ntmps121
  go_wp2_with (first | ((with_reducible refine gate_dst (N := 1) rfl ?_); refine box_event ?hg (N := 1) ?hd (cs := #[.int .i64 a0_0, .int .i64 a0_1, .int .i64 a0_2, .int .i64 a0_3, .int .i64 a0_4]) (t := 87) ?hr ?_; (case hd => rfl); (case hg => rfl); (case hr => first | (go_simp; done) | (go_simp; rfl)); intro gb107 hg w3 hbox hb; have n0_ := Aside0.mk (below_step (by repeat (first | (with_reducible first | exact HB.out | apply below_alloc | apply pw_below_drewN | apply below_drew1) | exact HB.out)) hb); have n1_ := Aside0.mk (hbox); have n2_ := Aside0.mk ((by rw [hg]; exact (below_size (by repeat (first | (with_reducible first | exact HB.out | apply below_alloc | apply pw_below_drewN | apply below_drew1) | exact HB.out))) : w.heap.size ≤ gb107)); have n3_ := Aside0.mk ((by rw [hg]; exact (below_size (by repeat (first | (with_reducible first | exact HB.out | apply below_alloc | apply pw_below_drewN | apply below_drew1) | exact HB.out))) : w.heap.size ≤ gb107)); clear HB; have HB := n0_; have BK107 := n1_; have GW107 := n2_; have GE107 := n3_; clear n0_ n1_ n2_ n3_; clear hb hbox hg; have hcz4_0 : w3.cell? ⟨gb107, 0, none⟩ = some (.int .i64 a0_0) := (blk_cell BK107.out 0).trans rfl; have hcz4_1 : w3.cell? ⟨gb107, 1, none⟩ = some (.int .i64 a0_1) := (blk_cell BK107.out 1).trans rfl; have hcz4_2 : w3.cell? ⟨gb107, 2, none⟩ = some (.int .i64 a0_2) := (blk_cell BK107.out 2).trans rfl; have hcz4_3 : w3.cell? ⟨gb107, 3, none⟩ = some (.int .i64 a0_3) := (blk_cell BK107.out 3).trans rfl; have hcz4_4 : w3.cell? ⟨gb107, 4, none⟩ = some (.int .i64 a0_4) := (blk_cell BK107.out 4).trans rfl; have hfz4_0 := blk_frozen BK107.out 0; have hfz4_1 := blk_frozen BK107.out 1; have hfz4_2 := blk_frozen BK107.out 2; have hfz4_3 := blk_frozen BK107.out 3; have hfz4_4 := blk_frozen BK107.out 4) | ((with_reducible refine gate_callee (f := 82) rfl ?_); refine goesL_ (some 10) rfl rfl Try.func82 (by kernel_rfl) rfl #[.int .i64 a0_1, .int .i64 a0_2] rfl (by (try simp only [List.map_toArray, List.map_cons, List.map_nil]); first | done | rfl | (simp only [List.length_drop, List.length_take]; rfl)) ?_; (with_reducible refine (soft_Dim.calls a0_1 a0_2 t108 t109 _ A2.out).mono ?_); rintro e w' ⟨rfl, ⟨nd, rfl⟩⟩; refine ⟨_, rfl, ?_⟩))
  go_ret2
  exact ⟨by first | rfl | (simp [errW_none, errW_some] <;> rfl) | (simp [*, errW_none, errW_some] <;> rfl), by repeat (first | (with_reducible first | exact HB.out | apply below_alloc | apply pw_below_drewN | apply below_drew1 | refine below_set ?_ GE107.out) | exact HB.out)⟩

/-! ### mlp_hides: function 62 -/
def mlp_hides.f (a0 : Int) : Option (Bool) := if a0 > 0 then (some (decide (a0 ≤ 8))) else (some false)
set_option maxHeartbeats 8000000 in
set_option maxRecDepth 100000 in
theorem mlp_hides.calls (a0 : Int) (r : Bool) (w : World) (h : mlp_hides.f a0 = some r) :
    Calls Try.prog 62 #[.int .i64 a0] w fun e w' => e = .returned (.bool r) ∧ Drawn0 w w' := by
  have H : (if a0 > 0 then (some (decide (a0 ≤ 8))) else (some false)) = some r := h
  clear h
  by_cases c2 : a0 > 0
  · rw [if_pos c2] at H
    have c2b0 : decide (0 < a0) = true := decide_eq_true c2
    clear c2
    obtain rfl := Option.some.inj H
    go_enter Try.func62, Try.ntmps62
    go_wp2
    go_ret
    exact ⟨by first | rfl | (simp; done) | (simp [*]; done), by repeat (first | exact Drawn0.refl _ | apply Drawn0.step)⟩
  · rw [if_neg c2] at H
    have c2b0 : decide (0 < a0) = false := decide_eq_false c2
    clear c2
    obtain rfl := Option.some.inj H
    go_enter Try.func62, Try.ntmps62
    go_wp2
    go_ret
    exact ⟨by first | rfl | (simp; done) | (simp [*]; done), by repeat (first | exact Drawn0.refl _ | apply Drawn0.step)⟩

/-! ### mlp_Dim: function 63 -/
def mlp_Dim.f (a0 : Int) (a1 : Int) : Option (Int × Int) := (linear_Dim.f a0).bind fun bt110 => (if bt110.2 = 0 then ((mlp_hides.f a1).bind fun t112 => (if t112 = true then (some (wrap64 ((wrap64 ((wrap64 (a1 * bt110.1)) + a1)) + 1), 0)) else (some (0, 1)))) else (some (0, 1)))
set_option maxHeartbeats 8000000 in
set_option maxRecDepth 100000 in
theorem mlp_Dim.calls (a0 : Int) (a1 : Int) (r1 : Int) (r2 : Int) (w : World) (h : mlp_Dim.f a0 a1 = some (r1, r2)) :
    Calls Try.prog 63 #[.int .i64 a0, .int .i64 a1] w fun e w' => e = .returned (.tuple #[.int .i64 r1, .int .i64 r2]) ∧ Drawn0 w w' := by
  have H : ((linear_Dim.f a0).bind fun bt110 => (if bt110.2 = 0 then ((mlp_hides.f a1).bind fun t112 => (if t112 = true then (some (wrap64 ((wrap64 ((wrap64 (a1 * bt110.1)) + a1)) + 1), 0)) else (some (0, 1)))) else (some (0, 1)))) = some (r1, r2) := h
  clear h
  replace H := Option.bind_eq_some_iff.mp H
  obtain ⟨⟨t110, t111⟩, A30, H⟩ := H
  replace H : (if t111 = 0 then ((mlp_hides.f a1).bind fun t112 => (if t112 = true then (some (wrap64 ((wrap64 ((wrap64 (a1 * t110)) + a1)) + 1), 0)) else (some (0, 1)))) else (some (0, 1))) = some (r1, r2) := H
  have A3 := Aside0.mk A30
  clear A30
  by_cases c4 : t111 = 0
  · rw [if_pos c4] at H
    have c4b0 : (t111 == 0) = true := beq_iff_eq.mpr c4
    have c4b1 : (t111 != 0) = false := bne_eq_false_iff_eq.mpr c4
    clear c4
    replace H := Option.bind_eq_some_iff.mp H
    obtain ⟨t112, A50, H⟩ := H
    replace H : (if t112 = true then (some (wrap64 ((wrap64 ((wrap64 (a1 * t110)) + a1)) + 1), 0)) else (some (0, 1))) = some (r1, r2) := H
    have A5 := Aside0.mk A50
    clear A50
    by_cases c6 : t112 = true
    · subst c6
      have H1 : (some (wrap64 ((wrap64 ((wrap64 (a1 * t110)) + a1)) + 1), 0)) = some (r1, r2) := by rw [if_pos rfl] at H; exact H
      clear H
      have H := H1
      clear H1
      simp only [Option.some.injEq, Prod.mk.injEq] at H
      obtain ⟨rfl, rfl⟩ := H
      go_enter Try.func63, Try.ntmps63
      go_wp2_with (first | ((with_reducible refine gate_callee (f := 69) rfl ?_); refine goesL_ (some 10) rfl rfl Try.func69 (by kernel_rfl) rfl #[.int .i64 a0] rfl (by (try simp only [List.map_toArray, List.map_cons, List.map_nil]); first | done | rfl | (simp only [List.length_drop, List.length_take]; rfl)) ?_; (with_reducible refine (linear_Dim.calls a0 t110 t111 _ A3.out).mono ?_); rintro e w' ⟨rfl, ⟨nd, rfl⟩⟩; refine ⟨_, rfl, ?_⟩) | (go_at_call 62; (with_reducible refine (mlp_hides.calls a1 true _ A5.out).mono ?_); rintro e w' ⟨rfl, ⟨nd, rfl⟩⟩))
      go_ret2
      exact ⟨by first | rfl | (simp; done) | (simp [*]; done), by repeat (first | exact Drawn0.refl _ | apply Drawn0.step)⟩
    · replace c6 := Bool.eq_false_iff.mpr c6
      subst c6
      have H1 : (some (0, 1)) = some (r1, r2) := by rw [if_neg (show ¬ (false = true) by decide)] at H; exact H
      clear H
      have H := H1
      clear H1
      simp only [Option.some.injEq, Prod.mk.injEq] at H
      obtain ⟨rfl, rfl⟩ := H
      go_enter Try.func63, Try.ntmps63
      go_wp2_with (first | ((with_reducible refine gate_callee (f := 69) rfl ?_); refine goesL_ (some 10) rfl rfl Try.func69 (by kernel_rfl) rfl #[.int .i64 a0] rfl (by (try simp only [List.map_toArray, List.map_cons, List.map_nil]); first | done | rfl | (simp only [List.length_drop, List.length_take]; rfl)) ?_; (with_reducible refine (linear_Dim.calls a0 t110 t111 _ A3.out).mono ?_); rintro e w' ⟨rfl, ⟨nd, rfl⟩⟩; refine ⟨_, rfl, ?_⟩) | (go_at_call 62; (with_reducible refine (mlp_hides.calls a1 false _ A5.out).mono ?_); rintro e w' ⟨rfl, ⟨nd, rfl⟩⟩))
      go_ret2
      exact ⟨by first | rfl | (simp; done) | (simp [*]; done), by repeat (first | exact Drawn0.refl _ | apply Drawn0.step)⟩
  · rw [if_neg c4] at H
    have c4b0 : (t111 == 0) = false := beq_eq_false_iff_ne.mpr c4
    have c4b1 : (t111 != 0) = true := bne_iff_ne.mpr c4
    simp only [Option.some.injEq, Prod.mk.injEq] at H
    obtain ⟨rfl, rfl⟩ := H
    go_enter Try.func63, Try.ntmps63
    go_wp2_with (first | ((with_reducible refine gate_callee (f := 69) rfl ?_); refine goesL_ (some 10) rfl rfl Try.func69 (by kernel_rfl) rfl #[.int .i64 a0] rfl (by (try simp only [List.map_toArray, List.map_cons, List.map_nil]); first | done | rfl | (simp only [List.length_drop, List.length_take]; rfl)) ?_; (with_reducible refine (linear_Dim.calls a0 t110 t111 _ A3.out).mono ?_); rintro e w' ⟨rfl, ⟨nd, rfl⟩⟩; refine ⟨_, rfl, ?_⟩))
    go_ret2
    exact ⟨by first | rfl | (simp; done) | (simp [*]; done), by repeat (first | exact Drawn0.refl _ | apply Drawn0.step)⟩

theorem mlp_Dim.is (a0 a1 : Int) : mlp_Dim.f a0 a1 = some (dimM a0 a1) := by
  unfold dimM
  by_cases c : a0 < 1 ∨ a0 > 16 ∨ badHid a1
  · rw [if_pos c]
    unfold mlp_Dim.f linear_Dim.f mlp_hides.f
    by_cases c1 : a0 < 1
    · rw [if_pos c1, Option.bind_some, if_neg (by decide)]
    · rw [if_neg c1]
      by_cases c2 : a0 > 16
      · rw [if_pos c2, Option.bind_some, if_neg (by decide)]
      · rw [if_neg c2, Option.bind_some, if_pos rfl]
        have hb : badHid a1 := c.elim (fun h => absurd h c1) (fun h => h.elim (fun h => absurd h c2) id)
        unfold badHid at hb
        by_cases c3 : a1 > 0
        · rw [if_pos c3, Option.bind_some, decide_eq_false (by omega), if_neg (by decide)]
        · rw [if_neg c3, Option.bind_some, if_neg (by decide)]
  · rw [if_neg c]
    have hb : ¬ badHid a1 := fun h => c (.inr (.inr h))
    obtain ⟨k, rfl, h1, h8⟩ := badHid_not hb
    unfold mlp_Dim.f linear_Dim.f mlp_hides.f
    have hm : (k : Int) * (a0 + 1) ≤ 8 * 17 := Int.mul_le_mul (by omega) (by omega) (by omega) (by omega)
    have h0 : 0 ≤ (k : Int) * (a0 + 1) := Int.mul_nonneg (by omega) (by omega)
    have e1 : wrap64 (a0 + 1) = a0 + 1 := wrap64_of (by unfold I64; omega)
    rw [if_neg (by omega), if_neg (by omega), e1, Option.bind_some, if_pos rfl, if_pos (show (k : Int) > 0 by omega), Option.bind_some, if_pos (decide_eq_true (by omega))]
    show some (wrap64 (wrap64 (wrap64 ((k : Int) * (a0 + 1)) + k) + 1), 0) = _
    generalize (k : Int) * (a0 + 1) = p at hm h0 ⊢
    rw [wrap64_of (show I64 p by unfold I64; omega), wrap64_of (show I64 (p + k) by unfold I64; omega), wrap64_of (show I64 (p + k + 1) by unfold I64; omega)]


/-! ### model_layers_dim: function 125 -/
def model_layers_dim.f (a0_0 : Int) (a0_1 : Int) (a0_2 : Int) (a0_3 : Int) (a0_4 : Int) : Option (Int × Int) := (mlp_Dim.f a0_1 a0_3).bind fun bt114 => (some (bt114.1, bt114.2))
set_option maxHeartbeats 8000000 in
set_option maxRecDepth 100000 in
theorem model_layers_dim.calls (a0_0 : Int) (a0_1 : Int) (a0_2 : Int) (a0_3 : Int) (a0_4 : Int) (r1 : Int) (r2 : Int) (w : World) (h : model_layers_dim.f a0_0 a0_1 a0_2 a0_3 a0_4 = some (r1, r2)) :
    Calls Try.prog 125 #[.agg #[.int .i64 a0_0, .int .i64 a0_1, .int .i64 a0_2, .int .i64 a0_3, .int .i64 a0_4]] w fun e w' => e = .returned (.tuple #[.int .i64 r1, .int .i64 r2]) ∧ Below w.heap.size w w' := by
  have hu88 := Try.underlying88
  have HB := Aside0.mk (Below.refl w.heap.size w)
  have H : ((mlp_Dim.f a0_1 a0_3).bind fun bt114 => (some (bt114.1, bt114.2))) = some (r1, r2) := h
  clear h
  replace H := Option.bind_eq_some_iff.mp H
  obtain ⟨⟨t114, t115⟩, A20, H⟩ := H
  replace H : (some (t114, t115)) = some (r1, r2) := H
  have A2 := Aside0.mk A20
  clear A20
  simp only [Option.some.injEq, Prod.mk.injEq] at H
  obtain ⟨rfl, rfl⟩ := H
  go_enter Try.func125, Try.ntmps125
  go_wp2_with (first | ((with_reducible refine gate_dst (N := 1) rfl ?_); refine box_event ?hg (N := 1) ?hd (cs := #[.int .i64 a0_0, .int .i64 a0_1, .int .i64 a0_2, .int .i64 a0_3, .int .i64 a0_4]) (t := 88) ?hr ?_; (case hd => rfl); (case hg => rfl); (case hr => first | (go_simp; done) | (go_simp; rfl)); intro gb113 hg w3 hbox hb; have n0_ := Aside0.mk (below_step (by repeat (first | (with_reducible first | exact HB.out | apply below_alloc | apply pw_below_drewN | apply below_drew1) | exact HB.out)) hb); have n1_ := Aside0.mk (hbox); have n2_ := Aside0.mk ((by rw [hg]; exact (below_size (by repeat (first | (with_reducible first | exact HB.out | apply below_alloc | apply pw_below_drewN | apply below_drew1) | exact HB.out))) : w.heap.size ≤ gb113)); have n3_ := Aside0.mk ((by rw [hg]; exact (below_size (by repeat (first | (with_reducible first | exact HB.out | apply below_alloc | apply pw_below_drewN | apply below_drew1) | exact HB.out))) : w.heap.size ≤ gb113)); clear HB; have HB := n0_; have BK113 := n1_; have GW113 := n2_; have GE113 := n3_; clear n0_ n1_ n2_ n3_; clear hb hbox hg; have hcz4_0 : w3.cell? ⟨gb113, 0, none⟩ = some (.int .i64 a0_0) := (blk_cell BK113.out 0).trans rfl; have hcz4_1 : w3.cell? ⟨gb113, 1, none⟩ = some (.int .i64 a0_1) := (blk_cell BK113.out 1).trans rfl; have hcz4_2 : w3.cell? ⟨gb113, 2, none⟩ = some (.int .i64 a0_2) := (blk_cell BK113.out 2).trans rfl; have hcz4_3 : w3.cell? ⟨gb113, 3, none⟩ = some (.int .i64 a0_3) := (blk_cell BK113.out 3).trans rfl; have hcz4_4 : w3.cell? ⟨gb113, 4, none⟩ = some (.int .i64 a0_4) := (blk_cell BK113.out 4).trans rfl; have hfz4_0 := blk_frozen BK113.out 0; have hfz4_1 := blk_frozen BK113.out 1; have hfz4_2 := blk_frozen BK113.out 2; have hfz4_3 := blk_frozen BK113.out 3; have hfz4_4 := blk_frozen BK113.out 4) | ((with_reducible refine gate_callee (f := 63) rfl ?_); refine goesL_ (some 10) rfl rfl Try.func63 (by kernel_rfl) rfl #[.int .i64 a0_1, .int .i64 a0_3] rfl (by (try simp only [List.map_toArray, List.map_cons, List.map_nil]); first | done | rfl | (simp only [List.length_drop, List.length_take]; rfl)) ?_; (with_reducible refine (mlp_Dim.calls a0_1 a0_3 t114 t115 _ A2.out).mono ?_); rintro e w' ⟨rfl, ⟨nd, rfl⟩⟩; refine ⟨_, rfl, ?_⟩))
  go_ret2
  exact ⟨by first | rfl | (simp [errW_none, errW_some] <;> rfl) | (simp [*, errW_none, errW_some] <;> rfl), by repeat (first | (with_reducible first | exact HB.out | apply below_alloc | apply pw_below_drewN | apply below_drew1 | refine below_set ?_ GE113.out) | exact HB.out)⟩

/-! ### api_Sample_92: function 92 -/
/-- The first one's place of which p is true, counted from k on, or -1. -/
def findFrom {α : Type} (p : α → Bool) : List α → Nat → Int
  | [], _ => -1
  | x :: l, k => if p x = true then (k : Int) else findFrom p l (k + 1)
theorem findFrom_any {α : Type} (p : α → Bool) : ∀ (l : List α) (k : Nat), decide (0 ≤ findFrom p l k) = l.any p
  | [], k => rfl
  | x :: l, k => by
    rw [findFrom, List.any_cons]
    by_cases c : p x = true
    · rw [if_pos c, c, Bool.true_or, decide_eq_true (by omega)]
    · rw [if_neg c, Bool.eq_false_iff.2 c, Bool.false_or]
      exact findFrom_any p l (k + 1)
set_option maxHeartbeats 4000000 in
set_option maxRecDepth 100000 in
theorem slices_IndexFuncS.calls (K : Nat) (caps : Array Value) (p : S37 → Bool) (A2 : Option Addr) (c2 : Nat) (l2 : List S37) (w : World)
    (hent : ∀ (args : Array Value) (w : World), (callFunc K args).run Try.prog w = .ok (.enter K args) w)
    (hr2 : Kd.C k37 w A2 l2.length l2) (hc2 : l2.length ≤ c2)
    (hK : ∀ W (x : S37) A c, Below w.heap.size w W → Kd.C (Kd.int .i64) W A x.f0.length x.f0 → x.f0.length ≤ c →
      Calls Try.prog K (#[.agg #[.slice A x.f0.length c, .int .i64 x.f1]] ++ caps) W fun ed W' => ed = .returned (.bool (p x)) ∧ Below W.heap.size W W') :
    Calls Try.prog 92 #[.slice A2 l2.length c2, .func (.func K) #[] caps] w fun e w' => e = .returned (.int .i64 (findFrom p l2 0)) ∧ Below w.heap.size w w' := by
  have hu := Try.underlying37
  have HR2 := Aside0.mk hr2
  have HC2 := Aside0.mk hc2
  have HK := Aside0.mk hK
  have hmx := Kd.C_max hr2
  have HM := Aside0.mk hmx
  have HB := Aside0.mk (Below.refl w.heap.size w)
  obtain ⟨res, hres⟩ : ∃ r, findFrom p l2 0 = r := ⟨_, rfl⟩
  rw [hres]
  have HG := Aside0.mk hres
  clear hr2 hc2 hK hmx hres
  go_enter Try.func92, Try.ntmps92
  go_wp2_with fail
  go_loopw [8] (fun vi W => ∃ (k : Nat), vi = .int .i64 k ∧ Aside0 (k ≤ l2.length) ∧ Aside0 (findFrom p (l2.drop k) k = res) ∧ Aside0 (Below w.heap.size w W)) (fun i _ => l2.length - (intOf i).toNat)
  case atStart => exact ⟨0, rfl, ⟨Nat.zero_le _⟩, ⟨by rw [List.drop_zero]; exact HG.out⟩, HB⟩
  case round =>
    obtain ⟨k, rfl, ⟨hk⟩, ⟨hgo⟩, HB⟩ := hrel
    clear HG
    by_cases hlt : k < l2.length
    · have hM := HM.out
      obtain ⟨ad, A, c, rfl, hx0, hx1, hl, hi⟩ := at_T37 HR2.out (k : Int) (by omega) (by omega)
      obtain ⟨x, hx⟩ : ∃ x, rd_T37 l2 (k : Int) = x := ⟨_, rfl⟩
      have hmem : l2[k] = x := (rd_sm hlt).symm.trans hx
      rw [hx] at hx0 hx1 hl hi
      simp only [Int.toNat_natCast] at hx0 hx1
      replace hx0 := (HB.out.cell (World.block_lt_of_cell? _ _ hx0)).trans hx0
      replace hx1 := (HB.out.cell (World.block_lt_of_cell? _ _ hx1)).trans hx1
      have HRX := Aside0.mk hi
      have HCX := Aside0.mk hl
      have HLT := Aside0.mk hlt
      rw [List.drop_eq_getElem_cons hlt, hmem, findFrom] at hgo
      clear hl hi hx hmem hk
      by_cases hp : p x = true
      · rw [if_pos hp] at hgo
        subst hgo
        go_wp2_with (go_at_fn K; refine (HK.out _ x A c HB.out (Kd.C_below HRX.out HB.out) HCX.out).mono ?_; rintro ed W3 ⟨rfl, hb3⟩; rw [hp]; have HB3 := Aside0.mk (below_then HB.out HB.out.size hb3); clear hb3)
        go_ret
        exact ⟨rfl, HB3.out⟩
      · rw [if_neg hp] at hgo
        have HG := Aside0.mk hgo
        have hpf : p x = false := Bool.eq_false_iff.2 hp
        clear hgo hp
        go_wp2_with (go_at_fn K; refine (HK.out _ x A c HB.out (Kd.C_below HRX.out HB.out) HCX.out).mono ?_; rintro ed W3 ⟨rfl, hb3⟩; rw [hpf]; have HB3 := Aside0.mk (below_then HB.out HB.out.size hb3); clear hb3)
        exact ⟨⟨k + 1, by first | rfl | (rw [wrap64_of (show I64 ((k : Int) + 1) by unfold I64; omega)]; rfl), ⟨HLT.out⟩, HG, HB3⟩, by have := HLT.out; have := HM.out; (try rw [wrap64_of (show I64 ((k : Int) + 1) by unfold I64; omega)]); simp [intOf]; omega⟩
    · have hkn : k = l2.length := by omega
      subst hkn
      rw [List.drop_length, findFrom] at hgo
      subst hgo
      clear hk
      go_wp2
      go_ret
      exact ⟨rfl, HB.out⟩


/-! ### api_Sample_65: function 65 -/
set_option maxHeartbeats 4000000 in
set_option maxRecDepth 100000 in
theorem slices_ContainsFuncS.calls (K : Nat) (caps : Array Value) (p : S37 → Bool) (A2 : Option Addr) (c2 : Nat) (l2 : List S37) (w : World)
    (hent : ∀ (args : Array Value) (w : World), (callFunc K args).run Try.prog w = .ok (.enter K args) w)
    (hr2 : Kd.C k37 w A2 l2.length l2) (hc2 : l2.length ≤ c2)
    (hK : ∀ W (x : S37) A c, Below w.heap.size w W → Kd.C (Kd.int .i64) W A x.f0.length x.f0 → x.f0.length ≤ c →
      Calls Try.prog K (#[.agg #[.slice A x.f0.length c, .int .i64 x.f1]] ++ caps) W fun ed W' => ed = .returned (.bool (p x)) ∧ Below W.heap.size W W') :
    Calls Try.prog 65 #[.slice A2 l2.length c2, .func (.func K) #[] caps] w fun e w' => e = .returned (.bool (l2.any p)) ∧ Below w.heap.size w w' := by
  rw [← findFrom_any p l2 0]
  have H := Aside0.mk (slices_IndexFuncS.calls K caps p A2 c2 l2 w hent hr2 hc2 hK)
  clear hr2 hc2 hK
  generalize findFrom p l2 0 = r at H
  go_enter Try.func65, Try.ntmps65
  go_wp2_with (go_at_call 92; (with_reducible refine H.out.mono ?_); rintro ed W3 ⟨rfl, hb3⟩)
  go_ret
  exact ⟨rfl, hb3⟩


-- NOT PRINTED: function 83 (soft_Check_1)

-- NOT PRINTED: function 84 (soft_Check_2)

end Go.Proofs.Ytbnfejaeekljcaa.HD
