/- What Go functions do, each as a plain Lean function with the same answers, and the proof of it, in every world: printed by the session's driver over the kit's print, with texts by hand. -/
import Derived.Test.YtbnfejaeekljcaaHDx0
namespace Go.Proofs.Ytbnfejaeekljcaa.HD
open Go.RowKit Go.Proofs.YtbnfejaeekljcaaW.PrintWords Go.Proofs.YtbnfejaeekljcaaW.PrintLast Go.Proofs.YtbnfejaeekljcaaW.PrintMore
attribute [local go_sem] max2_int min2_int max_two min_two max_three min_three max_four min_four   -- for this text's walks alone
open Go.Proofs.Ytbnfejaeekljcaa.Sp
attribute [local go_sem] Go.Proofs.Ytbnfejaeekljcaa.Sp.u64_not
set_option linter.unusedVariables false
set_option linter.unusedSimpArgs false

/-! ### linear_Dim: function 69 -/
def linear_Dim.f (a0 : Int) : Option (Int × Int) := if a0 < 1 then (some (0, 1)) else (if a0 > 16 then (some (0, 1)) else (some (wrap64 (a0 + 1), 0)))
set_option maxHeartbeats 8000000 in
set_option maxRecDepth 100000 in
theorem linear_Dim.calls (a0 : Int) (r1 : Int) (r2 : Int) (w : World) (h : linear_Dim.f a0 = some (r1, r2)) :
  Calls Try.prog 69 #[.int .i64 a0] w fun e w' => e = .returned (.tuple #[.int .i64 r1, .int .i64 r2]) ∧ Drawn0 w w' := by
 have H : (if a0 < 1 then (some (0, 1)) else (if a0 > 16 then (some (0, 1)) else (some (wrap64 (a0 + 1), 0)))) = some (r1, r2) := h
 clear h
 by_cases c2 : a0 < 1
 ·
  rw [if_pos c2] at H
  have c2b0 : decide (a0 < 1) = true := decide_eq_true c2
  clear c2
  simp only [Option.some.injEq, Prod.mk.injEq] at H
  obtain ⟨rfl, rfl⟩ := H
  go_enter Try.func69, Try.ntmps69
  go_wp2
  go_ret2
  exact ⟨by first | rfl | (simp; done) | (simp [*]; done), by repeat (first | exact ddR _ | apply ddS)⟩
 ·
  rw [if_neg c2] at H
  have c2b0 : decide (a0 < 1) = false := decide_eq_false c2
  clear c2
  by_cases c3 : a0 > 16
  ·
   rw [if_pos c3] at H
   have c3b0 : decide (16 < a0) = true := decide_eq_true c3
   clear c3
   simp only [Option.some.injEq, Prod.mk.injEq] at H
   obtain ⟨rfl, rfl⟩ := H
   go_enter Try.func69, Try.ntmps69
   go_wp2
   go_ret2
   exact ⟨by first | rfl | (simp; done) | (simp [*]; done), by repeat (first | exact ddR _ | apply ddS)⟩
  ·
   rw [if_neg c3] at H
   have c3b0 : decide (16 < a0) = false := decide_eq_false c3
   clear c3
   simp only [Option.some.injEq, Prod.mk.injEq] at H
   obtain ⟨rfl, rfl⟩ := H
   go_enter Try.func69, Try.ntmps69
   go_wp2
   go_ret2
   exact ⟨by first | rfl | (simp; done) | (simp [*]; done), by repeat (first | exact ddR _ | apply ddS)⟩

/-- A sample, as a pair. -/
def sm (s : S37) : List Int × Int := (s.f0, s.f1)
/-- All of a sample's numbers have 64 bits. -/
def Sm64 (s : S37) : Prop := V64 s.f0 ∧ I64 s.f1
instance (s : S37) : Decidable (Sm64 s) := by unfold Sm64; infer_instance
theorem rd_sm {l : List S37} {i : Nat} (h : i < l.length) : rd_T37 l (i : Int) = l[i] := by simp [rd_T37, List.getD_eq_getElem?_getD, List.getElem?_eq_getElem h]
theorem linear_Dim.of (a0 : Int) : linear_Dim.f a0 = some (dimL a0) := by
  unfold linear_Dim.f dimL
  by_cases c : a0 < 1
  · rw [if_pos c, if_pos (.inl c)]
  · rw [if_neg c]
    by_cases c2 : a0 > 16
    · rw [if_pos c2, if_pos (.inr c2)]
    · rw [if_neg c2, if_neg (fun h => h.elim c c2), wrap64_of (by unfold I64; omega)]
/-- How samples are looked through. -/
def fitsGo (x0 : Int) (l : List S37) (n : Nat) (b : Bool) : Int := if b = true ∧ ∀ s ∈ l, (s.f0.length : Int) = x0 then (if n = 0 ∨ n > 64 then 1 else 0) else 4
theorem fitsGo_nil (x0 : Int) (n : Nat) : fitsGo x0 [] n true = if n = 0 ∨ n > 64 then 1 else 0 := by simp [fitsGo]
theorem fitsGo_false (x0 : Int) (l : List S37) (n : Nat) : fitsGo x0 l n false = 4 := by simp [fitsGo]
theorem fitsGo_cons (x0 : Int) (s : S37) (l : List S37) (n : Nat) : fitsGo x0 (s :: l) n true = fitsGo x0 l n ((s.f0.length : Int) == x0) := by
  by_cases c : (s.f0.length : Int) = x0
  · rw [beq_iff_eq.2 c]; simp [fitsGo, c]
  · rw [beq_eq_false_iff_ne.2 c]; simp [fitsGo, c]
theorem fits_sm (n : Int) (w : List Int) (l : List S37) : fitsL n w (l.map sm) ↔ ((w.length : Int) = n + 1 ∧ ∀ s ∈ l, (s.f0.length : Int) = n) := by
  unfold fitsL; simp [sm]
theorem checkL_sm (n : Int) (w : List Int) (l : List S37) : checkL n w (l.map sm) = if n < 1 ∨ n > 16 then 1 else fitsGo n l l.length ((w.length : Int) == n + 1) := by
  unfold checkL fitsGo
  rw [List.length_map]
  by_cases c : n < 1 ∨ n > 16
  · rw [if_pos c, if_pos c]
  · rw [if_neg c, if_neg c]
    by_cases c2 : (w.length : Int) = n + 1 ∧ ∀ s ∈ l, (s.f0.length : Int) = n
    · rw [if_neg (fun h => h ((fits_sm n w l).2 c2))]
      symm
      rw [if_pos (show ((w.length : Int) == n + 1) = true ∧ _ from ⟨beq_iff_eq.2 c2.1, c2.2⟩)]
    · rw [if_pos (fun h => c2 ((fits_sm n w l).1 h)), if_neg (fun h => c2 ⟨beq_iff_eq.1 h.1, h.2⟩)]


/-! ### model_straight_dim: function 116 -/
def model_straight_dim.f (a0_0 : Int) (a0_1 : Int) (a0_2 : Int) (a0_3 : Int) (a0_4 : Int) : Option (Int × Int) := (linear_Dim.f a0_1).bind fun bt102 => (some (bt102.1, bt102.2))
set_option maxHeartbeats 8000000 in
set_option maxRecDepth 100000 in
theorem model_straight_dim.calls (a0_0 : Int) (a0_1 : Int) (a0_2 : Int) (a0_3 : Int) (a0_4 : Int) (r1 : Int) (r2 : Int) (w : World) (h : model_straight_dim.f a0_0 a0_1 a0_2 a0_3 a0_4 = some (r1, r2)) :
  Calls Try.prog 116 #[.agg #[.int .i64 a0_0, .int .i64 a0_1, .int .i64 a0_2, .int .i64 a0_3, .int .i64 a0_4]] w fun e w' => e = .returned (.tuple #[.int .i64 r1, .int .i64 r2]) ∧ Below w.heap.size w w' := by
 have hu86 := Try.underlying86
 have HB := Aside0.mk (Below.refl w.heap.size w)
 have H : ((linear_Dim.f a0_1).bind fun bt102 => (some (bt102.1, bt102.2))) = some (r1, r2) := h
 clear h
 replace H := Option.bind_eq_some_iff.mp H
 obtain ⟨⟨t102, t103⟩, A20, H⟩ := H
 replace H : (some (t102, t103)) = some (r1, r2) := H
 have A2 := Aside0.mk A20
 clear A20
 simp only [Option.some.injEq, Prod.mk.injEq] at H
 obtain ⟨rfl, rfl⟩ := H
 go_enter Try.func116, Try.ntmps116
 go_wp2_with (first | ((with_reducible refine gate_dst (N := 1) rfl ?_); refine box_event ?hg (N := 1) ?hd (cs := #[.int .i64 a0_0, .int .i64 a0_1, .int .i64 a0_2, .int .i64 a0_3, .int .i64 a0_4]) (t := 86) ?hr ?_; (case hd => rfl); (case hg => rfl); (case hr => first | (go_simp; done) | (go_simp; rfl)); intro gb101 hg w3 hbox hb; have n0_ := Aside0.mk (zzT (by repeat (first | (with_reducible first | exact HB.out | apply zzA | apply zzN | apply zzD) | exact HB.out)) hb); have n1_ := Aside0.mk (hbox); have n2_ := Aside0.mk ((by rw [hg]; exact (zzS (by repeat (first | (with_reducible first | exact HB.out | apply zzA | apply zzN | apply zzD) | exact HB.out))) : w.heap.size ≤ gb101)); have n3_ := Aside0.mk ((by rw [hg]; exact (zzS (by repeat (first | (with_reducible first | exact HB.out | apply zzA | apply zzN | apply zzD) | exact HB.out))) : w.heap.size ≤ gb101)); clear HB; have HB := n0_; have BK101 := n1_; have GW101 := n2_; have GE101 := n3_; clear n0_ n1_ n2_ n3_; clear hb hbox hg; have hcz4_0 : w3.cell? ⟨gb101, 0, none⟩ = some (.int .i64 a0_0) := (blk_cell BK101.out 0).trans rfl; have hcz4_1 : w3.cell? ⟨gb101, 1, none⟩ = some (.int .i64 a0_1) := (blk_cell BK101.out 1).trans rfl; have hcz4_2 : w3.cell? ⟨gb101, 2, none⟩ = some (.int .i64 a0_2) := (blk_cell BK101.out 2).trans rfl; have hcz4_3 : w3.cell? ⟨gb101, 3, none⟩ = some (.int .i64 a0_3) := (blk_cell BK101.out 3).trans rfl; have hcz4_4 : w3.cell? ⟨gb101, 4, none⟩ = some (.int .i64 a0_4) := (blk_cell BK101.out 4).trans rfl; have hfz4_0 := blk_frozen BK101.out 0; have hfz4_1 := blk_frozen BK101.out 1; have hfz4_2 := blk_frozen BK101.out 2; have hfz4_3 := blk_frozen BK101.out 3; have hfz4_4 := blk_frozen BK101.out 4) | ((with_reducible refine gate_callee (f := 69) rfl ?_); refine goesL_ (some 7) rfl rfl Try.func69 (by kernel_rfl) rfl #[.int .i64 a0_1] rfl (by (try simp only [List.map_toArray, List.map_cons, List.map_nil]); first | done | rfl | (simp only [List.length_drop, List.length_take]; rfl)) ?_; (with_reducible refine (linear_Dim.calls a0_1 t102 t103 _ A2.out).mono ?_); rintro e w' ⟨rfl, ⟨nd, rfl⟩⟩; refine ⟨_, rfl, ?_⟩))
 go_ret2
 exact ⟨by first | rfl | (simp [errW_none, errW_some] <;> rfl) | (simp [*, errW_none, errW_some] <;> rfl), by repeat (first | (with_reducible first | exact HB.out | apply zzA | apply zzN | apply zzD | refine below_set ?_ GE101.out) | exact HB.out)⟩

/-! ### soft_classes: function 81 -/
def soft_classes.f (a0 : Int) : Option (Bool) := if a0 > 1 then (some (decide (a0 ≤ 8))) else (some false)
set_option maxHeartbeats 8000000 in
set_option maxRecDepth 100000 in
theorem soft_classes.calls (a0 : Int) (r : Bool) (w : World) (h : soft_classes.f a0 = some r) :
  Calls Try.prog 81 #[.int .i64 a0] w fun e w' => e = .returned (.bool r) ∧ Drawn0 w w' := by
 have H : (if a0 > 1 then (some (decide (a0 ≤ 8))) else (some false)) = some r := h
 clear h
 by_cases c2 : a0 > 1
 ·
  rw [if_pos c2] at H
  have c2b0 : decide (1 < a0) = true := decide_eq_true c2
  clear c2
  obtain rfl := Option.some.inj H
  go_enter Try.func81, Try.ntmps81
  go_wp2
  go_ret
  exact ⟨by first | rfl | (simp; done) | (simp [*]; done), by repeat (first | exact ddR _ | apply ddS)⟩
 ·
  rw [if_neg c2] at H
  have c2b0 : decide (1 < a0) = false := decide_eq_false c2
  clear c2
  obtain rfl := Option.some.inj H
  go_enter Try.func81, Try.ntmps81
  go_wp2
  go_ret
  exact ⟨by first | rfl | (simp; done) | (simp [*]; done), by repeat (first | exact ddR _ | apply ddS)⟩

/-! ### soft_Dim: function 82 -/
def soft_Dim.f (a0 : Int) (a1 : Int) : Option (Int × Int) := (linear_Dim.f a0).bind fun bt104 => (if bt104.2 = 0 then ((soft_classes.f a1).bind fun t106 => (if t106 = true then (some (wrap64 (bt104.1 * a1), 0)) else (some (0, 1)))) else (some (0, 1)))
set_option maxHeartbeats 8000000 in
set_option maxRecDepth 100000 in
theorem soft_Dim.calls (a0 : Int) (a1 : Int) (r1 : Int) (r2 : Int) (w : World) (h : soft_Dim.f a0 a1 = some (r1, r2)) :
  Calls Try.prog 82 #[.int .i64 a0, .int .i64 a1] w fun e w' => e = .returned (.tuple #[.int .i64 r1, .int .i64 r2]) ∧ Drawn0 w w' := by
 have H : ((linear_Dim.f a0).bind fun bt104 => (if bt104.2 = 0 then ((soft_classes.f a1).bind fun t106 => (if t106 = true then (some (wrap64 (bt104.1 * a1), 0)) else (some (0, 1)))) else (some (0, 1)))) = some (r1, r2) := h
 clear h
 replace H := Option.bind_eq_some_iff.mp H
 obtain ⟨⟨t104, t105⟩, A30, H⟩ := H
 replace H : (if t105 = 0 then ((soft_classes.f a1).bind fun t106 => (if t106 = true then (some (wrap64 (t104 * a1), 0)) else (some (0, 1)))) else (some (0, 1))) = some (r1, r2) := H
 have A3 := Aside0.mk A30
 clear A30
 by_cases c4 : t105 = 0
 ·
  rw [if_pos c4] at H
  have c4b0 : (t105 == 0) = true := beq_iff_eq.mpr c4
  have c4b1 : (t105 != 0) = false := bne_eq_false_iff_eq.mpr c4
  clear c4
  replace H := Option.bind_eq_some_iff.mp H
  obtain ⟨t106, A50, H⟩ := H
  replace H : (if t106 = true then (some (wrap64 (t104 * a1), 0)) else (some (0, 1))) = some (r1, r2) := H
  have A5 := Aside0.mk A50
  clear A50
  by_cases c6 : t106 = true
  ·
   subst c6
   have H1 : (some (wrap64 (t104 * a1), 0)) = some (r1, r2) := by rw [if_pos rfl] at H; exact H
   clear H
   have H := H1
   clear H1
   simp only [Option.some.injEq, Prod.mk.injEq] at H
   obtain ⟨rfl, rfl⟩ := H
   go_enter Try.func82, Try.ntmps82
   go_wp2_with (first | ((with_reducible refine gate_callee (f := 69) rfl ?_); refine goesL_ (some 10) rfl rfl Try.func69 (by kernel_rfl) rfl #[.int .i64 a0] rfl (by (try simp only [List.map_toArray, List.map_cons, List.map_nil]); first | done | rfl | (simp only [List.length_drop, List.length_take]; rfl)) ?_; (with_reducible refine (linear_Dim.calls a0 t104 t105 _ A3.out).mono ?_); rintro e w' ⟨rfl, ⟨nd, rfl⟩⟩; refine ⟨_, rfl, ?_⟩) | (go_at_call 81; (with_reducible refine (soft_classes.calls a1 true _ A5.out).mono ?_); rintro e w' ⟨rfl, ⟨nd, rfl⟩⟩))
   go_ret2
   exact ⟨by first | rfl | (simp; done) | (simp [*]; done), by repeat (first | exact ddR _ | apply ddS)⟩
  ·
   replace c6 := Bool.eq_false_iff.mpr c6
   subst c6
   have H1 : (some (0, 1)) = some (r1, r2) := by rw [if_neg (show ¬ (false = true) by decide)] at H; exact H
   clear H
   have H := H1
   clear H1
   simp only [Option.some.injEq, Prod.mk.injEq] at H
   obtain ⟨rfl, rfl⟩ := H
   go_enter Try.func82, Try.ntmps82
   go_wp2_with (first | ((with_reducible refine gate_callee (f := 69) rfl ?_); refine goesL_ (some 10) rfl rfl Try.func69 (by kernel_rfl) rfl #[.int .i64 a0] rfl (by (try simp only [List.map_toArray, List.map_cons, List.map_nil]); first | done | rfl | (simp only [List.length_drop, List.length_take]; rfl)) ?_; (with_reducible refine (linear_Dim.calls a0 t104 t105 _ A3.out).mono ?_); rintro e w' ⟨rfl, ⟨nd, rfl⟩⟩; refine ⟨_, rfl, ?_⟩) | (go_at_call 81; (with_reducible refine (soft_classes.calls a1 false _ A5.out).mono ?_); rintro e w' ⟨rfl, ⟨nd, rfl⟩⟩))
   go_ret2
   exact ⟨by first | rfl | (simp; done) | (simp [*]; done), by repeat (first | exact ddR _ | apply ddS)⟩
 ·
  rw [if_neg c4] at H
  have c4b0 : (t105 == 0) = false := beq_eq_false_iff_ne.mpr c4
  have c4b1 : (t105 != 0) = true := bne_iff_ne.mpr c4
  simp only [Option.some.injEq, Prod.mk.injEq] at H
  obtain ⟨rfl, rfl⟩ := H
  go_enter Try.func82, Try.ntmps82
  go_wp2_with (first | ((with_reducible refine gate_callee (f := 69) rfl ?_); refine goesL_ (some 10) rfl rfl Try.func69 (by kernel_rfl) rfl #[.int .i64 a0] rfl (by (try simp only [List.map_toArray, List.map_cons, List.map_nil]); first | done | rfl | (simp only [List.length_drop, List.length_take]; rfl)) ?_; (with_reducible refine (linear_Dim.calls a0 t104 t105 _ A3.out).mono ?_); rintro e w' ⟨rfl, ⟨nd, rfl⟩⟩; refine ⟨_, rfl, ?_⟩))
  go_ret2
  exact ⟨by first | rfl | (simp; done) | (simp [*]; done), by repeat (first | exact ddR _ | apply ddS)⟩

/-! ### model_classes_dim: function 121 -/
def model_classes_dim.f (a0_0 : Int) (a0_1 : Int) (a0_2 : Int) (a0_3 : Int) (a0_4 : Int) : Option (Int × Int) := (soft_Dim.f a0_1 a0_2).bind fun bt108 => (some (bt108.1, bt108.2))
set_option maxHeartbeats 8000000 in
set_option maxRecDepth 100000 in
theorem model_classes_dim.calls (a0_0 : Int) (a0_1 : Int) (a0_2 : Int) (a0_3 : Int) (a0_4 : Int) (r1 : Int) (r2 : Int) (w : World) (h : model_classes_dim.f a0_0 a0_1 a0_2 a0_3 a0_4 = some (r1, r2)) :
  Calls Try.prog 121 #[.agg #[.int .i64 a0_0, .int .i64 a0_1, .int .i64 a0_2, .int .i64 a0_3, .int .i64 a0_4]] w fun e w' => e = .returned (.tuple #[.int .i64 r1, .int .i64 r2]) ∧ Below w.heap.size w w' := by
 have hu87 := Try.underlying87
 have HB := Aside0.mk (Below.refl w.heap.size w)
 have H : ((soft_Dim.f a0_1 a0_2).bind fun bt108 => (some (bt108.1, bt108.2))) = some (r1, r2) := h
 clear h
 replace H := Option.bind_eq_some_iff.mp H
 obtain ⟨⟨t108, t109⟩, A20, H⟩ := H
 replace H : (some (t108, t109)) = some (r1, r2) := H
 have A2 := Aside0.mk A20
 clear A20
 simp only [Option.some.injEq, Prod.mk.injEq] at H
 obtain ⟨rfl, rfl⟩ := H
 go_enter Try.func121, Try.ntmps121
 go_wp2_with (first | ((with_reducible refine gate_dst (N := 1) rfl ?_); refine box_event ?hg (N := 1) ?hd (cs := #[.int .i64 a0_0, .int .i64 a0_1, .int .i64 a0_2, .int .i64 a0_3, .int .i64 a0_4]) (t := 87) ?hr ?_; (case hd => rfl); (case hg => rfl); (case hr => first | (go_simp; done) | (go_simp; rfl)); intro gb107 hg w3 hbox hb; have n0_ := Aside0.mk (zzT (by repeat (first | (with_reducible first | exact HB.out | apply zzA | apply zzN | apply zzD) | exact HB.out)) hb); have n1_ := Aside0.mk (hbox); have n2_ := Aside0.mk ((by rw [hg]; exact (zzS (by repeat (first | (with_reducible first | exact HB.out | apply zzA | apply zzN | apply zzD) | exact HB.out))) : w.heap.size ≤ gb107)); have n3_ := Aside0.mk ((by rw [hg]; exact (zzS (by repeat (first | (with_reducible first | exact HB.out | apply zzA | apply zzN | apply zzD) | exact HB.out))) : w.heap.size ≤ gb107)); clear HB; have HB := n0_; have BK107 := n1_; have GW107 := n2_; have GE107 := n3_; clear n0_ n1_ n2_ n3_; clear hb hbox hg; have hcz4_0 : w3.cell? ⟨gb107, 0, none⟩ = some (.int .i64 a0_0) := (blk_cell BK107.out 0).trans rfl; have hcz4_1 : w3.cell? ⟨gb107, 1, none⟩ = some (.int .i64 a0_1) := (blk_cell BK107.out 1).trans rfl; have hcz4_2 : w3.cell? ⟨gb107, 2, none⟩ = some (.int .i64 a0_2) := (blk_cell BK107.out 2).trans rfl; have hcz4_3 : w3.cell? ⟨gb107, 3, none⟩ = some (.int .i64 a0_3) := (blk_cell BK107.out 3).trans rfl; have hcz4_4 : w3.cell? ⟨gb107, 4, none⟩ = some (.int .i64 a0_4) := (blk_cell BK107.out 4).trans rfl; have hfz4_0 := blk_frozen BK107.out 0; have hfz4_1 := blk_frozen BK107.out 1; have hfz4_2 := blk_frozen BK107.out 2; have hfz4_3 := blk_frozen BK107.out 3; have hfz4_4 := blk_frozen BK107.out 4) | ((with_reducible refine gate_callee (f := 82) rfl ?_); refine goesL_ (some 10) rfl rfl Try.func82 (by kernel_rfl) rfl #[.int .i64 a0_1, .int .i64 a0_2] rfl (by (try simp only [List.map_toArray, List.map_cons, List.map_nil]); first | done | rfl | (simp only [List.length_drop, List.length_take]; rfl)) ?_; (with_reducible refine (soft_Dim.calls a0_1 a0_2 t108 t109 _ A2.out).mono ?_); rintro e w' ⟨rfl, ⟨nd, rfl⟩⟩; refine ⟨_, rfl, ?_⟩))
 go_ret2
 exact ⟨by first | rfl | (simp [errW_none, errW_some] <;> rfl) | (simp [*, errW_none, errW_some] <;> rfl), by repeat (first | (with_reducible first | exact HB.out | apply zzA | apply zzN | apply zzD | refine below_set ?_ GE107.out) | exact HB.out)⟩

/-! ### mlp_hides: function 62 -/
def mlp_hides.f (a0 : Int) : Option (Bool) := if a0 > 0 then (some (decide (a0 ≤ 8))) else (some false)
set_option maxHeartbeats 8000000 in
set_option maxRecDepth 100000 in
theorem mlp_hides.calls (a0 : Int) (r : Bool) (w : World) (h : mlp_hides.f a0 = some r) :
  Calls Try.prog 62 #[.int .i64 a0] w fun e w' => e = .returned (.bool r) ∧ Drawn0 w w' := by
 have H : (if a0 > 0 then (some (decide (a0 ≤ 8))) else (some false)) = some r := h
 clear h
 by_cases c2 : a0 > 0
 ·
  rw [if_pos c2] at H
  have c2b0 : decide (0 < a0) = true := decide_eq_true c2
  clear c2
  obtain rfl := Option.some.inj H
  go_enter Try.func62, Try.ntmps62
  go_wp2
  go_ret
  exact ⟨by first | rfl | (simp; done) | (simp [*]; done), by repeat (first | exact ddR _ | apply ddS)⟩
 ·
  rw [if_neg c2] at H
  have c2b0 : decide (0 < a0) = false := decide_eq_false c2
  clear c2
  obtain rfl := Option.some.inj H
  go_enter Try.func62, Try.ntmps62
  go_wp2
  go_ret
  exact ⟨by first | rfl | (simp; done) | (simp [*]; done), by repeat (first | exact ddR _ | apply ddS)⟩

/-! ### mlp_Dim: function 63 -/
def mlp_Dim.f (a0 : Int) (a1 : Int) : Option (Int × Int) := (linear_Dim.f a0).bind fun bt110 => (if bt110.2 = 0 then ((mlp_hides.f a1).bind fun t112 => (if t112 = true then (some (wrap64 ((wrap64 ((wrap64 (a1 * bt110.1)) + a1)) + 1), 0)) else (some (0, 1)))) else (some (0, 1)))
set_option maxHeartbeats 8000000 in
set_option maxRecDepth 100000 in
theorem mlp_Dim.calls (a0 : Int) (a1 : Int) (r1 : Int) (r2 : Int) (w : World) (h : mlp_Dim.f a0 a1 = some (r1, r2)) :
  Calls Try.prog 63 #[.int .i64 a0, .int .i64 a1] w fun e w' => e = .returned (.tuple #[.int .i64 r1, .int .i64 r2]) ∧ Drawn0 w w' := by
 have H : ((linear_Dim.f a0).bind fun bt110 => (if bt110.2 = 0 then ((mlp_hides.f a1).bind fun t112 => (if t112 = true then (some (wrap64 ((wrap64 ((wrap64 (a1 * bt110.1)) + a1)) + 1), 0)) else (some (0, 1)))) else (some (0, 1)))) = some (r1, r2) := h
 clear h
 replace H := Option.bind_eq_some_iff.mp H
 obtain ⟨⟨t110, t111⟩, A30, H⟩ := H
 replace H : (if t111 = 0 then ((mlp_hides.f a1).bind fun t112 => (if t112 = true then (some (wrap64 ((wrap64 ((wrap64 (a1 * t110)) + a1)) + 1), 0)) else (some (0, 1)))) else (some (0, 1))) = some (r1, r2) := H
 have A3 := Aside0.mk A30
 clear A30
 by_cases c4 : t111 = 0
 ·
  rw [if_pos c4] at H
  have c4b0 : (t111 == 0) = true := beq_iff_eq.mpr c4
  have c4b1 : (t111 != 0) = false := bne_eq_false_iff_eq.mpr c4
  clear c4
  replace H := Option.bind_eq_some_iff.mp H
  obtain ⟨t112, A50, H⟩ := H
  replace H : (if t112 = true then (some (wrap64 ((wrap64 ((wrap64 (a1 * t110)) + a1)) + 1), 0)) else (some (0, 1))) = some (r1, r2) := H
  have A5 := Aside0.mk A50
  clear A50
  by_cases c6 : t112 = true
  ·
   subst c6
   have H1 : (some (wrap64 ((wrap64 ((wrap64 (a1 * t110)) + a1)) + 1), 0)) = some (r1, r2) := by rw [if_pos rfl] at H; exact H
   clear H
   have H := H1
   clear H1
   simp only [Option.some.injEq, Prod.mk.injEq] at H
   obtain ⟨rfl, rfl⟩ := H
   go_enter Try.func63, Try.ntmps63
   go_wp2_with (first | ((with_reducible refine gate_callee (f := 69) rfl ?_); refine goesL_ (some 10) rfl rfl Try.func69 (by kernel_rfl) rfl #[.int .i64 a0] rfl (by (try simp only [List.map_toArray, List.map_cons, List.map_nil]); first | done | rfl | (simp only [List.length_drop, List.length_take]; rfl)) ?_; (with_reducible refine (linear_Dim.calls a0 t110 t111 _ A3.out).mono ?_); rintro e w' ⟨rfl, ⟨nd, rfl⟩⟩; refine ⟨_, rfl, ?_⟩) | (go_at_call 62; (with_reducible refine (mlp_hides.calls a1 true _ A5.out).mono ?_); rintro e w' ⟨rfl, ⟨nd, rfl⟩⟩))
   go_ret2
   exact ⟨by first | rfl | (simp; done) | (simp [*]; done), by repeat (first | exact ddR _ | apply ddS)⟩
  ·
   replace c6 := Bool.eq_false_iff.mpr c6
   subst c6
   have H1 : (some (0, 1)) = some (r1, r2) := by rw [if_neg (show ¬ (false = true) by decide)] at H; exact H
   clear H
   have H := H1
   clear H1
   simp only [Option.some.injEq, Prod.mk.injEq] at H
   obtain ⟨rfl, rfl⟩ := H
   go_enter Try.func63, Try.ntmps63
   go_wp2_with (first | ((with_reducible refine gate_callee (f := 69) rfl ?_); refine goesL_ (some 10) rfl rfl Try.func69 (by kernel_rfl) rfl #[.int .i64 a0] rfl (by (try simp only [List.map_toArray, List.map_cons, List.map_nil]); first | done | rfl | (simp only [List.length_drop, List.length_take]; rfl)) ?_; (with_reducible refine (linear_Dim.calls a0 t110 t111 _ A3.out).mono ?_); rintro e w' ⟨rfl, ⟨nd, rfl⟩⟩; refine ⟨_, rfl, ?_⟩) | (go_at_call 62; (with_reducible refine (mlp_hides.calls a1 false _ A5.out).mono ?_); rintro e w' ⟨rfl, ⟨nd, rfl⟩⟩))
   go_ret2
   exact ⟨by first | rfl | (simp; done) | (simp [*]; done), by repeat (first | exact ddR _ | apply ddS)⟩
 ·
  rw [if_neg c4] at H
  have c4b0 : (t111 == 0) = false := beq_eq_false_iff_ne.mpr c4
  have c4b1 : (t111 != 0) = true := bne_iff_ne.mpr c4
  simp only [Option.some.injEq, Prod.mk.injEq] at H
  obtain ⟨rfl, rfl⟩ := H
  go_enter Try.func63, Try.ntmps63
  go_wp2_with (first | ((with_reducible refine gate_callee (f := 69) rfl ?_); refine goesL_ (some 10) rfl rfl Try.func69 (by kernel_rfl) rfl #[.int .i64 a0] rfl (by (try simp only [List.map_toArray, List.map_cons, List.map_nil]); first | done | rfl | (simp only [List.length_drop, List.length_take]; rfl)) ?_; (with_reducible refine (linear_Dim.calls a0 t110 t111 _ A3.out).mono ?_); rintro e w' ⟨rfl, ⟨nd, rfl⟩⟩; refine ⟨_, rfl, ?_⟩))
  go_ret2
  exact ⟨by first | rfl | (simp; done) | (simp [*]; done), by repeat (first | exact ddR _ | apply ddS)⟩

theorem mlp_Dim.is (a0 a1 : Int) : mlp_Dim.f a0 a1 = some (dimM a0 a1) := by
  unfold dimM
  by_cases c : a0 < 1 ∨ a0 > 16 ∨ badHid a1
  · rw [if_pos c]
    unfold mlp_Dim.f linear_Dim.f mlp_hides.f
    by_cases c1 : a0 < 1
    · rw [if_pos c1, Option.bind_some, if_neg (by decide)]
    · rw [if_neg c1]
      by_cases c2 : a0 > 16
      · rw [if_pos c2, Option.bind_some, if_neg (by decide)]
      · rw [if_neg c2, Option.bind_some, if_pos rfl]
        have hb : badHid a1 := c.elim (fun h => absurd h c1) (fun h => h.elim (fun h => absurd h c2) id)
        unfold badHid at hb
        by_cases c3 : a1 > 0
        · rw [if_pos c3, Option.bind_some, decide_eq_false (by omega), if_neg (by decide)]
        · rw [if_neg c3, Option.bind_some, if_neg (by decide)]
  · rw [if_neg c]
    have hb : ¬ badHid a1 := fun h => c (.inr (.inr h))
    obtain ⟨k, rfl, h1, h8⟩ := badHid_not hb
    unfold mlp_Dim.f linear_Dim.f mlp_hides.f
    have hm : (k : Int) * (a0 + 1) ≤ 8 * 17 := Int.mul_le_mul (by omega) (by omega) (by omega) (by omega)
    have h0 : 0 ≤ (k : Int) * (a0 + 1) := Int.mul_nonneg (by omega) (by omega)
    have e1 : wrap64 (a0 + 1) = a0 + 1 := wrap64_of (by unfold I64; omega)
    rw [if_neg (by omega), if_neg (by omega), e1, Option.bind_some, if_pos rfl, if_pos (show (k : Int) > 0 by omega), Option.bind_some, if_pos (decide_eq_true (by omega))]
    show some (wrap64 (wrap64 (wrap64 ((k : Int) * (a0 + 1)) + k) + 1), 0) = _
    generalize (k : Int) * (a0 + 1) = p at hm h0 ⊢
    rw [wrap64_of (show I64 p by unfold I64; omega), wrap64_of (show I64 (p + k) by unfold I64; omega), wrap64_of (show I64 (p + k + 1) by unfold I64; omega)]


/-! ### model_layers_dim: function 125 -/
def model_layers_dim.f (a0_0 : Int) (a0_1 : Int) (a0_2 : Int) (a0_3 : Int) (a0_4 : Int) : Option (Int × Int) := (mlp_Dim.f a0_1 a0_3).bind fun bt114 => (some (bt114.1, bt114.2))
set_option maxHeartbeats 8000000 in
set_option maxRecDepth 100000 in
theorem model_layers_dim.calls (a0_0 : Int) (a0_1 : Int) (a0_2 : Int) (a0_3 : Int) (a0_4 : Int) (r1 : Int) (r2 : Int) (w : World) (h : model_layers_dim.f a0_0 a0_1 a0_2 a0_3 a0_4 = some (r1, r2)) :
  Calls Try.prog 125 #[.agg #[.int .i64 a0_0, .int .i64 a0_1, .int .i64 a0_2, .int .i64 a0_3, .int .i64 a0_4]] w fun e w' => e = .returned (.tuple #[.int .i64 r1, .int .i64 r2]) ∧ Below w.heap.size w w' := by
 have hu88 := Try.underlying88
 have HB := Aside0.mk (Below.refl w.heap.size w)
 have H : ((mlp_Dim.f a0_1 a0_3).bind fun bt114 => (some (bt114.1, bt114.2))) = some (r1, r2) := h
 clear h
 replace H := Option.bind_eq_some_iff.mp H
 obtain ⟨⟨t114, t115⟩, A20, H⟩ := H
 replace H : (some (t114, t115)) = some (r1, r2) := H
 have A2 := Aside0.mk A20
 clear A20
 simp only [Option.some.injEq, Prod.mk.injEq] at H
 obtain ⟨rfl, rfl⟩ := H
 go_enter Try.func125, Try.ntmps125
 go_wp2_with (first | ((with_reducible refine gate_dst (N := 1) rfl ?_); refine box_event ?hg (N := 1) ?hd (cs := #[.int .i64 a0_0, .int .i64 a0_1, .int .i64 a0_2, .int .i64 a0_3, .int .i64 a0_4]) (t := 88) ?hr ?_; (case hd => rfl); (case hg => rfl); (case hr => first | (go_simp; done) | (go_simp; rfl)); intro gb113 hg w3 hbox hb; have n0_ := Aside0.mk (zzT (by repeat (first | (with_reducible first | exact HB.out | apply zzA | apply zzN | apply zzD) | exact HB.out)) hb); have n1_ := Aside0.mk (hbox); have n2_ := Aside0.mk ((by rw [hg]; exact (zzS (by repeat (first | (with_reducible first | exact HB.out | apply zzA | apply zzN | apply zzD) | exact HB.out))) : w.heap.size ≤ gb113)); have n3_ := Aside0.mk ((by rw [hg]; exact (zzS (by repeat (first | (with_reducible first | exact HB.out | apply zzA | apply zzN | apply zzD) | exact HB.out))) : w.heap.size ≤ gb113)); clear HB; have HB := n0_; have BK113 := n1_; have GW113 := n2_; have GE113 := n3_; clear n0_ n1_ n2_ n3_; clear hb hbox hg; have hcz4_0 : w3.cell? ⟨gb113, 0, none⟩ = some (.int .i64 a0_0) := (blk_cell BK113.out 0).trans rfl; have hcz4_1 : w3.cell? ⟨gb113, 1, none⟩ = some (.int .i64 a0_1) := (blk_cell BK113.out 1).trans rfl; have hcz4_2 : w3.cell? ⟨gb113, 2, none⟩ = some (.int .i64 a0_2) := (blk_cell BK113.out 2).trans rfl; have hcz4_3 : w3.cell? ⟨gb113, 3, none⟩ = some (.int .i64 a0_3) := (blk_cell BK113.out 3).trans rfl; have hcz4_4 : w3.cell? ⟨gb113, 4, none⟩ = some (.int .i64 a0_4) := (blk_cell BK113.out 4).trans rfl; have hfz4_0 := blk_frozen BK113.out 0; have hfz4_1 := blk_frozen BK113.out 1; have hfz4_2 := blk_frozen BK113.out 2; have hfz4_3 := blk_frozen BK113.out 3; have hfz4_4 := blk_frozen BK113.out 4) | ((with_reducible refine gate_callee (f := 63) rfl ?_); refine goesL_ (some 10) rfl rfl Try.func63 (by kernel_rfl) rfl #[.int .i64 a0_1, .int .i64 a0_3] rfl (by (try simp only [List.map_toArray, List.map_cons, List.map_nil]); first | done | rfl | (simp only [List.length_drop, List.length_take]; rfl)) ?_; (with_reducible refine (mlp_Dim.calls a0_1 a0_3 t114 t115 _ A2.out).mono ?_); rintro e w' ⟨rfl, ⟨nd, rfl⟩⟩; refine ⟨_, rfl, ?_⟩))
 go_ret2
 exact ⟨by first | rfl | (simp [errW_none, errW_some] <;> rfl) | (simp [*, errW_none, errW_some] <;> rfl), by repeat (first | (with_reducible first | exact HB.out | apply zzA | apply zzN | apply zzD | refine below_set ?_ GE113.out) | exact HB.out)⟩

/-! ### api_Sample_92: function 92 -/
/-- The first one's place of which p is true, counted from k on, or -1. -/
def findFrom {α : Type} (p : α → Bool) : List α → Nat → Int
  | [], _ => -1
  | x :: l, k => if p x = true then (k : Int) else findFrom p l (k + 1)
theorem findFrom_any {α : Type} (p : α → Bool) : ∀ (l : List α) (k : Nat), decide (0 ≤ findFrom p l k) = l.any p
  | [], k => rfl
  | x :: l, k => by
    rw [findFrom, List.any_cons]
    by_cases c : p x = true
    · rw [if_pos c, c, Bool.true_or, decide_eq_true (by omega)]
    · rw [if_neg c, Bool.eq_false_iff.2 c, Bool.false_or]
      exact findFrom_any p l (k + 1)
set_option maxHeartbeats 4000000 in
set_option maxRecDepth 100000 in
theorem slices_IndexFuncS.calls (K : Nat) (caps : Array Value) (p : S37 → Bool) (A2 : Option Addr) (c2 : Nat) (l2 : List S37) (w : World)
    (hent : ∀ (args : Array Value) (w : World), (callFunc K args).run Try.prog w = .ok (.enter K args) w)
    (hr2 : Kd.C k37 w A2 l2.length l2) (hc2 : l2.length ≤ c2)
    (hK : ∀ W (x : S37) A c, Below w.heap.size w W → Kd.C (Kd.int .i64) W A x.f0.length x.f0 → x.f0.length ≤ c →
      Calls Try.prog K (#[.agg #[.slice A x.f0.length c, .int .i64 x.f1]] ++ caps) W fun ed W' => ed = .returned (.bool (p x)) ∧ Below W.heap.size W W') :
    Calls Try.prog 92 #[.slice A2 l2.length c2, .func (.func K) #[] caps] w fun e w' => e = .returned (.int .i64 (findFrom p l2 0)) ∧ Below w.heap.size w w' := by
  have hu := Try.underlying37
  have HR2 := Aside0.mk hr2
  have HC2 := Aside0.mk hc2
  have HK := Aside0.mk hK
  have hmx := Kd.C_max hr2
  have HM := Aside0.mk hmx
  have HB := Aside0.mk (Below.refl w.heap.size w)
  obtain ⟨res, hres⟩ : ∃ r, findFrom p l2 0 = r := ⟨_, rfl⟩
  rw [hres]
  have HG := Aside0.mk hres
  clear hr2 hc2 hK hmx hres
  go_enter Try.func92, Try.ntmps92
  go_wp2_with fail
  go_loopw [8] (fun vi W => ∃ (k : Nat), vi = .int .i64 k ∧ Aside0 (k ≤ l2.length) ∧ Aside0 (findFrom p (l2.drop k) k = res) ∧ Aside0 (Below w.heap.size w W)) (fun i _ => l2.length - (intOf i).toNat)
  case atStart => exact ⟨0, rfl, ⟨Nat.zero_le _⟩, ⟨by rw [List.drop_zero]; exact HG.out⟩, HB⟩
  case round =>
    obtain ⟨k, rfl, ⟨hk⟩, ⟨hgo⟩, HB⟩ := hrel
    clear HG
    by_cases hlt : k < l2.length
    · have hM := HM.out
      obtain ⟨ad, A, c, rfl, hx0, hx1, hl, hi⟩ := at_T37 HR2.out (k : Int) (by omega) (by omega)
      obtain ⟨x, hx⟩ : ∃ x, rd_T37 l2 (k : Int) = x := ⟨_, rfl⟩
      have hmem : l2[k] = x := (rd_sm hlt).symm.trans hx
      rw [hx] at hx0 hx1 hl hi
      simp only [Int.toNat_natCast] at hx0 hx1
      replace hx0 := (HB.out.cell (World.block_lt_of_cell? _ _ hx0)).trans hx0
      replace hx1 := (HB.out.cell (World.block_lt_of_cell? _ _ hx1)).trans hx1
      have HRX := Aside0.mk hi
      have HCX := Aside0.mk hl
      have HLT := Aside0.mk hlt
      rw [List.drop_eq_getElem_cons hlt, hmem, findFrom] at hgo
      clear hl hi hx hmem hk
      by_cases hp : p x = true
      · rw [if_pos hp] at hgo
        subst hgo
        go_wp2_with (go_at_fn K; refine (HK.out _ x A c HB.out (Kd.C_below HRX.out HB.out) HCX.out).mono ?_; rintro ed W3 ⟨rfl, hb3⟩; rw [hp]; have HB3 := Aside0.mk (below_then HB.out HB.out.size hb3); clear hb3)
        go_ret
        exact ⟨rfl, HB3.out⟩
      · rw [if_neg hp] at hgo
        have HG := Aside0.mk hgo
        have hpf : p x = false := Bool.eq_false_iff.2 hp
        clear hgo hp
        go_wp2_with (go_at_fn K; refine (HK.out _ x A c HB.out (Kd.C_below HRX.out HB.out) HCX.out).mono ?_; rintro ed W3 ⟨rfl, hb3⟩; rw [hpf]; have HB3 := Aside0.mk (below_then HB.out HB.out.size hb3); clear hb3)
        exact ⟨⟨k + 1, by first | rfl | (rw [wrap64_of (show I64 ((k : Int) + 1) by unfold I64; omega)]; rfl), ⟨HLT.out⟩, HG, HB3⟩, by have := HLT.out; have := HM.out; (try rw [wrap64_of (show I64 ((k : Int) + 1) by unfold I64; omega)]); simp [intOf]; omega⟩
    · have hkn : k = l2.length := by omega
      subst hkn
      rw [List.drop_length, findFrom] at hgo
      subst hgo
      clear hk
      go_wp2
      go_ret
      exact ⟨rfl, HB.out⟩


/-! ### api_Sample_65: function 65 -/
set_option maxHeartbeats 4000000 in
set_option maxRecDepth 100000 in
theorem slices_ContainsFuncS.calls (K : Nat) (caps : Array Value) (p : S37 → Bool) (A2 : Option Addr) (c2 : Nat) (l2 : List S37) (w : World)
    (hent : ∀ (args : Array Value) (w : World), (callFunc K args).run Try.prog w = .ok (.enter K args) w)
    (hr2 : Kd.C k37 w A2 l2.length l2) (hc2 : l2.length ≤ c2)
    (hK : ∀ W (x : S37) A c, Below w.heap.size w W → Kd.C (Kd.int .i64) W A x.f0.length x.f0 → x.f0.length ≤ c →
      Calls Try.prog K (#[.agg #[.slice A x.f0.length c, .int .i64 x.f1]] ++ caps) W fun ed W' => ed = .returned (.bool (p x)) ∧ Below W.heap.size W W') :
    Calls Try.prog 65 #[.slice A2 l2.length c2, .func (.func K) #[] caps] w fun e w' => e = .returned (.bool (l2.any p)) ∧ Below w.heap.size w w' := by
  rw [← findFrom_any p l2 0]
  have H := Aside0.mk (slices_IndexFuncS.calls K caps p A2 c2 l2 w hent hr2 hc2 hK)
  clear hr2 hc2 hK
  generalize findFrom p l2 0 = r at H
  go_enter Try.func65, Try.ntmps65
  go_wp2_with (go_at_call 92; (with_reducible refine H.out.mono ?_); rintro ed W3 ⟨rfl, hb3⟩)
  go_ret
  exact ⟨rfl, hb3⟩


-- NOT PRINTED: function 83 (soft_Check_1)

-- NOT PRINTED: function 84 (soft_Check_2)

/-! ### soft_Check: function 57 -/
set_option maxHeartbeats 4000000 in
set_option maxRecDepth 100000 in
theorem soft_Check_1.calls (b1 : Nat) (A : Option Addr) (c : Nat) (x : List Int) (y n : Int) (W : World) (hb : W.heap[b1]? = some (.cells #[.int .i64 n] 3 (0, 0))) :
    Calls Try.prog 83 (#[.agg #[.slice A x.length c, .int .i64 y]] ++ #[.pointer (some ⟨b1, 0, none⟩)]) W fun ed W' => ed = .returned (.bool ((x.length : Int) != n)) ∧ Below W.heap.size W W' := by
  have hu := Try.underlying37
  have hlt := blk_lt hb
  have hc : W.cell? ⟨b1, 0, none⟩ = some (.int .i64 n) := (blk_cell hb 0).trans rfl
  go_enter Try.func83, Try.ntmps83
  go_wp2
  go_ret
  exact ⟨rfl, zzA (Below.refl _ _) _⟩
set_option maxHeartbeats 4000000 in
set_option maxRecDepth 100000 in
theorem soft_Check_2.calls (b1 : Nat) (A : Option Addr) (c : Nat) (x : List Int) (y n : Int) (W : World) (hb : W.heap[b1]? = some (.cells #[.int .i64 n] 3 (0, 0))) :
    Calls Try.prog 84 (#[.agg #[.slice A x.length c, .int .i64 y]] ++ #[.pointer (some ⟨b1, 0, none⟩)]) W fun ed W' => ed = .returned (.bool (decide (y < 0 ∨ y ≥ n))) ∧ Below W.heap.size W W' := by
  have hu := Try.underlying37
  have hlt := blk_lt hb
  have hc : W.cell? ⟨b1, 0, none⟩ = some (.int .i64 n) := (blk_cell hb 0).trans rfl
  by_cases c1 : y < 0
  · rw [decide_eq_true (.inl c1 : y < 0 ∨ y ≥ n)]
    go_enter Try.func84, Try.ntmps84
    go_wp2
    go_ret
    exact ⟨rfl, zzA (Below.refl _ _) _⟩
  · by_cases c2 : y ≥ n
    · rw [decide_eq_true (.inr c2 : y < 0 ∨ y ≥ n)]
      go_enter Try.func84, Try.ntmps84
      go_wp2
      go_ret
      exact ⟨rfl, zzA (Below.refl _ _) _⟩
    · rw [decide_eq_false (show ¬ (y < 0 ∨ y ≥ n) from fun h => h.elim c1 c2)]
      go_enter Try.func84, Try.ntmps84
      go_wp2
      go_ret
      exact ⟨rfl, zzA (Below.refl _ _) _⟩
def soft_Check.f (a0 a1 : Int) (l2 : List Int) (l3 : List S37) : Option Int := some (checkS a0 a1 l2 (l3.map sm))
theorem dimS_bad {n out : Int} (h : (dimS n out).2 ≠ 0) : (dimS n out).2 = 1 := by
  unfold dimS at h ⊢
  split
  · rfl
  · rename_i c; rw [if_neg c] at h; exact absurd rfl h
theorem checkS_any (a0 a1 : Int) (l2 : List Int) (l3 : List S37) : checkS a0 a1 l2 (l3.map sm) =
    if (dimS a0 a1).2 ≠ 0 then 1 else if (l2.length : Int) ≠ (dimS a0 a1).1 ∨ (l3.any fun s => (s.f0.length : Int) != a0) = true then 4 else
    if l3.length = 0 ∨ l3.length > 64 ∨ (l3.any fun s => decide (s.f1 < 0 ∨ s.f1 ≥ a1)) = true then 1 else 0 := by
  unfold checkS
  have h1 : (¬ ∀ s ∈ l3.map sm, (s.1.length : Int) = a0) ↔ (l3.any fun s => (s.f0.length : Int) != a0) = true := by
    simp [List.any_eq_true, sm]
  have h2 : (¬ ∀ s ∈ l3.map sm, 0 ≤ s.2 ∧ s.2 < a1) ↔ (l3.any fun s => decide (s.f1 < 0 ∨ s.f1 ≥ a1)) = true := by
    simp only [List.any_eq_true, decide_eq_true_eq, List.mem_map, sm]
    constructor
    · intro h
      apply Classical.byContradiction
      intro hn
      refine h ?_
      rintro s ⟨t, ht, rfl⟩
      refine ⟨?_, ?_⟩
      · apply Classical.byContradiction; intro hc; exact hn ⟨t, ht, .inl (by simp only at hc; omega)⟩
      · apply Classical.byContradiction; intro hc; exact hn ⟨t, ht, .inr (by simp only at hc; omega)⟩
    · rintro ⟨t, ht, hc⟩ h
      have := h _ ⟨t, ht, rfl⟩
      simp only at this
      omega
  rw [List.length_map]
  simp only [h1, h2]
theorem soft_Dim.is (a0 a1 : Int) : soft_Dim.f a0 a1 = some (dimS a0 a1) := by
  unfold soft_Dim.f linear_Dim.f soft_classes.f dimS badOut
  by_cases c1 : a0 < 1
  · rw [if_pos c1, if_pos (show a0 < 1 ∨ a0 > 16 ∨ a1 < 2 ∨ a1 > 8 from .inl c1)]; rfl
  · rw [if_neg c1]
    by_cases c2 : a0 > 16
    · rw [if_pos c2, if_pos (show a0 < 1 ∨ a0 > 16 ∨ a1 < 2 ∨ a1 > 8 from .inr (.inl c2))]; rfl
    · rw [if_neg c2]
      rw [Option.bind_some, if_pos rfl]
      by_cases c3 : a1 > 1
      · rw [if_pos c3, Option.bind_some]
        by_cases c4 : a1 ≤ 8
        · rw [if_pos (decide_eq_true c4), if_neg (show ¬ (a0 < 1 ∨ a0 > 16 ∨ a1 < 2 ∨ a1 > 8) by omega)]
          have h1 : 0 ≤ (a0 + 1) * a1 := Int.mul_nonneg (by omega) (by omega)
          have h2 : (a0 + 1) * a1 ≤ 17 * 8 := Int.mul_le_mul (by omega) c4 (by omega) (by omega)
          simp only []
          rw [wrap64_of (x := a0 + 1) (by unfold I64; omega), wrap64_of (by unfold I64; omega)]
        · rw [if_neg (by simpa using c4), if_pos (show a0 < 1 ∨ a0 > 16 ∨ a1 < 2 ∨ a1 > 8 by omega)]
      · rw [if_neg c3, Option.bind_some, if_neg (by decide), if_pos (show a0 < 1 ∨ a0 > 16 ∨ a1 < 2 ∨ a1 > 8 by omega)]
set_option maxHeartbeats 8000000 in
set_option maxRecDepth 100000 in
theorem soft_Check.calls (a0 : Int) (a1 : Int) (A2 : Option Addr) (c2 : Nat) (l2 : List Int) (A3 : Option Addr) (c3 : Nat) (l3 : List (S37)) (r : Int) (w : World) (hr2 : Kd.C (Kd.int .i64) w A2 l2.length l2) (hc2 : l2.length ≤ c2) (hr3 : Kd.C k37 w A3 l3.length l3) (hc3 : l3.length ≤ c3) (h : soft_Check.f a0 a1 l2 l3 = some r) :
    Calls Try.prog 57 #[.int .i64 a0, .int .i64 a1, .slice A2 l2.length c2, .slice A3 l3.length c3] w fun e w' => e = .returned (.int .i64 r) ∧ Below w.heap.size w w' := by
  have hu := Try.underlying26
  have h := Option.some.inj h
  rw [checkS_any] at h
  have A0 := soft_Dim.is a0 a1
  have hd1 := @dimS_bad a0 a1
  generalize dimS a0 a1 = p at A0 h hd1
  obtain ⟨d, e⟩ := p
  simp only [] at h hd1
  have A0 := Aside0.mk A0
  have HR3 := Aside0.mk hr3
  have HC3 := Aside0.mk hc3
  have hB2 : Below w.heap.size w ((w.alloc (.cells #[.int .i64 a0] 3)).alloc (.cells #[.int .i64 a1] 3)) := zzA (zzA (Below.refl _ _) _) _
  have HB := Aside0.mk hB2
  have bI := Aside0.mk (Boxed.alloc (Boxed.new w 3 (.int .i64 a0)) (.cells #[.int .i64 a1] 3))
  have bO := Boxed.new (w.alloc (.cells #[.int .i64 a0] 3)) 3 (.int .i64 a1)
  rw [World.size_alloc] at bO
  have BO := Aside0.mk bO
  clear hr3 hc3 hB2 bO
  have hci := bI.out.cell
  have hco := BO.out.cell
  by_cases he : e = 0
  · rw [if_neg (not_not_intro he)] at h
    subst he
    clear hd1
    obtain ⟨q1, hq1⟩ : ∃ b, (l3.any fun s : S37 => (s.f0.length : Int) != a0) = b := ⟨_, rfl⟩
    obtain ⟨q2, hq2⟩ : ∃ b, (l3.any fun s : S37 => decide (s.f1 < 0 ∨ s.f1 ≥ a1)) = b := ⟨_, rfl⟩
    rw [hq1, hq2] at h
    have Q1 := Aside0.mk hq1
    have Q2 := Aside0.mk hq2
    clear hq1 hq2
    by_cases hl : (l2.length : Int) = d
    · have hl0 : ((l2.length : Int) != d) = false := bne_eq_false_iff_eq.2 hl
      cases q1 with
      | true =>
        rw [if_pos (.inr rfl)] at h
        subst h
        clear hl
        go_enter Try.func57, Try.ntmps57
        go_wp2_with (first | (go_at_call 82; (with_reducible refine (soft_Dim.calls a0 a1 _ _ _ A0.out).mono ?_); rintro ed W1 ⟨rfl, hdr⟩; have HB1 := Aside0.mk (below_then HB.out HB.out.size hdr.below); have bI1 := Aside0.mk (blk_below bI.out hdr.below); have bO1 := Aside0.mk (blk_below BO.out hdr.below); clear hdr) | (go_at_call 65; refine (slices_ContainsFuncS.calls 83 #[.pointer (some ⟨w.heap.size, 0, none⟩)] (fun s => (s.f0.length : Int) != a0) A3 c3 l3 W1 (enters_of Try.func83 (by kernel_rfl) rfl) (Kd.C_below HR3.out HB1.out) HC3.out (fun W x A c hb h0 h1 => soft_Check_1.calls w.heap.size A c x.f0 x.f1 a0 W (blk_below bI1.out hb))).mono ?_; rintro ed W2 ⟨rfl, hb⟩; rw [Q1.out]; have HB2 := Aside0.mk (below_then HB1.out HB1.out.size hb); have bO2 := Aside0.mk (blk_below bO1.out hb); clear hb))
        go_ret
        exact ⟨rfl, HB2.out⟩
      | false =>
        rw [if_neg (show ¬ ((l2.length : Int) ≠ d ∨ false = true) from fun h => h.elim (fun h => h hl) (fun h => by cases h))] at h
        clear hl
        by_cases z : l3.length = 0
        · rw [if_pos (.inl z)] at h
          subst h
          have z0 : ((l3.length : Int) == 0) = true := by rw [z]; rfl
          clear z
          go_enter Try.func57, Try.ntmps57
          go_wp2_with (first | (go_at_call 82; (with_reducible refine (soft_Dim.calls a0 a1 _ _ _ A0.out).mono ?_); rintro ed W1 ⟨rfl, hdr⟩; have HB1 := Aside0.mk (below_then HB.out HB.out.size hdr.below); have bI1 := Aside0.mk (blk_below bI.out hdr.below); have bO1 := Aside0.mk (blk_below BO.out hdr.below); clear hdr) | (go_at_call 65; refine (slices_ContainsFuncS.calls 83 #[.pointer (some ⟨w.heap.size, 0, none⟩)] (fun s => (s.f0.length : Int) != a0) A3 c3 l3 W1 (enters_of Try.func83 (by kernel_rfl) rfl) (Kd.C_below HR3.out HB1.out) HC3.out (fun W x A c hb h0 h1 => soft_Check_1.calls w.heap.size A c x.f0 x.f1 a0 W (blk_below bI1.out hb))).mono ?_; rintro ed W2 ⟨rfl, hb⟩; rw [Q1.out]; have HB2 := Aside0.mk (below_then HB1.out HB1.out.size hb); have bO2 := Aside0.mk (blk_below bO1.out hb); clear hb))
          go_ret
          exact ⟨rfl, HB2.out⟩
        · have z0 : ((l3.length : Int) == 0) = false := beq_eq_false_iff_ne.2 (by omega)
          by_cases z1 : l3.length > 64
          · rw [if_pos (.inr (.inl z1))] at h
            subst h
            have z2 : ((l3.length : Int) > 64) := by omega
            clear z z1
            go_enter Try.func57, Try.ntmps57
            go_wp2_with (first | (go_at_call 82; (with_reducible refine (soft_Dim.calls a0 a1 _ _ _ A0.out).mono ?_); rintro ed W1 ⟨rfl, hdr⟩; have HB1 := Aside0.mk (below_then HB.out HB.out.size hdr.below); have bI1 := Aside0.mk (blk_below bI.out hdr.below); have bO1 := Aside0.mk (blk_below BO.out hdr.below); clear hdr) | (go_at_call 65; refine (slices_ContainsFuncS.calls 83 #[.pointer (some ⟨w.heap.size, 0, none⟩)] (fun s => (s.f0.length : Int) != a0) A3 c3 l3 W1 (enters_of Try.func83 (by kernel_rfl) rfl) (Kd.C_below HR3.out HB1.out) HC3.out (fun W x A c hb h0 h1 => soft_Check_1.calls w.heap.size A c x.f0 x.f1 a0 W (blk_below bI1.out hb))).mono ?_; rintro ed W2 ⟨rfl, hb⟩; rw [Q1.out]; have HB2 := Aside0.mk (below_then HB1.out HB1.out.size hb); have bO2 := Aside0.mk (blk_below bO1.out hb); clear hb))
            go_ret
            exact ⟨rfl, HB2.out⟩
          · have z2 : ¬ ((l3.length : Int) > 64) := by omega
            cases q2 with
            | true =>
              rw [if_pos (.inr (.inr rfl))] at h
              subst h
              clear z z1
              go_enter Try.func57, Try.ntmps57
              go_wp2_with (first | (go_at_call 82; (with_reducible refine (soft_Dim.calls a0 a1 _ _ _ A0.out).mono ?_); rintro ed W1 ⟨rfl, hdr⟩; have HB1 := Aside0.mk (below_then HB.out HB.out.size hdr.below); have bI1 := Aside0.mk (blk_below bI.out hdr.below); have bO1 := Aside0.mk (blk_below BO.out hdr.below); clear hdr) | (go_at_call 65; refine (slices_ContainsFuncS.calls 83 #[.pointer (some ⟨w.heap.size, 0, none⟩)] (fun s => (s.f0.length : Int) != a0) A3 c3 l3 W1 (enters_of Try.func83 (by kernel_rfl) rfl) (Kd.C_below HR3.out HB1.out) HC3.out (fun W x A c hb h0 h1 => soft_Check_1.calls w.heap.size A c x.f0 x.f1 a0 W (blk_below bI1.out hb))).mono ?_; rintro ed W2 ⟨rfl, hb⟩; rw [Q1.out]; have HB2 := Aside0.mk (below_then HB1.out HB1.out.size hb); have bO2 := Aside0.mk (blk_below bO1.out hb); clear hb) | (go_at_call 65; refine (slices_ContainsFuncS.calls 84 #[.pointer (some ⟨w.heap.size + 1, 0, none⟩)] (fun s => decide (s.f1 < 0 ∨ s.f1 ≥ a1)) A3 c3 l3 W2 (enters_of Try.func84 (by kernel_rfl) rfl) (Kd.C_below HR3.out HB2.out) HC3.out (fun W x A c hb h0 h1 => soft_Check_2.calls (w.heap.size + 1) A c x.f0 x.f1 a1 W (blk_below bO2.out hb))).mono ?_; rintro ed W3 ⟨rfl, hb⟩; rw [Q2.out]; have HB3 := Aside0.mk (below_then HB2.out HB2.out.size hb); clear hb))
              go_ret
              exact ⟨rfl, HB3.out⟩
            | false =>
              rw [if_neg (show ¬ (l3.length = 0 ∨ l3.length > 64 ∨ false = true) from fun h => h.elim z (fun h => h.elim z1 (fun h => by cases h)))] at h
              subst h
              clear z z1
              go_enter Try.func57, Try.ntmps57
              go_wp2_with (first | (go_at_call 82; (with_reducible refine (soft_Dim.calls a0 a1 _ _ _ A0.out).mono ?_); rintro ed W1 ⟨rfl, hdr⟩; have HB1 := Aside0.mk (below_then HB.out HB.out.size hdr.below); have bI1 := Aside0.mk (blk_below bI.out hdr.below); have bO1 := Aside0.mk (blk_below BO.out hdr.below); clear hdr) | (go_at_call 65; refine (slices_ContainsFuncS.calls 83 #[.pointer (some ⟨w.heap.size, 0, none⟩)] (fun s => (s.f0.length : Int) != a0) A3 c3 l3 W1 (enters_of Try.func83 (by kernel_rfl) rfl) (Kd.C_below HR3.out HB1.out) HC3.out (fun W x A c hb h0 h1 => soft_Check_1.calls w.heap.size A c x.f0 x.f1 a0 W (blk_below bI1.out hb))).mono ?_; rintro ed W2 ⟨rfl, hb⟩; rw [Q1.out]; have HB2 := Aside0.mk (below_then HB1.out HB1.out.size hb); have bO2 := Aside0.mk (blk_below bO1.out hb); clear hb) | (go_at_call 65; refine (slices_ContainsFuncS.calls 84 #[.pointer (some ⟨w.heap.size + 1, 0, none⟩)] (fun s => decide (s.f1 < 0 ∨ s.f1 ≥ a1)) A3 c3 l3 W2 (enters_of Try.func84 (by kernel_rfl) rfl) (Kd.C_below HR3.out HB2.out) HC3.out (fun W x A c hb h0 h1 => soft_Check_2.calls (w.heap.size + 1) A c x.f0 x.f1 a1 W (blk_below bO2.out hb))).mono ?_; rintro ed W3 ⟨rfl, hb⟩; rw [Q2.out]; have HB3 := Aside0.mk (below_then HB2.out HB2.out.size hb); clear hb))
              go_ret
              exact ⟨rfl, HB3.out⟩
    · rw [if_pos (.inl hl)] at h
      subst h
      have hl0 : ((l2.length : Int) != d) = true := bne_iff_ne.2 hl
      clear hl
      go_enter Try.func57, Try.ntmps57
      go_wp2_with (first | (go_at_call 82; (with_reducible refine (soft_Dim.calls a0 a1 _ _ _ A0.out).mono ?_); rintro ed W1 ⟨rfl, hdr⟩; have HB1 := Aside0.mk (below_then HB.out HB.out.size hdr.below); have bI1 := Aside0.mk (blk_below bI.out hdr.below); have bO1 := Aside0.mk (blk_below BO.out hdr.below); clear hdr))
      go_ret
      exact ⟨rfl, HB1.out⟩
  · rw [if_pos he] at h
    have he1 := hd1 he
    subst he1
    subst h
    clear hd1 he
    go_enter Try.func57, Try.ntmps57
    go_wp2_with (first | (go_at_call 82; (with_reducible refine (soft_Dim.calls a0 a1 _ _ _ A0.out).mono ?_); rintro ed W1 ⟨rfl, hdr⟩; have HB1 := Aside0.mk (below_then HB.out HB.out.size hdr.below); have bI1 := Aside0.mk (blk_below bI.out hdr.below); have bO1 := Aside0.mk (blk_below BO.out hdr.below); clear hdr))
    go_ret
    exact ⟨rfl, HB1.out⟩


/-! ### model_of: function 23 -/
-- behind soft_Dim.f, soft_Check.f
def model_of.f (a0_0 a0_1 a0_2 a0_3 a0_4 : Int) : Option (KN × Int × Int) := some (ofK a0_0 a0_1 a0_2 a0_3 a0_4)
theorem model_straight_dim.is (k i o h f : Int) : model_straight_dim.f k i o h f = some (dimL i) := by
  unfold model_straight_dim.f dimL
  by_cases c : i < 1
  · unfold linear_Dim.f; rw [if_pos c, if_pos (.inl c)]; rfl
  · by_cases d : i > 16
    · unfold linear_Dim.f; rw [if_neg c, if_pos d, if_pos (.inr d)]; rfl
    · unfold linear_Dim.f; rw [if_neg c, if_neg d, if_neg (fun h => h.elim c d), wrap64_of (x := i + 1) (by unfold I64; omega)]; rfl
theorem model_classes_dim.is (k i o h f : Int) : model_classes_dim.f k i o h f = some (dimS i o) := by unfold model_classes_dim.f; rw [soft_Dim.is]; rfl
theorem model_layers_dim.is (k i o h f : Int) : model_layers_dim.f k i o h f = some (dimM i h) := by unfold model_layers_dim.f; rw [mlp_Dim.is]; rfl

set_option maxHeartbeats 8000000 in
set_option maxRecDepth 100000 in
theorem model_of.at0 (i o h f : Int) (w : World) :
    Calls Try.prog 23 #[.agg #[.int .i64 0, .int .i64 i, .int .i64 o, .int .i64 h, .int .i64 f]] w fun ed W' => ed = .returned (.tuple #[knW (ofK 0 i o h f).1, .int .i64 (ofK 0 i o h f).2.1, .int .i64 (ofK 0 i o h f).2.2]) ∧ Below w.heap.size w W' := by
  have hcase : (f < 0 ∧ ofK 0 i o h f = (.nil, 0, 1)) ∨ (¬ f < 0 ∧ f > 30 ∧ ofK 0 i o h f = (.nil, 0, 1)) ∨ (¬ f < 0 ∧ ¬ f > 30 ∧ (o != 0) = true ∧ ofK 0 i o h f = (.nil, 0, 1)) ∨ (¬ f < 0 ∧ ¬ f > 30 ∧ (o != 0) = false ∧ (h != 0) = true ∧ ofK 0 i o h f = (.nil, 0, 1)) ∨ (¬ f < 0 ∧ ¬ f > 30 ∧ (o != 0) = false ∧ (h != 0) = false ∧ ofK 0 i o h f = (.of 86 0 i o h f, dimL i)) := by
    by_cases d0 : f < 0
    · exact .inl ⟨d0, ofK_off (.inr (.inl d0))⟩
    by_cases d1 : f > 30
    · exact .inr (.inl ⟨d0, d1, ofK_off (.inr (.inr (.inl d1)))⟩)
    by_cases d2 : o ≠ 0
    · exact .inr (.inr (.inl ⟨d0, d1, (bne_iff_ne.2 d2), ofK_off (.inr (.inr (.inr (.inl ⟨by decide, d2⟩))))⟩))
    by_cases d3 : h ≠ 0
    · exact .inr (.inr (.inr (.inl ⟨d0, d1, (bne_eq_false_iff_eq.2 (Classical.not_not.1 d2)), (bne_iff_ne.2 d3), ofK_off (.inr (.inr (.inr (.inr ⟨by decide, d3⟩))))⟩)))
    refine .inr (.inr (.inr (.inr (⟨d0, d1, (bne_eq_false_iff_eq.2 (Classical.not_not.1 d2)), (bne_eq_false_iff_eq.2 (Classical.not_not.1 d3)), ?_⟩))))
    have hn : ¬ offK 0 o h f := by unfold offK; omega
    unfold ofK; rw [if_neg hn]; rfl
  have hmm := @run_makeMap Try.prog
  have hu := Try.underlying23
  have hu1 := Try.underlying86
  have hu2 := Try.underlying87
  have hu3 := Try.underlying88
  obtain ⟨W0, hW0⟩ : ∃ W0, (w.alloc (.cells #[.int .i64 0, .int .i64 i, .int .i64 o, .int .i64 h, .int .i64 f] 23)).alloc (.map #[] 0) = W0 := ⟨_, rfl⟩
  have hz1 : (w.alloc (.cells #[.int .i64 0, .int .i64 i, .int .i64 o, .int .i64 h, .int .i64 f] 23)).heap.size = w.heap.size + 1 := by simp
  have HM0 : W0.heap[w.heap.size + 1]? = some (.map #[] 0) := by rw [← hW0, ← hz1]; exact blk_new _ _
  have HX0 : W0.heap[w.heap.size]? = some (.cells #[.int .i64 0, .int .i64 i, .int .i64 o, .int .i64 h, .int .i64 f] 23 (0, 0)) := by rw [← hW0]; exact kkA (blk_new _ _) _
  have HB0 : Below w.heap.size w W0 := by rw [← hW0]; exact zzA (zzA (Below.refl _ _) _) _
  have hs0 : W0.heap.size = w.heap.size + 2 := by rw [← hW0]; simp
  have c00 := (blk_cell HX0 0).trans rfl
  have c01 := (blk_cell HX0 1).trans rfl
  have c02 := (blk_cell HX0 2).trans rfl
  have c03 := (blk_cell HX0 3).trans rfl
  have c04 := (blk_cell HX0 4).trans rfl
  have HD_ := Aside0.mk (fun W : World => model_straight_dim.calls 0 i o h f (dimL i).1 (dimL i).2 W (model_straight_dim.is 0 i o h f))
  have hme : ∀ (n : Nat) (k i o h f : Int) (W : World), (method (n + 1) 86 (.agg #[.int .i64 k, .int .i64 i, .int .i64 o, .int .i64 h, .int .i64 f]) "thrum/model.dim").run Try.prog W = .ok (116, .agg #[.int .i64 k, .int .i64 i, .int .i64 o, .int .i64 h, .int .i64 f]) W := fun _ _ _ _ _ _ _ => by kernel_rfl
  generalize hdm : dimL i = dm at HD_ hcase
  obtain ⟨d1, d2⟩ := dm
  clear hdm
  rcases hcase with ⟨k1, e⟩ | ⟨k1, k2, e⟩ | ⟨k1, k2, k3, e⟩ | ⟨k1, k2, k3, k4, e⟩ | ⟨k1, k2, k3, k4, e⟩ <;> (rw [e]; clear e; go_enter Try.func23, Try.ntmps23; go_wp2_with (first | ((with_reducible refine gate_ins rfl ?_); first | (refine ins_lit rfl _ _ _ 89 rfl 3 52 Try.underlying89 Try.underlying3 (w.heap.size + 1) _ _ rfl HM0 _ rfl _ rfl (by rfl) ?_; intro W1 HM1 hg1; have HX1 := blk_grown HX0 hg1 (by simp); have HB1 := HB0.grown hg1 (by omega) (by intro k_ hk_; injection hk_ with hk_; omega); have c10 := (blk_cell HX1 0).trans rfl; have c11 := (blk_cell HX1 1).trans rfl; have c12 := (blk_cell HX1 2).trans rfl; have c13 := (blk_cell HX1 3).trans rfl; have c14 := (blk_cell HX1 4).trans rfl) | (refine ins_lit rfl _ _ _ 89 rfl 3 52 Try.underlying89 Try.underlying3 (w.heap.size + 1) _ _ rfl HM1 _ rfl _ rfl (by rfl) ?_; intro W2 HM2 hg2; have HX2 := blk_grown HX1 hg2 (by simp); have HB2 := HB1.grown hg2 (by have := hg1.size; omega) (by intro k_ hk_; injection hk_ with hk_; omega); have c20 := (blk_cell HX2 0).trans rfl; have c21 := (blk_cell HX2 1).trans rfl; have c22 := (blk_cell HX2 2).trans rfl; have c23 := (blk_cell HX2 3).trans rfl; have c24 := (blk_cell HX2 4).trans rfl) | (refine ins_lit rfl _ _ _ 89 rfl 3 52 Try.underlying89 Try.underlying3 (w.heap.size + 1) _ _ rfl HM2 _ rfl _ rfl (by rfl) ?_; intro W3 HM3 hg3; have HX3 := blk_grown HX2 hg3 (by simp); have HB3 := HB2.grown hg3 (by have := hg1.size; have := hg2.size; omega) (by intro k_ hk_; injection hk_ with hk_; omega); have c30 := (blk_cell HX3 0).trans rfl; have c31 := (blk_cell HX3 1).trans rfl; have c32 := (blk_cell HX3 2).trans rfl; have c33 := (blk_cell HX3 3).trans rfl; have c34 := (blk_cell HX3 4).trans rfl)) | ((with_reducible refine gate_look rfl ?_); refine look_lit rfl _ _ 89 rfl 3 52 Try.underlying89 Try.underlying3 (fun _ => by kernel_rfl) (w.heap.size + 1) _ _ rfl HM3 _ rfl _ (by rfl) ?_; skip) | (go_at_call 116; refine (HD_.out _).mono ?_; rintro ed W4 ⟨rfl, hb4⟩; have HB4 := below_then HB3 HB3.size hb4; clear hb4)); go_ret3; first | exact ⟨rfl, HB4⟩ | exact ⟨rfl, HB3⟩)

set_option maxHeartbeats 8000000 in
set_option maxRecDepth 100000 in
theorem model_of.at1 (i o h f : Int) (w : World) :
    Calls Try.prog 23 #[.agg #[.int .i64 1, .int .i64 i, .int .i64 o, .int .i64 h, .int .i64 f]] w fun ed W' => ed = .returned (.tuple #[knW (ofK 1 i o h f).1, .int .i64 (ofK 1 i o h f).2.1, .int .i64 (ofK 1 i o h f).2.2]) ∧ Below w.heap.size w W' := by
  have hcase : (f < 0 ∧ ofK 1 i o h f = (.nil, 0, 1)) ∨ (¬ f < 0 ∧ f > 30 ∧ ofK 1 i o h f = (.nil, 0, 1)) ∨ (¬ f < 0 ∧ ¬ f > 30 ∧ (h != 0) = true ∧ ofK 1 i o h f = (.nil, 0, 1)) ∨ (¬ f < 0 ∧ ¬ f > 30 ∧ (h != 0) = false ∧ ofK 1 i o h f = (.of 87 1 i o h f, dimS i o)) := by
    by_cases d0 : f < 0
    · exact .inl ⟨d0, ofK_off (.inr (.inl d0))⟩
    by_cases d1 : f > 30
    · exact .inr (.inl ⟨d0, d1, ofK_off (.inr (.inr (.inl d1)))⟩)
    by_cases d2 : h ≠ 0
    · exact .inr (.inr (.inl ⟨d0, d1, (bne_iff_ne.2 d2), ofK_off (.inr (.inr (.inr (.inr ⟨by decide, d2⟩))))⟩))
    refine .inr (.inr (.inr (⟨d0, d1, (bne_eq_false_iff_eq.2 (Classical.not_not.1 d2)), ?_⟩)))
    have hn : ¬ offK 1 o h f := by unfold offK; omega
    unfold ofK; rw [if_neg hn]; rfl
  have hmm := @run_makeMap Try.prog
  have hu := Try.underlying23
  have hu1 := Try.underlying86
  have hu2 := Try.underlying87
  have hu3 := Try.underlying88
  obtain ⟨W0, hW0⟩ : ∃ W0, (w.alloc (.cells #[.int .i64 1, .int .i64 i, .int .i64 o, .int .i64 h, .int .i64 f] 23)).alloc (.map #[] 0) = W0 := ⟨_, rfl⟩
  have hz1 : (w.alloc (.cells #[.int .i64 1, .int .i64 i, .int .i64 o, .int .i64 h, .int .i64 f] 23)).heap.size = w.heap.size + 1 := by simp
  have HM0 : W0.heap[w.heap.size + 1]? = some (.map #[] 0) := by rw [← hW0, ← hz1]; exact blk_new _ _
  have HX0 : W0.heap[w.heap.size]? = some (.cells #[.int .i64 1, .int .i64 i, .int .i64 o, .int .i64 h, .int .i64 f] 23 (0, 0)) := by rw [← hW0]; exact kkA (blk_new _ _) _
  have HB0 : Below w.heap.size w W0 := by rw [← hW0]; exact zzA (zzA (Below.refl _ _) _) _
  have hs0 : W0.heap.size = w.heap.size + 2 := by rw [← hW0]; simp
  have c00 := (blk_cell HX0 0).trans rfl
  have c01 := (blk_cell HX0 1).trans rfl
  have c02 := (blk_cell HX0 2).trans rfl
  have c03 := (blk_cell HX0 3).trans rfl
  have c04 := (blk_cell HX0 4).trans rfl
  have HD_ := Aside0.mk (fun W : World => model_classes_dim.calls 1 i o h f (dimS i o).1 (dimS i o).2 W (model_classes_dim.is 1 i o h f))
  have hme : ∀ (n : Nat) (k i o h f : Int) (W : World), (method (n + 1) 87 (.agg #[.int .i64 k, .int .i64 i, .int .i64 o, .int .i64 h, .int .i64 f]) "thrum/model.dim").run Try.prog W = .ok (121, .agg #[.int .i64 k, .int .i64 i, .int .i64 o, .int .i64 h, .int .i64 f]) W := fun _ _ _ _ _ _ _ => by kernel_rfl
  generalize hdm : dimS i o = dm at HD_ hcase
  obtain ⟨d1, d2⟩ := dm
  clear hdm
  rcases hcase with ⟨k1, e⟩ | ⟨k1, k2, e⟩ | ⟨k1, k2, k3, e⟩ | ⟨k1, k2, k3, e⟩ <;> (rw [e]; clear e; go_enter Try.func23, Try.ntmps23; go_wp2_with (first | ((with_reducible refine gate_ins rfl ?_); first | (refine ins_lit rfl _ _ _ 89 rfl 3 52 Try.underlying89 Try.underlying3 (w.heap.size + 1) _ _ rfl HM0 _ rfl _ rfl (by rfl) ?_; intro W1 HM1 hg1; have HX1 := blk_grown HX0 hg1 (by simp); have HB1 := HB0.grown hg1 (by omega) (by intro k_ hk_; injection hk_ with hk_; omega); have c10 := (blk_cell HX1 0).trans rfl; have c11 := (blk_cell HX1 1).trans rfl; have c12 := (blk_cell HX1 2).trans rfl; have c13 := (blk_cell HX1 3).trans rfl; have c14 := (blk_cell HX1 4).trans rfl) | (refine ins_lit rfl _ _ _ 89 rfl 3 52 Try.underlying89 Try.underlying3 (w.heap.size + 1) _ _ rfl HM1 _ rfl _ rfl (by rfl) ?_; intro W2 HM2 hg2; have HX2 := blk_grown HX1 hg2 (by simp); have HB2 := HB1.grown hg2 (by have := hg1.size; omega) (by intro k_ hk_; injection hk_ with hk_; omega); have c20 := (blk_cell HX2 0).trans rfl; have c21 := (blk_cell HX2 1).trans rfl; have c22 := (blk_cell HX2 2).trans rfl; have c23 := (blk_cell HX2 3).trans rfl; have c24 := (blk_cell HX2 4).trans rfl) | (refine ins_lit rfl _ _ _ 89 rfl 3 52 Try.underlying89 Try.underlying3 (w.heap.size + 1) _ _ rfl HM2 _ rfl _ rfl (by rfl) ?_; intro W3 HM3 hg3; have HX3 := blk_grown HX2 hg3 (by simp); have HB3 := HB2.grown hg3 (by have := hg1.size; have := hg2.size; omega) (by intro k_ hk_; injection hk_ with hk_; omega); have c30 := (blk_cell HX3 0).trans rfl; have c31 := (blk_cell HX3 1).trans rfl; have c32 := (blk_cell HX3 2).trans rfl; have c33 := (blk_cell HX3 3).trans rfl; have c34 := (blk_cell HX3 4).trans rfl)) | ((with_reducible refine gate_look rfl ?_); refine look_lit rfl _ _ 89 rfl 3 52 Try.underlying89 Try.underlying3 (fun _ => by kernel_rfl) (w.heap.size + 1) _ _ rfl HM3 _ rfl _ (by rfl) ?_; skip) | (go_at_call 121; refine (HD_.out _).mono ?_; rintro ed W4 ⟨rfl, hb4⟩; have HB4 := below_then HB3 HB3.size hb4; clear hb4)); go_ret3; first | exact ⟨rfl, HB4⟩ | exact ⟨rfl, HB3⟩)

set_option maxHeartbeats 8000000 in
set_option maxRecDepth 100000 in
theorem model_of.at2 (i o h f : Int) (w : World) :
    Calls Try.prog 23 #[.agg #[.int .i64 2, .int .i64 i, .int .i64 o, .int .i64 h, .int .i64 f]] w fun ed W' => ed = .returned (.tuple #[knW (ofK 2 i o h f).1, .int .i64 (ofK 2 i o h f).2.1, .int .i64 (ofK 2 i o h f).2.2]) ∧ Below w.heap.size w W' := by
  have hcase : (f < 0 ∧ ofK 2 i o h f = (.nil, 0, 1)) ∨ (¬ f < 0 ∧ f > 30 ∧ ofK 2 i o h f = (.nil, 0, 1)) ∨ (¬ f < 0 ∧ ¬ f > 30 ∧ (o != 0) = true ∧ ofK 2 i o h f = (.nil, 0, 1)) ∨ (¬ f < 0 ∧ ¬ f > 30 ∧ (o != 0) = false ∧ ofK 2 i o h f = (.of 88 2 i o h f, dimM i h)) := by
    by_cases d0 : f < 0
    · exact .inl ⟨d0, ofK_off (.inr (.inl d0))⟩
    by_cases d1 : f > 30
    · exact .inr (.inl ⟨d0, d1, ofK_off (.inr (.inr (.inl d1)))⟩)
    by_cases d2 : o ≠ 0
    · exact .inr (.inr (.inl ⟨d0, d1, (bne_iff_ne.2 d2), ofK_off (.inr (.inr (.inr (.inl ⟨by decide, d2⟩))))⟩))
    refine .inr (.inr (.inr (⟨d0, d1, (bne_eq_false_iff_eq.2 (Classical.not_not.1 d2)), ?_⟩)))
    have hn : ¬ offK 2 o h f := by unfold offK; omega
    unfold ofK; rw [if_neg hn]; rfl
  have hmm := @run_makeMap Try.prog
  have hu := Try.underlying23
  have hu1 := Try.underlying86
  have hu2 := Try.underlying87
  have hu3 := Try.underlying88
  obtain ⟨W0, hW0⟩ : ∃ W0, (w.alloc (.cells #[.int .i64 2, .int .i64 i, .int .i64 o, .int .i64 h, .int .i64 f] 23)).alloc (.map #[] 0) = W0 := ⟨_, rfl⟩
  have hz1 : (w.alloc (.cells #[.int .i64 2, .int .i64 i, .int .i64 o, .int .i64 h, .int .i64 f] 23)).heap.size = w.heap.size + 1 := by simp
  have HM0 : W0.heap[w.heap.size + 1]? = some (.map #[] 0) := by rw [← hW0, ← hz1]; exact blk_new _ _
  have HX0 : W0.heap[w.heap.size]? = some (.cells #[.int .i64 2, .int .i64 i, .int .i64 o, .int .i64 h, .int .i64 f] 23 (0, 0)) := by rw [← hW0]; exact kkA (blk_new _ _) _
  have HB0 : Below w.heap.size w W0 := by rw [← hW0]; exact zzA (zzA (Below.refl _ _) _) _
  have hs0 : W0.heap.size = w.heap.size + 2 := by rw [← hW0]; simp
  have c00 := (blk_cell HX0 0).trans rfl
  have c01 := (blk_cell HX0 1).trans rfl
  have c02 := (blk_cell HX0 2).trans rfl
  have c03 := (blk_cell HX0 3).trans rfl
  have c04 := (blk_cell HX0 4).trans rfl
  have HD_ := Aside0.mk (fun W : World => model_layers_dim.calls 2 i o h f (dimM i h).1 (dimM i h).2 W (model_layers_dim.is 2 i o h f))
  have hme : ∀ (n : Nat) (k i o h f : Int) (W : World), (method (n + 1) 88 (.agg #[.int .i64 k, .int .i64 i, .int .i64 o, .int .i64 h, .int .i64 f]) "thrum/model.dim").run Try.prog W = .ok (125, .agg #[.int .i64 k, .int .i64 i, .int .i64 o, .int .i64 h, .int .i64 f]) W := fun _ _ _ _ _ _ _ => by kernel_rfl
  generalize hdm : dimM i h = dm at HD_ hcase
  obtain ⟨d1, d2⟩ := dm
  clear hdm
  rcases hcase with ⟨k1, e⟩ | ⟨k1, k2, e⟩ | ⟨k1, k2, k3, e⟩ | ⟨k1, k2, k3, e⟩ <;> (rw [e]; clear e; go_enter Try.func23, Try.ntmps23; go_wp2_with (first | ((with_reducible refine gate_ins rfl ?_); first | (refine ins_lit rfl _ _ _ 89 rfl 3 52 Try.underlying89 Try.underlying3 (w.heap.size + 1) _ _ rfl HM0 _ rfl _ rfl (by rfl) ?_; intro W1 HM1 hg1; have HX1 := blk_grown HX0 hg1 (by simp); have HB1 := HB0.grown hg1 (by omega) (by intro k_ hk_; injection hk_ with hk_; omega); have c10 := (blk_cell HX1 0).trans rfl; have c11 := (blk_cell HX1 1).trans rfl; have c12 := (blk_cell HX1 2).trans rfl; have c13 := (blk_cell HX1 3).trans rfl; have c14 := (blk_cell HX1 4).trans rfl) | (refine ins_lit rfl _ _ _ 89 rfl 3 52 Try.underlying89 Try.underlying3 (w.heap.size + 1) _ _ rfl HM1 _ rfl _ rfl (by rfl) ?_; intro W2 HM2 hg2; have HX2 := blk_grown HX1 hg2 (by simp); have HB2 := HB1.grown hg2 (by have := hg1.size; omega) (by intro k_ hk_; injection hk_ with hk_; omega); have c20 := (blk_cell HX2 0).trans rfl; have c21 := (blk_cell HX2 1).trans rfl; have c22 := (blk_cell HX2 2).trans rfl; have c23 := (blk_cell HX2 3).trans rfl; have c24 := (blk_cell HX2 4).trans rfl) | (refine ins_lit rfl _ _ _ 89 rfl 3 52 Try.underlying89 Try.underlying3 (w.heap.size + 1) _ _ rfl HM2 _ rfl _ rfl (by rfl) ?_; intro W3 HM3 hg3; have HX3 := blk_grown HX2 hg3 (by simp); have HB3 := HB2.grown hg3 (by have := hg1.size; have := hg2.size; omega) (by intro k_ hk_; injection hk_ with hk_; omega); have c30 := (blk_cell HX3 0).trans rfl; have c31 := (blk_cell HX3 1).trans rfl; have c32 := (blk_cell HX3 2).trans rfl; have c33 := (blk_cell HX3 3).trans rfl; have c34 := (blk_cell HX3 4).trans rfl)) | ((with_reducible refine gate_look rfl ?_); refine look_lit rfl _ _ 89 rfl 3 52 Try.underlying89 Try.underlying3 (fun _ => by kernel_rfl) (w.heap.size + 1) _ _ rfl HM3 _ rfl _ (by rfl) ?_; skip) | (go_at_call 125; refine (HD_.out _).mono ?_; rintro ed W4 ⟨rfl, hb4⟩; have HB4 := below_then HB3 HB3.size hb4; clear hb4)); go_ret3; first | exact ⟨rfl, HB4⟩ | exact ⟨rfl, HB3⟩)

set_option maxHeartbeats 8000000 in
set_option maxRecDepth 100000 in
theorem model_of.at3 (k i o h f : Int) (w : World) (hk0 : k ≠ 0) (hk1 : k ≠ 1) (hk2 : k ≠ 2) :
    Calls Try.prog 23 #[.agg #[.int .i64 k, .int .i64 i, .int .i64 o, .int .i64 h, .int .i64 f]] w fun ed W' => ed = .returned (.tuple #[knW (ofK k i o h f).1, .int .i64 (ofK k i o h f).2.1, .int .i64 (ofK k i o h f).2.2]) ∧ Below w.heap.size w W' := by
  rw [ofK_off (.inl ⟨hk0, hk1, hk2⟩)]
  have d0 : (k == 0) = false := beq_eq_false_iff_ne.2 hk0
  have d1 : (k == 1) = false := beq_eq_false_iff_ne.2 hk1
  have d2 : (k == 2) = false := beq_eq_false_iff_ne.2 hk2
  clear hk0 hk1 hk2
  have hfind : ∀ v0 v1 v2 : Value, Instr.findNow (.int .i64) (.int .i64 k) ((((#[] : Array MapEntry).push { key := .int .i64 0, val := v0, born := 0 }).push { key := .int .i64 1, val := v1, born := 0 + 1 }).push { key := .int .i64 2, val := v2, born := 0 + 1 + 1 }).toList 0 = some none := by intro v0 v1 v2; simp [Instr.findNow, Instr.sameNow, d0, d1, d2]
  clear d0 d1 d2
  have hmm := @run_makeMap Try.prog
  have hu := Try.underlying23
  have hu1 := Try.underlying86
  have hu2 := Try.underlying87
  have hu3 := Try.underlying88
  obtain ⟨W0, hW0⟩ : ∃ W0, (w.alloc (.cells #[.int .i64 k, .int .i64 i, .int .i64 o, .int .i64 h, .int .i64 f] 23)).alloc (.map #[] 0) = W0 := ⟨_, rfl⟩
  have hz1 : (w.alloc (.cells #[.int .i64 k, .int .i64 i, .int .i64 o, .int .i64 h, .int .i64 f] 23)).heap.size = w.heap.size + 1 := by simp
  have HM0 : W0.heap[w.heap.size + 1]? = some (.map #[] 0) := by rw [← hW0, ← hz1]; exact blk_new _ _
  have HX0 : W0.heap[w.heap.size]? = some (.cells #[.int .i64 k, .int .i64 i, .int .i64 o, .int .i64 h, .int .i64 f] 23 (0, 0)) := by rw [← hW0]; exact kkA (blk_new _ _) _
  have HB0 : Below w.heap.size w W0 := by rw [← hW0]; exact zzA (zzA (Below.refl _ _) _) _
  have hs0 : W0.heap.size = w.heap.size + 2 := by rw [← hW0]; simp
  have c00 := (blk_cell HX0 0).trans rfl
  have c01 := (blk_cell HX0 1).trans rfl
  have c02 := (blk_cell HX0 2).trans rfl
  have c03 := (blk_cell HX0 3).trans rfl
  have c04 := (blk_cell HX0 4).trans rfl
  go_enter Try.func23, Try.ntmps23; go_wp2_with (first | ((with_reducible refine gate_ins rfl ?_); first | (refine ins_lit rfl _ _ _ 89 rfl 3 52 Try.underlying89 Try.underlying3 (w.heap.size + 1) _ _ rfl HM0 _ rfl _ rfl (by rfl) ?_; intro W1 HM1 hg1; have HX1 := blk_grown HX0 hg1 (by simp); have HB1 := HB0.grown hg1 (by omega) (by intro k_ hk_; injection hk_ with hk_; omega); have c10 := (blk_cell HX1 0).trans rfl; have c11 := (blk_cell HX1 1).trans rfl; have c12 := (blk_cell HX1 2).trans rfl; have c13 := (blk_cell HX1 3).trans rfl; have c14 := (blk_cell HX1 4).trans rfl) | (refine ins_lit rfl _ _ _ 89 rfl 3 52 Try.underlying89 Try.underlying3 (w.heap.size + 1) _ _ rfl HM1 _ rfl _ rfl (by rfl) ?_; intro W2 HM2 hg2; have HX2 := blk_grown HX1 hg2 (by simp); have HB2 := HB1.grown hg2 (by have := hg1.size; omega) (by intro k_ hk_; injection hk_ with hk_; omega); have c20 := (blk_cell HX2 0).trans rfl; have c21 := (blk_cell HX2 1).trans rfl; have c22 := (blk_cell HX2 2).trans rfl; have c23 := (blk_cell HX2 3).trans rfl; have c24 := (blk_cell HX2 4).trans rfl) | (refine ins_lit rfl _ _ _ 89 rfl 3 52 Try.underlying89 Try.underlying3 (w.heap.size + 1) _ _ rfl HM2 _ rfl _ rfl (by rfl) ?_; intro W3 HM3 hg3; have HX3 := blk_grown HX2 hg3 (by simp); have HB3 := HB2.grown hg3 (by have := hg1.size; have := hg2.size; omega) (by intro k_ hk_; injection hk_ with hk_; omega); have c30 := (blk_cell HX3 0).trans rfl; have c31 := (blk_cell HX3 1).trans rfl; have c32 := (blk_cell HX3 2).trans rfl; have c33 := (blk_cell HX3 3).trans rfl; have c34 := (blk_cell HX3 4).trans rfl)) | ((with_reducible refine gate_look rfl ?_); refine look_lit rfl _ _ 89 rfl 3 52 Try.underlying89 Try.underlying3 (fun _ => by kernel_rfl) (w.heap.size + 1) _ _ rfl HM3 _ rfl none (hfind _ _ _) ?_; skip)); go_ret3; first | exact ⟨rfl, HB4⟩ | exact ⟨rfl, HB3⟩
set_option maxHeartbeats 4000000 in
theorem model_of.calls (a0_0 : Int) (a0_1 : Int) (a0_2 : Int) (a0_3 : Int) (a0_4 : Int) (r1 : KN) (r2 : Int) (r3 : Int) (w : World) (h : model_of.f a0_0 a0_1 a0_2 a0_3 a0_4 = some (r1, r2, r3)) :
    Calls Try.prog 23 #[.agg #[.int .i64 a0_0, .int .i64 a0_1, .int .i64 a0_2, .int .i64 a0_3, .int .i64 a0_4]] w fun e w' => e = .returned (.tuple #[knW r1, .int .i64 r2, .int .i64 r3]) ∧ Below w.heap.size w w' := by
  have h := Option.some.inj h
  have e1 : (ofK a0_0 a0_1 a0_2 a0_3 a0_4).1 = r1 := congrArg (·.1) h
  have e2 : (ofK a0_0 a0_1 a0_2 a0_3 a0_4).2.1 = r2 := congrArg (·.2.1) h
  have e3 : (ofK a0_0 a0_1 a0_2 a0_3 a0_4).2.2 = r3 := congrArg (·.2.2) h
  rw [← e1, ← e2, ← e3]
  clear h e1 e2 e3
  by_cases c0 : a0_0 = 0
  · subst c0; exact model_of.at0 a0_1 a0_2 a0_3 a0_4 w
  · by_cases c1 : a0_0 = 1
    · subst c1; exact model_of.at1 a0_1 a0_2 a0_3 a0_4 w
    · by_cases c2 : a0_0 = 2
      · subst c2; exact model_of.at2 a0_1 a0_2 a0_3 a0_4 w
      · exact model_of.at3 a0_0 a0_1 a0_2 a0_3 a0_4 w c0 c1 c2


/-! ### draw_stir_with: function 94 -/
def draw_stir_with.f (a0 : Int) (a1 : Int) : Option (Int) := some (Go.bits .xor .u64 (IntKind.u64.wrap ((Go.bits .xor .u64 a0 (IntKind.u64.wrap (a1))) * 11400714819323198485)) ((IntKind.u64.wrap ((Go.bits .xor .u64 a0 (IntKind.u64.wrap (a1))) * 11400714819323198485)) / 536870912))
set_option maxHeartbeats 8000000 in
set_option maxRecDepth 100000 in
theorem draw_stir_with.calls (a0 : Int) (a1 : Int) (r : Int) (w : World) (h : draw_stir_with.f a0 a1 = some r) :
  Calls Try.prog 94 #[.int .u64 a0, .int .i64 a1] w fun e w' => e = .returned (.int .u64 r) ∧ Drawn0 w w' := by
 have H : (some (Go.bits .xor .u64 (IntKind.u64.wrap ((Go.bits .xor .u64 a0 (IntKind.u64.wrap (a1))) * 11400714819323198485)) ((IntKind.u64.wrap ((Go.bits .xor .u64 a0 (IntKind.u64.wrap (a1))) * 11400714819323198485)) / 536870912))) = some r := h
 clear h
 obtain rfl := Option.some.inj H
 go_enter Try.func94, Try.ntmps94
 go_wp2
 go_ret
 exact ⟨by first | rfl | (simp; done) | (simp [*]; done), by repeat (first | exact ddR _ | apply ddS)⟩

/-! ### draw_over: function 73 -/
def draw_over.l0 : Nat → Int → List Int → Int → Int → Option (Int)
 | 0, _, _, _, _ => none
 | k + 1, x5, x9, x10, x11 => if x11 < x10 then (if 0 ≤ x11 then (if x11 < (x9.length : Int) then ((draw_stir_with.f x5 (rd x9 x11)).bind fun t117 => (draw_over.l0 k t117 x9 x10 (wrap64 (x11 + 1)))) else (none)) else (none)) else (some x5)
def draw_over.f (k : Nat) (a0 : Int) (l1 : List Int) : Option (Int) := draw_over.l0 k a0 l1 (l1.length : Int) 0
theorem draw_over.mono_l : ∀ k, (∀ y0 y1 y2 y3, LeO (draw_over.l0 k y0 y1 y2 y3) (draw_over.l0 (k + 1) y0 y1 y2 y3))
 | 0 => fun _ _ _ _ r h => by simp [draw_over.l0] at h
 | k + 1 => by
  have ih0 := draw_over.mono_l k
  ·
   intro y0 y1 y2 y3
   unfold draw_over.l0
   repeat' first
   | (with_reducible exact ih0 _ _ _ _)
   | (with_reducible exact LeO.refl _)
   | (with_reducible exact LeO.none _)
   | (with_reducible refine LeO.ite ?_ ?_)
   | (with_reducible refine LeO.bind ?_ (fun _ => ?_))
   | exact ih0 _ _ _ _
   | exact LeO.none _
   | refine LeO.ite ?_ ?_
   | refine LeO.bind ?_ (fun _ => ?_)
theorem draw_over.mono : ∀ a0 a1 k, LeO (draw_over.f k a0 a1) (draw_over.f (k + 1) a0 a1) := by
 intro a0 a1 k
 have ih0 := draw_over.mono_l k
 unfold draw_over.f
 repeat' first
   | (with_reducible exact ih0 _ _ _ _)
   | (with_reducible exact LeO.refl _)
   | (with_reducible exact LeO.none _)
   | (with_reducible refine LeO.ite ?_ ?_)
   | (with_reducible refine LeO.bind ?_ (fun _ => ?_))
   | exact ih0 _ _ _ _
   | exact LeO.none _
   | refine LeO.ite ?_ ?_
   | refine LeO.bind ?_ (fun _ => ?_)
set_option maxHeartbeats 8000000 in
set_option maxRecDepth 100000 in
theorem draw_over.calls (k : Nat) (a0 : Int) (A1 : Option Addr) (c1 : Nat) (l1 : List Int) (r : Int) (w : World) (hr1 : Kd.C (Kd.int .i64) w A1 l1.length l1) (hc1 : l1.length ≤ c1) (h : draw_over.f k a0 l1 = some r) :
  Calls Try.prog 73 #[.int .u64 a0, .slice A1 l1.length c1] w fun e w' => e = .returned (.int .u64 r) ∧ Drawn0 w w' := by
 have HR1 := Aside0.mk hr1
 have HC1 := Aside0.mk hc1
 clear hr1 hc1
 have H : (draw_over.l0 k a0 l1 (l1.length : Int) 0) = some r := h
 clear h
 have H' := Aside0.mk H
 clear H
 go_enter Try.func73, Try.ntmps73
 go_wp2
 go_loopg [5, 11] k (fun kq v5 v11 w' => ∃ (x5_1 : Int) (x11_1 : Int), v5 = .int .u64 x5_1 ∧ v11 = .int .i64 x11_1 ∧ Aside0 (draw_over.l0 kq x5_1 l1 (l1.length : Int) x11_1 = some r) ∧ Aside0 (kq ≤ k) ∧ Drawn0 w w')
 case atStart => exact ⟨(a0), (0), (by first | rfl | (simp; done) | (simp [*]; done)), (by first | rfl | (simp; done) | (simp [*]; done)), H', ⟨Nat.le_refl _⟩, by repeat (first | exact ddR _ | apply ddS)⟩
 case round =>
  clear H'
  try clear c1
  try clear p2
  obtain ⟨x5_1, x11_1, rfl, rfl, HA, HK1, ⟨m1, rfl⟩⟩ := hrel
  cases gk with
  | zero => exact absurd HA.out (by simp [draw_over.l0])
  | succ k1 =>
   have H := HA.out
   clear HA
   simp only [draw_over.l0] at H
   by_cases c3 : x11_1 < (l1.length : Int)
   ·
    rw [if_pos c3] at H
    have c3b0 : decide (x11_1 < (l1.length : Int)) = true := decide_eq_true c3
    clear c3
    by_cases c4 : 0 ≤ x11_1
    ·
     rw [if_pos c4] at H
     have c4b0 : decide (0 ≤ x11_1) = true := decide_eq_true c4
     clear c4
     by_cases c5 : x11_1 < (l1.length : Int)
     ·
      rw [if_pos c5] at H
      have c5b0 : decide (x11_1 < (l1.length : Int)) = true := decide_eq_true c5
      clear c5
      replace H := Option.bind_eq_some_iff.mp H
      obtain ⟨t117, A60, H⟩ := H
      replace H : (draw_over.l0 k1 t117 l1 (l1.length : Int) (wrap64 (x11_1 + 1))) = some r := H
      have A6 := Aside0.mk A60
      clear A60
      have H' := Aside0.mk H
      clear H
      have p116 : 0 ≤ (x11_1 : Int) := of_decide_eq_true (by first | (with_reducible assumption) | assumption)
      have q116 : x11_1 < (l1.length : Int) := of_decide_eq_true (by first | (with_reducible assumption) | assumption)
      obtain ⟨ad116, e116, hx116_0⟩ := Kd.at_int HR1.out x11_1 p116 q116
      cases e116
      replace p116 := eq_true p116
      replace q116 := eq_true q116
      go_wp2_with (first | ((with_reducible refine gate_callee (f := 94) rfl ?_); refine goesL_ (some 17) rfl rfl Try.func94 (by kernel_rfl) rfl #[.int .u64 x5_1, .int .i64 (rd l1 x11_1)] rfl (by (try simp only [List.map_toArray, List.map_cons, List.map_nil]); first | done | rfl | (simp only [List.length_drop, List.length_take]; rfl)) ?_; (with_reducible refine (draw_stir_with.calls x5_1 (rd l1 x11_1) t117 _ A6.out).mono ?_); rintro e w' ⟨rfl, ⟨nd, rfl⟩⟩; refine ⟨_, rfl, ?_⟩))
      go_roundg k1
      case measure => have := HK1.out; omega
      case rel => exact ⟨(t117), (wrap64 (x11_1 + 1)), (by first | rfl | (simp; done) | (simp [*]; done)), (by first | rfl | (simp; done) | (simp [*]; done)), H', ⟨by have := HK1.out; omega⟩, by repeat (first | exact ddR _ | apply ddS)⟩
     ·
      rw [if_neg c5] at H
      exact absurd H (by simp)
    ·
     rw [if_neg c4] at H
     exact absurd H (by simp)
   ·
    rw [if_neg c3] at H
    have c3b0 : decide (x11_1 < (l1.length : Int)) = false := decide_eq_false c3
    clear c3
    obtain rfl := Option.some.inj H
    go_wp2
    go_ret
    exact ⟨by first | rfl | (simp; done) | (simp [*]; done), by repeat (first | exact ddR _ | apply ddS)⟩

/-! ### draw_stir_end: function 74 -/
def draw_stir_end.f (a0 : Int) : Option (Int) := some (Go.bits .xor .u64 (IntKind.u64.wrap (a0 * 13787848793156543929)) ((IntKind.u64.wrap (a0 * 13787848793156543929)) / 4294967296))
set_option maxHeartbeats 8000000 in
set_option maxRecDepth 100000 in
theorem draw_stir_end.calls (a0 : Int) (r : Int) (w : World) (h : draw_stir_end.f a0 = some r) :
  Calls Try.prog 74 #[.int .u64 a0] w fun e w' => e = .returned (.int .u64 r) ∧ Drawn0 w w' := by
 have H : (some (Go.bits .xor .u64 (IntKind.u64.wrap (a0 * 13787848793156543929)) ((IntKind.u64.wrap (a0 * 13787848793156543929)) / 4294967296))) = some r := h
 clear h
 obtain rfl := Option.some.inj H
 go_enter Try.func74, Try.ntmps74
 go_wp2
 go_ret
 exact ⟨by first | rfl | (simp; done) | (simp [*]; done), by repeat (first | exact ddR _ | apply ddS)⟩

/-! ### draw_At: function 45 -/
def draw_At.f (k : Nat) (a0 : Int) (l1 : List Int) : Option (Int) := (draw_over.f k a0 l1).bind fun t118 => ((draw_stir_end.f t118).bind fun t119 => (some t119))
theorem draw_At.mono : ∀ a0 a1 k, LeO (draw_At.f k a0 a1) (draw_At.f (k + 1) a0 a1) := by
 intro a0 a1 k
 unfold draw_At.f
 repeat' first
   | (with_reducible exact draw_over.mono _ _ _)
   | (with_reducible exact LeO.refl _)
   | (with_reducible exact LeO.none _)
   | (with_reducible refine LeO.ite ?_ ?_)
   | (with_reducible refine LeO.bind ?_ (fun _ => ?_))
   | exact draw_over.mono _ _ _
   | exact LeO.none _
   | refine LeO.ite ?_ ?_
   | refine LeO.bind ?_ (fun _ => ?_)
set_option maxHeartbeats 8000000 in
set_option maxRecDepth 100000 in
theorem draw_At.calls (k : Nat) (a0 : Int) (A1 : Option Addr) (c1 : Nat) (l1 : List Int) (r : Int) (w : World) (hr1 : Kd.C (Kd.int .i64) w A1 l1.length l1) (hc1 : l1.length ≤ c1) (h : draw_At.f k a0 l1 = some r) :
  Calls Try.prog 45 #[.int .u64 a0, .slice A1 l1.length c1] w fun e w' => e = .returned (.int .u64 r) ∧ Drawn0 w w' := by
 have HR1 := Aside0.mk hr1
 have HC1 := Aside0.mk hc1
 clear hr1 hc1
 have H : ((draw_over.f k a0 l1).bind fun t118 => ((draw_stir_end.f t118).bind fun t119 => (some t119))) = some r := h
 clear h
 replace H := Option.bind_eq_some_iff.mp H
 obtain ⟨t118, A30, H⟩ := H
 replace H : ((draw_stir_end.f t118).bind fun t119 => (some t119)) = some r := H
 have A3 := Aside0.mk A30
 clear A30
 replace H := Option.bind_eq_some_iff.mp H
 obtain ⟨t119, A40, H⟩ := H
 replace H : (some t119) = some r := H
 have A4 := Aside0.mk A40
 clear A40
 obtain rfl := Option.some.inj H
 go_enter Try.func45, Try.ntmps45
 go_wp2_with (first | ((with_reducible refine gate_callee (f := 73) rfl ?_); refine goesL_ (some 7) rfl rfl Try.func73 (by kernel_rfl) rfl #[.int .u64 a0, .slice A1 l1.length c1] rfl (by (try simp only [List.map_toArray, List.map_cons, List.map_nil]); first | done | rfl | (simp only [List.length_drop, List.length_take]; rfl)) ?_; (with_reducible refine (draw_over.calls k a0 _ _ l1 t118 _ ?side1 ?side2 A3.out).mono ?_); (case side1 => repeat (first | exact HR1.out | (with_reducible refine ccA ?_ _) | (with_reducible refine ccN ?_ _) | (with_reducible refine ccD ?_))); (case side2 => exact HC1.out); rintro e w' ⟨rfl, ⟨nd, rfl⟩⟩; refine ⟨_, rfl, ?_⟩) | ((with_reducible refine gate_callee (f := 74) rfl ?_); refine goesL_ (some 8) rfl rfl Try.func74 (by kernel_rfl) rfl #[.int .u64 t118] rfl (by (try simp only [List.map_toArray, List.map_cons, List.map_nil]); first | done | rfl | (simp only [List.length_drop, List.length_take]; rfl)) ?_; (with_reducible refine (draw_stir_end.calls t118 t119 _ A4.out).mono ?_); rintro e w' ⟨rfl, ⟨nd, rfl⟩⟩; refine ⟨_, rfl, ?_⟩))
 go_ret
 exact ⟨by first | rfl | (simp; done) | (simp [*]; done), by repeat (first | exact ddR _ | apply ddS)⟩

/-! ### draw_Below: function 24 -/
def draw_Below.f (k : Nat) (a0 : Int) (a1 : Int) (l2 : List Int) : Option (Int × Int) := if a0 = 0 then (some (0, 1)) else ((draw_At.f k a1 l2).bind fun t120 => (some (Int.tmod t120 a0, 0)))
theorem draw_Below.mono : ∀ a0 a1 a2 k, LeO (draw_Below.f k a0 a1 a2) (draw_Below.f (k + 1) a0 a1 a2) := by
 intro a0 a1 a2 k
 unfold draw_Below.f
 repeat' first
   | (with_reducible exact draw_At.mono _ _ _)
   | (with_reducible exact LeO.refl _)
   | (with_reducible exact LeO.none _)
   | (with_reducible refine LeO.ite ?_ ?_)
   | (with_reducible refine LeO.bind ?_ (fun _ => ?_))
   | exact draw_At.mono _ _ _
   | exact LeO.none _
   | refine LeO.ite ?_ ?_
   | refine LeO.bind ?_ (fun _ => ?_)
set_option maxHeartbeats 8000000 in
set_option maxRecDepth 100000 in
theorem draw_Below.calls (k : Nat) (a0 : Int) (a1 : Int) (A2 : Option Addr) (c2 : Nat) (l2 : List Int) (r1 : Int) (r2 : Int) (w : World) (hr2 : Kd.C (Kd.int .i64) w A2 l2.length l2) (hc2 : l2.length ≤ c2) (h : draw_Below.f k a0 a1 l2 = some (r1, r2)) :
  Calls Try.prog 24 #[.int .u64 a0, .int .u64 a1, .slice A2 l2.length c2] w fun e w' => e = .returned (.tuple #[.int .u64 r1, .int .i64 r2]) ∧ Drawn0 w w' := by
 have HR2 := Aside0.mk hr2
 have HC2 := Aside0.mk hc2
 clear hr2 hc2
 have H : (if a0 = 0 then (some (0, 1)) else ((draw_At.f k a1 l2).bind fun t120 => (some (Int.tmod t120 a0, 0)))) = some (r1, r2) := h
 clear h
 by_cases c4 : a0 = 0
 ·
  rw [if_pos c4] at H
  have c4b0 : (a0 == 0) = true := beq_iff_eq.mpr c4
  have c4b1 : (a0 != 0) = false := bne_eq_false_iff_eq.mpr c4
  clear c4
  simp only [Option.some.injEq, Prod.mk.injEq] at H
  obtain ⟨rfl, rfl⟩ := H
  go_enter Try.func24, Try.ntmps24
  go_wp2
  go_ret2
  exact ⟨by first | rfl | (simp; done) | (simp [*]; done), by repeat (first | exact ddR _ | apply ddS)⟩
 ·
  rw [if_neg c4] at H
  have c4b0 : (a0 == 0) = false := beq_eq_false_iff_ne.mpr c4
  have c4b1 : (a0 != 0) = true := bne_iff_ne.mpr c4
  replace H := Option.bind_eq_some_iff.mp H
  obtain ⟨t120, A50, H⟩ := H
  replace H : (some (Int.tmod t120 a0, 0)) = some (r1, r2) := H
  have A5 := Aside0.mk A50
  clear A50
  simp only [Option.some.injEq, Prod.mk.injEq] at H
  obtain ⟨rfl, rfl⟩ := H
  go_enter Try.func24, Try.ntmps24
  go_wp2_with (first | ((with_reducible refine gate_callee (f := 45) rfl ?_); refine goesL_ (some 12) rfl rfl Try.func45 (by kernel_rfl) rfl #[.int .u64 a1, .slice A2 l2.length c2] rfl (by (try simp only [List.map_toArray, List.map_cons, List.map_nil]); first | done | rfl | (simp only [List.length_drop, List.length_take]; rfl)) ?_; (with_reducible refine (draw_At.calls k a1 _ _ l2 t120 _ ?side1 ?side2 A5.out).mono ?_); (case side1 => repeat (first | exact HR2.out | (with_reducible refine ccA ?_ _) | (with_reducible refine ccN ?_ _) | (with_reducible refine ccD ?_))); (case side2 => exact HC2.out); rintro e w' ⟨rfl, ⟨nd, rfl⟩⟩; refine ⟨_, rfl, ?_⟩))
  go_ret2
  exact ⟨by first | rfl | (simp; done) | (simp [*]; done), by repeat (first | exact ddR _ | apply ddS)⟩

end Go.Proofs.Ytbnfejaeekljcaa.HD
