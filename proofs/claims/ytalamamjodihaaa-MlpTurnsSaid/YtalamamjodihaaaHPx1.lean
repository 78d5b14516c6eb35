/- What Go functions do, each as a plain Lean function with the same answers, and the proof of it, in every world: printed by the session's driver over the kit's print, with texts by hand. -/
import Derived.Test.YtalamamjodihaaaHPx0
namespace Go.Proofs.Ytalamamjodihaaa.HP
open Go.RowKit Go.Proofs.YtalamamjodihaaaW.PrintWords Go.Proofs.YtalamamjodihaaaW.PrintLast Go.Proofs.YtalamamjodihaaaW.PrintMore
attribute [local go_sem] max2_int min2_int max_two min_two max_three min_three max_four min_four   -- for this text's walks alone
open Go.Proofs.Ytalamamjodihaaa.Sp
attribute [local go_sem] Go.Proofs.Ytalamamjodihaaa.Sp.u64_not
set_option linter.unusedVariables false
set_option linter.unusedSimpArgs false

/-! ### linear_Dim: function 40 -/
def linear_Dim.f (a0 : Int) : Option (Int × Int) := if a0 < 1 then (some (0, 1)) else (if a0 > 16 then (some (0, 1)) else (some (wrap64 (a0 + 1), 0)))
set_option maxHeartbeats 8000000 in
set_option maxRecDepth 100000 in
theorem linear_Dim.calls (a0 : Int) (r1 : Int) (r2 : Int) (w : World) (h : linear_Dim.f a0 = some (r1, r2)) :
  Calls Try.prog 40 #[.int .i64 a0] w fun e w' => e = .returned (.tuple #[.int .i64 r1, .int .i64 r2]) ∧ Drawn0 w w' := by
 have H : (if a0 < 1 then (some (0, 1)) else (if a0 > 16 then (some (0, 1)) else (some (wrap64 (a0 + 1), 0)))) = some (r1, r2) := h
 clear h
 by_cases c2 : a0 < 1
 ·
  rw [if_pos c2] at H
  have c2b0 : decide (a0 < 1) = true := decide_eq_true c2
  clear c2
  simp only [Option.some.injEq, Prod.mk.injEq] at H
  obtain ⟨rfl, rfl⟩ := H
  go_enter Try.func40, Try.ntmps40
  go_wp2
  go_ret2
  exact ⟨by first | rfl | (simp; done) | (simp [*]; done), by repeat (first | exact ddR _ | apply ddS)⟩
 ·
  rw [if_neg c2] at H
  have c2b0 : decide (a0 < 1) = false := decide_eq_false c2
  clear c2
  by_cases c3 : a0 > 16
  ·
   rw [if_pos c3] at H
   have c3b0 : decide (16 < a0) = true := decide_eq_true c3
   clear c3
   simp only [Option.some.injEq, Prod.mk.injEq] at H
   obtain ⟨rfl, rfl⟩ := H
   go_enter Try.func40, Try.ntmps40
   go_wp2
   go_ret2
   exact ⟨by first | rfl | (simp; done) | (simp [*]; done), by repeat (first | exact ddR _ | apply ddS)⟩
  ·
   rw [if_neg c3] at H
   have c3b0 : decide (16 < a0) = false := decide_eq_false c3
   clear c3
   simp only [Option.some.injEq, Prod.mk.injEq] at H
   obtain ⟨rfl, rfl⟩ := H
   go_enter Try.func40, Try.ntmps40
   go_wp2
   go_ret2
   exact ⟨by first | rfl | (simp; done) | (simp [*]; done), by repeat (first | exact ddR _ | apply ddS)⟩

/-- A sample, as a pair. -/
def sm (s : S26) : List Int × Int := (s.f0, s.f1)
/-- All of a sample's numbers have 64 bits. -/
def Sm64 (s : S26) : Prop := V64 s.f0 ∧ I64 s.f1
instance (s : S26) : Decidable (Sm64 s) := by unfold Sm64; infer_instance
theorem rd_sm {l : List S26} {i : Nat} (h : i < l.length) : rd_T26 l (i : Int) = l[i] := by simp [rd_T26, List.getD_eq_getElem?_getD, List.getElem?_eq_getElem h]
theorem linear_Dim.of (a0 : Int) : linear_Dim.f a0 = some (dimL a0) := by
  unfold linear_Dim.f dimL
  by_cases c : a0 < 1
  · rw [if_pos c, if_pos (.inl c)]
  · rw [if_neg c]
    by_cases c2 : a0 > 16
    · rw [if_pos c2, if_pos (.inr c2)]
    · rw [if_neg c2, if_neg (fun h => h.elim c c2), wrap64_of (by unfold I64; omega)]
/-- How samples are looked through. -/
def fitsGo (x0 : Int) (l : List S26) (n : Nat) (b : Bool) : Int := if b = true ∧ ∀ s ∈ l, (s.f0.length : Int) = x0 then (if n = 0 ∨ n > 64 then 1 else 0) else 4
theorem fitsGo_nil (x0 : Int) (n : Nat) : fitsGo x0 [] n true = if n = 0 ∨ n > 64 then 1 else 0 := by simp [fitsGo]
theorem fitsGo_false (x0 : Int) (l : List S26) (n : Nat) : fitsGo x0 l n false = 4 := by simp [fitsGo]
theorem fitsGo_cons (x0 : Int) (s : S26) (l : List S26) (n : Nat) : fitsGo x0 (s :: l) n true = fitsGo x0 l n ((s.f0.length : Int) == x0) := by
  by_cases c : (s.f0.length : Int) = x0
  · rw [beq_iff_eq.2 c]; simp [fitsGo, c]
  · rw [beq_eq_false_iff_ne.2 c]; simp [fitsGo, c]
theorem fits_sm (n : Int) (w : List Int) (l : List S26) : fitsL n w (l.map sm) ↔ ((w.length : Int) = n + 1 ∧ ∀ s ∈ l, (s.f0.length : Int) = n) := by
  unfold fitsL; simp [sm]
theorem checkL_sm (n : Int) (w : List Int) (l : List S26) : checkL n w (l.map sm) = if n < 1 ∨ n > 16 then 1 else fitsGo n l l.length ((w.length : Int) == n + 1) := by
  unfold checkL fitsGo
  rw [List.length_map]
  by_cases c : n < 1 ∨ n > 16
  · rw [if_pos c, if_pos c]
  · rw [if_neg c, if_neg c]
    by_cases c2 : (w.length : Int) = n + 1 ∧ ∀ s ∈ l, (s.f0.length : Int) = n
    · rw [if_neg (fun h => h ((fits_sm n w l).2 c2))]
      symm
      rw [if_pos (show ((w.length : Int) == n + 1) = true ∧ _ from ⟨beq_iff_eq.2 c2.1, c2.2⟩)]
    · rw [if_pos (fun h => c2 ((fits_sm n w l).1 h)), if_neg (fun h => c2 ⟨beq_iff_eq.1 h.1, h.2⟩)]


/-! ### mlp_hides: function 41 -/
def mlp_hides.f (a0 : Int) : Option (Bool) := if a0 > 0 then (some (decide (a0 ≤ 8))) else (some false)
set_option maxHeartbeats 8000000 in
set_option maxRecDepth 100000 in
theorem mlp_hides.calls (a0 : Int) (r : Bool) (w : World) (h : mlp_hides.f a0 = some r) :
  Calls Try.prog 41 #[.int .i64 a0] w fun e w' => e = .returned (.bool r) ∧ Drawn0 w w' := by
 have H : (if a0 > 0 then (some (decide (a0 ≤ 8))) else (some false)) = some r := h
 clear h
 by_cases c2 : a0 > 0
 ·
  rw [if_pos c2] at H
  have c2b0 : decide (0 < a0) = true := decide_eq_true c2
  clear c2
  obtain rfl := Option.some.inj H
  go_enter Try.func41, Try.ntmps41
  go_wp2
  go_ret
  exact ⟨by first | rfl | (simp; done) | (simp [*]; done), by repeat (first | exact ddR _ | apply ddS)⟩
 ·
  rw [if_neg c2] at H
  have c2b0 : decide (0 < a0) = false := decide_eq_false c2
  clear c2
  obtain rfl := Option.some.inj H
  go_enter Try.func41, Try.ntmps41
  go_wp2
  go_ret
  exact ⟨by first | rfl | (simp; done) | (simp [*]; done), by repeat (first | exact ddR _ | apply ddS)⟩

/-! ### mlp_Dim: function 19 -/
def mlp_Dim.f (a0 : Int) (a1 : Int) : Option (Int × Int) := (linear_Dim.f a0).bind fun bt101 => (if bt101.2 = 0 then ((mlp_hides.f a1).bind fun t103 => (if t103 = true then (some (wrap64 ((wrap64 ((wrap64 (a1 * bt101.1)) + a1)) + 1), 0)) else (some (0, 1)))) else (some (0, 1)))
set_option maxHeartbeats 8000000 in
set_option maxRecDepth 100000 in
theorem mlp_Dim.calls (a0 : Int) (a1 : Int) (r1 : Int) (r2 : Int) (w : World) (h : mlp_Dim.f a0 a1 = some (r1, r2)) :
  Calls Try.prog 19 #[.int .i64 a0, .int .i64 a1] w fun e w' => e = .returned (.tuple #[.int .i64 r1, .int .i64 r2]) ∧ Drawn0 w w' := by
 have H : ((linear_Dim.f a0).bind fun bt101 => (if bt101.2 = 0 then ((mlp_hides.f a1).bind fun t103 => (if t103 = true then (some (wrap64 ((wrap64 ((wrap64 (a1 * bt101.1)) + a1)) + 1), 0)) else (some (0, 1)))) else (some (0, 1)))) = some (r1, r2) := h
 clear h
 replace H := Option.bind_eq_some_iff.mp H
 obtain ⟨⟨t101, t102⟩, A30, H⟩ := H
 replace H : (if t102 = 0 then ((mlp_hides.f a1).bind fun t103 => (if t103 = true then (some (wrap64 ((wrap64 ((wrap64 (a1 * t101)) + a1)) + 1), 0)) else (some (0, 1)))) else (some (0, 1))) = some (r1, r2) := H
 have A3 := Aside0.mk A30
 clear A30
 by_cases c4 : t102 = 0
 ·
  rw [if_pos c4] at H
  have c4b0 : (t102 == 0) = true := beq_iff_eq.mpr c4
  have c4b1 : (t102 != 0) = false := bne_eq_false_iff_eq.mpr c4
  clear c4
  replace H := Option.bind_eq_some_iff.mp H
  obtain ⟨t103, A50, H⟩ := H
  replace H : (if t103 = true then (some (wrap64 ((wrap64 ((wrap64 (a1 * t101)) + a1)) + 1), 0)) else (some (0, 1))) = some (r1, r2) := H
  have A5 := Aside0.mk A50
  clear A50
  by_cases c6 : t103 = true
  ·
   subst c6
   have H1 : (some (wrap64 ((wrap64 ((wrap64 (a1 * t101)) + a1)) + 1), 0)) = some (r1, r2) := by rw [if_pos rfl] at H; exact H
   clear H
   have H := H1
   clear H1
   simp only [Option.some.injEq, Prod.mk.injEq] at H
   obtain ⟨rfl, rfl⟩ := H
   go_enter Try.func19, Try.ntmps19
   go_wp2_with (first | ((with_reducible refine gate_callee (f := 40) rfl ?_); refine goesL_ (some 10) rfl rfl Try.func40 (by kernel_rfl) rfl #[.int .i64 a0] rfl (by (try simp only [List.map_toArray, List.map_cons, List.map_nil]); first | done | rfl | (simp only [List.length_drop, List.length_take]; rfl)) ?_; (with_reducible refine (linear_Dim.calls a0 t101 t102 _ A3.out).mono ?_); rintro e w' ⟨rfl, ⟨nd, rfl⟩⟩; refine ⟨_, rfl, ?_⟩) | (go_at_call 41; (with_reducible refine (mlp_hides.calls a1 true _ A5.out).mono ?_); rintro e w' ⟨rfl, ⟨nd, rfl⟩⟩))
   go_ret2
   exact ⟨by first | rfl | (simp; done) | (simp [*]; done), by repeat (first | exact ddR _ | apply ddS)⟩
  ·
   replace c6 := Bool.eq_false_iff.mpr c6
   subst c6
   have H1 : (some (0, 1)) = some (r1, r2) := by rw [if_neg (show ¬ (false = true) by decide)] at H; exact H
   clear H
   have H := H1
   clear H1
   simp only [Option.some.injEq, Prod.mk.injEq] at H
   obtain ⟨rfl, rfl⟩ := H
   go_enter Try.func19, Try.ntmps19
   go_wp2_with (first | ((with_reducible refine gate_callee (f := 40) rfl ?_); refine goesL_ (some 10) rfl rfl Try.func40 (by kernel_rfl) rfl #[.int .i64 a0] rfl (by (try simp only [List.map_toArray, List.map_cons, List.map_nil]); first | done | rfl | (simp only [List.length_drop, List.length_take]; rfl)) ?_; (with_reducible refine (linear_Dim.calls a0 t101 t102 _ A3.out).mono ?_); rintro e w' ⟨rfl, ⟨nd, rfl⟩⟩; refine ⟨_, rfl, ?_⟩) | (go_at_call 41; (with_reducible refine (mlp_hides.calls a1 false _ A5.out).mono ?_); rintro e w' ⟨rfl, ⟨nd, rfl⟩⟩))
   go_ret2
   exact ⟨by first | rfl | (simp; done) | (simp [*]; done), by repeat (first | exact ddR _ | apply ddS)⟩
 ·
  rw [if_neg c4] at H
  have c4b0 : (t102 == 0) = false := beq_eq_false_iff_ne.mpr c4
  have c4b1 : (t102 != 0) = true := bne_iff_ne.mpr c4
  simp only [Option.some.injEq, Prod.mk.injEq] at H
  obtain ⟨rfl, rfl⟩ := H
  go_enter Try.func19, Try.ntmps19
  go_wp2_with (first | ((with_reducible refine gate_callee (f := 40) rfl ?_); refine goesL_ (some 10) rfl rfl Try.func40 (by kernel_rfl) rfl #[.int .i64 a0] rfl (by (try simp only [List.map_toArray, List.map_cons, List.map_nil]); first | done | rfl | (simp only [List.length_drop, List.length_take]; rfl)) ?_; (with_reducible refine (linear_Dim.calls a0 t101 t102 _ A3.out).mono ?_); rintro e w' ⟨rfl, ⟨nd, rfl⟩⟩; refine ⟨_, rfl, ?_⟩))
  go_ret2
  exact ⟨by first | rfl | (simp; done) | (simp [*]; done), by repeat (first | exact ddR _ | apply ddS)⟩

theorem mlp_Dim.is (a0 a1 : Int) : mlp_Dim.f a0 a1 = some (dimM a0 a1) := by
  unfold dimM
  by_cases c : a0 < 1 ∨ a0 > 16 ∨ badHid a1
  · rw [if_pos c]
    unfold mlp_Dim.f linear_Dim.f mlp_hides.f
    by_cases c1 : a0 < 1
    · rw [if_pos c1, Option.bind_some, if_neg (by decide)]
    · rw [if_neg c1]
      by_cases c2 : a0 > 16
      · rw [if_pos c2, Option.bind_some, if_neg (by decide)]
      · rw [if_neg c2, Option.bind_some, if_pos rfl]
        have hb : badHid a1 := c.elim (fun h => absurd h c1) (fun h => h.elim (fun h => absurd h c2) id)
        unfold badHid at hb
        by_cases c3 : a1 > 0
        · rw [if_pos c3, Option.bind_some, decide_eq_false (by omega), if_neg (by decide)]
        · rw [if_neg c3, Option.bind_some, if_neg (by decide)]
  · rw [if_neg c]
    have hb : ¬ badHid a1 := fun h => c (.inr (.inr h))
    obtain ⟨k, rfl, h1, h8⟩ := badHid_not hb
    unfold mlp_Dim.f linear_Dim.f mlp_hides.f
    have hm : (k : Int) * (a0 + 1) ≤ 8 * 17 := Int.mul_le_mul (by omega) (by omega) (by omega) (by omega)
    have h0 : 0 ≤ (k : Int) * (a0 + 1) := Int.mul_nonneg (by omega) (by omega)
    have e1 : wrap64 (a0 + 1) = a0 + 1 := wrap64_of (by unfold I64; omega)
    rw [if_neg (by omega), if_neg (by omega), e1, Option.bind_some, if_pos rfl, if_pos (show (k : Int) > 0 by omega), Option.bind_some, if_pos (decide_eq_true (by omega))]
    show some (wrap64 (wrap64 (wrap64 ((k : Int) * (a0 + 1)) + k) + 1), 0) = _
    generalize (k : Int) * (a0 + 1) = p at hm h0 ⊢
    rw [wrap64_of (show I64 p by unfold I64; omega), wrap64_of (show I64 (p + k) by unfold I64; omega), wrap64_of (show I64 (p + k + 1) by unfold I64; omega)]


-- NOT PRINTED: function 67 (slices_Chunk_int64_int64_1)

-- NOT PRINTED: function 49 (slices_Chunk_int64_int64)

/-! ### mlp_split: function 30 -/
theorem dimM_of {n : Int} {k : Nat} (h1 : 1 ≤ n) (h2 : n ≤ 16) (hk1 : 1 ≤ k) (hk8 : k ≤ 8) : mlp_Dim.f n k = some (k * (n + 1) + k + 1, 0) := by
  unfold mlp_Dim.f linear_Dim.f mlp_hides.f
  have hm : (k : Int) * (n + 1) ≤ 8 * 17 := Int.mul_le_mul (by omega) (by omega) (by omega) (by omega)
  have h0 : 0 ≤ (k : Int) * (n + 1) := Int.mul_nonneg (by omega) (by omega)
  have e1 : wrap64 (n + 1) = n + 1 := wrap64_of (by unfold I64; omega)
  rw [if_neg (by omega), if_neg (by omega), e1, Option.bind_some, if_pos rfl, if_pos (show (k : Int) > 0 by omega), Option.bind_some, if_pos (decide_eq_true (by omega))]
  show some (wrap64 (wrap64 (wrap64 ((k : Int) * (n + 1)) + k) + 1), 0) = _
  generalize (k : Int) * (n + 1) = p at hm h0 ⊢
  rw [wrap64_of (show I64 p by unfold I64; omega), wrap64_of (show I64 (p + k) by unfold I64; omega), wrap64_of (show I64 (p + k + 1) by unfold I64; omega)]
theorem mlp_split.good (k m : Nat) (ad : Addr) (c : Nat) (l : List Int) (w : World) (hk1 : 1 ≤ k) (hk8 : k ≤ 8) (hm2 : 2 ≤ m) (hm17 : m ≤ 17) (hkm : k * m + k + 1 = l.length) (hr : Kd.C (Kd.int .i64) w (some ad) l.length l) (hc : l.length ≤ c) :
    Calls Try.prog 30 #[.int .i64 k, .slice (some ad) l.length c] w fun e w' => ∃ v0_ : Value, e = .returned (.tuple #[.agg #[.slice (some (ad.add (k * m))) (k + 1) (c - k * m), v0_, .int .i64 ((m : Int) - 1)], .int .i64 0]) ∧ w'.ownsRow w.heap.size 22 1 v0_ k (cutsM ad m k) ∧ Below w.heap.size w w' := by
  refine split_in k m ad c l w hk1 hk8 hm2 hm17 hkm hr hc (fun w => mlp_hides.calls _ true _ ?_) (fun w => mlp_Dim.calls _ _ _ _ _ ?_)
  · unfold mlp_hides.f
    rw [if_pos (show (k : Int) > 0 by omega), decide_eq_true (show (k : Int) ≤ 8 by omega)]
  · rw [dimM_of (by omega) (by omega) hk1 hk8]
    have h3 : ((k * m : Nat) : Int) = (k : Int) * m := by push_cast; rfl
    rw [show (m : Int) - 1 + 1 = m by omega, ← h3]
    generalize k * m = p at hkm h3 ⊢
    rw [show ((p : Int) + k + 1) = ((l.length : Nat) : Int) by omega]
theorem dimM_tot (n : Int) (k : Nat) (hk1 : 1 ≤ k) (hk8 : k ≤ 8) : ∃ mm e, mlp_Dim.f n k = some (mm, e) ∧ (e ≠ 0 ∨ e = 0 ∧ 1 ≤ n ∧ n ≤ 16 ∧ mm = k * (n + 1) + k + 1) := by
  by_cases c1 : 1 ≤ n
  · by_cases c2 : n ≤ 16
    · exact ⟨_, _, dimM_of c1 c2 hk1 hk8, .inr ⟨rfl, c1, c2, rfl⟩⟩
    · refine ⟨0, 1, ?_, .inl (by decide)⟩
      unfold mlp_Dim.f linear_Dim.f
      rw [if_neg (by omega), if_pos (by omega), Option.bind_some, if_neg (by decide)]
  · refine ⟨0, 1, ?_, .inl (by decide)⟩
    unfold mlp_Dim.f linear_Dim.f
    rw [if_pos (by omega), Option.bind_some, if_neg (by decide)]
theorem lenM_of {k m : Nat} {w : List Int} (hk1 : 1 ≤ k) (h : k * m + k + 1 = w.length) : lenM k w = m := by
  unfold lenM
  have h2 : w.length - 1 = k * (m + 1) := by rw [Nat.mul_add, Nat.mul_one]; omega
  rw [h2, Nat.mul_div_cancel_left _ (by omega)]
  omega
set_option maxHeartbeats 4000000 in
set_option maxRecDepth 100000 in
theorem mlp_split.bad (a0 : Int) (A1 : Option Addr) (c1 : Nat) (l1 : List Int) (w : World) (hr1 : Kd.C (Kd.int .i64) w A1 l1.length l1) (hc1 : l1.length ≤ c1) (h : (splitM a0 l1).2.2 ≠ 0) :
    Calls Try.prog 30 #[.int .i64 a0, .slice A1 l1.length c1] w fun e w' => e = .returned (.tuple #[.agg #[.slice none 0 0, .slice none 0 0, .int .i64 0], .int .i64 (splitM a0 l1).2.2]) ∧ Below w.heap.size w w' := by
  have hu54 := Try.underlying54
  have hu52 := Try.underlying52
  by_cases hb : badHid a0
  · have A : mlp_hides.f a0 = some false := by
      unfold mlp_hides.f
      unfold badHid at hb
      by_cases c : a0 > 0
      · rw [if_pos c, decide_eq_false (by omega)]
      · rw [if_neg c]
    rw [show (splitM a0 l1).2.2 = 1 by unfold splitM; rw [if_pos hb]]
    clear h hb hr1 hc1
    go_enter Try.func30, Try.ntmps30
    go_wp2_with (go_at_call 41; (with_reducible refine (mlp_hides.calls a0 false _ A).mono ?_); rintro e w' ⟨rfl, ⟨nd, rfl⟩⟩)
    have hb0 : ((w.alloc (Obj.cells #[.slice none 0 0, .slice none 0 0, .int .i64 0] 54)).drewN (nd)).heap[w.heap.size]? = some (Obj.cells #[.slice none 0 0, .slice none 0 0, .int .i64 0] 54 (0, 0)) := kkN (blk_new w _) _
    have hbf := blk_set (blk_set (blk_set hb0 0 (.slice none 0 0)) 1 (.slice none 0 0)) 2 (.int .i64 0)
    have hBf := (((zzN (zzA (Below.refl w.heap.size w) (Obj.cells #[.slice none 0 0, .slice none 0 0, .int .i64 0] 54)) (nd)).setCell (p := ⟨w.heap.size, 0, none⟩) (Nat.le_refl _) (.slice none 0 0)).setCell (p := ⟨w.heap.size, 1, none⟩) (Nat.le_refl _) (.slice none 0 0)).setCell (p := ⟨w.heap.size, 2, none⟩) (Nat.le_refl _) (.int .i64 0)
    generalize World.setCell _ ⟨w.heap.size, 2, none⟩ _ = Wf at hbf hBf ⊢
    have e0 : Wf.cell? ⟨w.heap.size, 0, none⟩ = some (.slice none 0 0) := (blk_cell hbf 0).trans rfl
    have e1 : Wf.cell? ⟨w.heap.size, 1, none⟩ = some (.slice none 0 0) := (blk_cell hbf 1).trans rfl
    have e2 : Wf.cell? ⟨w.heap.size, 2, none⟩ = some (.int .i64 0) := (blk_cell hbf 2).trans rfl
    (try simp only [Exit.inBlock, Exit.then])
    refine bodyPost_ret (v := .tuple #[.agg #[.slice none 0 0, .slice none 0 0, .int .i64 0], .int .i64 1]) ?_ rfl ⟨rfl, hBf⟩
    simp [results, go_sem, hu54, hu52, e0, e1, e2]
  · obtain ⟨k, rfl, hk1, hk8⟩ := badHid_not hb
    have hng : ¬ goodNet k l1 := fun g => h (by unfold splitM; rw [if_neg hb, Int.toNat_natCast, if_pos g])
    rw [show (splitM k l1).2.2 = 4 by unfold splitM; rw [if_neg hb, Int.toNat_natCast, if_neg hng]]
    have A : mlp_hides.f k = some true := by
      unfold mlp_hides.f
      rw [if_pos (by omega), decide_eq_true (by omega)]
    have hk0 : (k : Int) ≠ 0 := by omega
    have D : ∀ n : Int, ∃ mm e, mlp_Dim.f n k = some (mm, e) ∧ (e ≠ 0 ∨ e = 0 ∧ mm ≠ l1.length) := by
      intro n
      obtain ⟨mm, e, h1, h2⟩ := dimM_tot n k hk1 hk8
      refine ⟨mm, e, h1, h2.imp id ?_⟩
      rintro ⟨rfl, n1, n2, rfl⟩
      refine ⟨rfl, fun e => hng ?_⟩
      obtain ⟨m, rfl⟩ : ∃ m : Nat, n = (m : Int) - 1 := ⟨(n + 1).toNat, by omega⟩
      have h3 : ((k * m : Nat) : Int) = (k : Int) * m := by push_cast; rfl
      rw [show (m : Int) - 1 + 1 = m by omega, ← h3] at e
      have hl := lenM_of (w := l1) (m := m) hk1 (by omega)
      exact ⟨by omega, by omega, by rw [hl]; omega⟩
    clear h hb hr1 hc1 hng
    obtain ⟨mm, e, hd, he⟩ := D (wrap64 (wrap64 (wrap64 ((wrap64 ((l1.length : Int) - 1)).tdiv k) - 1) - 1))
    clear D
    by_cases c : e = 0
    · subst c
      have hmm : mm ≠ l1.length := he.elim (fun h => absurd rfl h) (fun h => h.2)
      have hm1 : (mm != (l1.length : Int)) = true := bne_iff_ne.2 hmm
      clear he hmm
      go_enter Try.func30, Try.ntmps30
      go_wp2_with (first | (go_at_call 41; (with_reducible refine (mlp_hides.calls _ true _ A).mono ?_); rintro e w' ⟨rfl, ⟨nd, rfl⟩⟩) | (go_at_call 19; (with_reducible refine (mlp_Dim.calls _ _ _ _ _ hd).mono ?_); rintro e w' ⟨rfl, ⟨nd1, rfl⟩⟩))
      have hb0 : ((w.alloc (Obj.cells #[.slice none 0 0, .slice none 0 0, .int .i64 0] 54)).drewN (nd + nd1)).heap[w.heap.size]? = some (Obj.cells #[.slice none 0 0, .slice none 0 0, .int .i64 0] 54 (0, 0)) := kkN (blk_new w _) _
      have hbf := blk_set (blk_set (blk_set hb0 0 (.slice none 0 0)) 1 (.slice none 0 0)) 2 (.int .i64 0)
      have hBf := (((zzN (zzA (Below.refl w.heap.size w) (Obj.cells #[.slice none 0 0, .slice none 0 0, .int .i64 0] 54)) (nd + nd1)).setCell (p := ⟨w.heap.size, 0, none⟩) (Nat.le_refl _) (.slice none 0 0)).setCell (p := ⟨w.heap.size, 1, none⟩) (Nat.le_refl _) (.slice none 0 0)).setCell (p := ⟨w.heap.size, 2, none⟩) (Nat.le_refl _) (.int .i64 0)
      generalize World.setCell _ ⟨w.heap.size, 2, none⟩ _ = Wf at hbf hBf ⊢
      have e0 : Wf.cell? ⟨w.heap.size, 0, none⟩ = some (.slice none 0 0) := (blk_cell hbf 0).trans rfl
      have e1 : Wf.cell? ⟨w.heap.size, 1, none⟩ = some (.slice none 0 0) := (blk_cell hbf 1).trans rfl
      have e2 : Wf.cell? ⟨w.heap.size, 2, none⟩ = some (.int .i64 0) := (blk_cell hbf 2).trans rfl
      (try simp only [Exit.inBlock, Exit.then])
      refine bodyPost_ret (v := .tuple #[.agg #[.slice none 0 0, .slice none 0 0, .int .i64 0], .int .i64 4]) ?_ rfl ⟨rfl, hBf⟩
      simp [results, go_sem, hu54, hu52, e0, e1, e2]
    · have he0 : (e == 0) = false := beq_eq_false_iff_ne.2 c
      have he1 : (e != 0) = true := bne_iff_ne.2 c
      clear he c
      go_enter Try.func30, Try.ntmps30
      go_wp2_with (first | (go_at_call 41; (with_reducible refine (mlp_hides.calls _ true _ A).mono ?_); rintro e w' ⟨rfl, ⟨nd, rfl⟩⟩) | (go_at_call 19; (with_reducible refine (mlp_Dim.calls _ _ _ _ _ hd).mono ?_); rintro e w' ⟨rfl, ⟨nd1, rfl⟩⟩))
      have hb0 : ((w.alloc (Obj.cells #[.slice none 0 0, .slice none 0 0, .int .i64 0] 54)).drewN (nd + nd1)).heap[w.heap.size]? = some (Obj.cells #[.slice none 0 0, .slice none 0 0, .int .i64 0] 54 (0, 0)) := kkN (blk_new w _) _
      have hbf := blk_set (blk_set (blk_set hb0 0 (.slice none 0 0)) 1 (.slice none 0 0)) 2 (.int .i64 0)
      have hBf := (((zzN (zzA (Below.refl w.heap.size w) (Obj.cells #[.slice none 0 0, .slice none 0 0, .int .i64 0] 54)) (nd + nd1)).setCell (p := ⟨w.heap.size, 0, none⟩) (Nat.le_refl _) (.slice none 0 0)).setCell (p := ⟨w.heap.size, 1, none⟩) (Nat.le_refl _) (.slice none 0 0)).setCell (p := ⟨w.heap.size, 2, none⟩) (Nat.le_refl _) (.int .i64 0)
      generalize World.setCell _ ⟨w.heap.size, 2, none⟩ _ = Wf at hbf hBf ⊢
      have e0 : Wf.cell? ⟨w.heap.size, 0, none⟩ = some (.slice none 0 0) := (blk_cell hbf 0).trans rfl
      have e1 : Wf.cell? ⟨w.heap.size, 1, none⟩ = some (.slice none 0 0) := (blk_cell hbf 1).trans rfl
      have e2 : Wf.cell? ⟨w.heap.size, 2, none⟩ = some (.int .i64 0) := (blk_cell hbf 2).trans rfl
      (try simp only [Exit.inBlock, Exit.then])
      refine bodyPost_ret (v := .tuple #[.agg #[.slice none 0 0, .slice none 0 0, .int .i64 0], .int .i64 4]) ?_ rfl ⟨rfl, hBf⟩
      simp [results, go_sem, hu54, hu52, e0, e1, e2]


/-! ### linear_CheckP: function 33 -/
def linear_CheckP.l0 : Nat → Int → List (S26) → Bool → List (S26) → Int → Int → Option (Int)
 | 0, _, _, _, _, _, _ => none
 | k + 1, x0, x2, x9, x24, x25, x26 => if x26 < x25 then (if 0 ≤ x26 then (if x26 < (x24.length : Int) then (if x9 = true then (linear_CheckP.l0 k x0 x2 ((((rd_T26 x24 x26).f0).length : Int) == x0) x24 x25 (wrap64 (x26 + 1))) else (linear_CheckP.l0 k x0 x2 false x24 x25 (wrap64 (x26 + 1)))) else (none)) else (none)) else (if x9 = true then (if (x2.length : Int) = 0 then (some 1) else (if (x2.length : Int) > 64 then (some 1) else (some 0))) else (some 4))
def linear_CheckP.f (k : Nat) (a0 : Int) (l1 : List Int) (l2 : List (S26)) : Option (Int) := (linear_Dim.f a0).bind fun bt104 => (if bt104.2 = 0 then (linear_CheckP.l0 k a0 l2 ((l1.length : Int) == bt104.1) l2 (l2.length : Int) 0) else (some bt104.2))
theorem linear_CheckP.mono_l : ∀ k, (∀ y0 y1 y2 y3 y4 y5, LeO (linear_CheckP.l0 k y0 y1 y2 y3 y4 y5) (linear_CheckP.l0 (k + 1) y0 y1 y2 y3 y4 y5))
 | 0 => fun _ _ _ _ _ _ r h => by simp [linear_CheckP.l0] at h
 | k + 1 => by
  have ih0 := linear_CheckP.mono_l k
  ·
   intro y0 y1 y2 y3 y4 y5
   unfold linear_CheckP.l0
   repeat' first
   | (with_reducible exact ih0 _ _ _ _ _ _)
   | (with_reducible exact LeO.refl _)
   | (with_reducible exact LeO.none _)
   | (with_reducible refine LeO.ite ?_ ?_)
   | (with_reducible refine LeO.bind ?_ (fun _ => ?_))
   | exact ih0 _ _ _ _ _ _
   | exact LeO.none _
   | refine LeO.ite ?_ ?_
   | refine LeO.bind ?_ (fun _ => ?_)
theorem linear_CheckP.mono : ∀ a0 a1 a2 k, LeO (linear_CheckP.f k a0 a1 a2) (linear_CheckP.f (k + 1) a0 a1 a2) := by
 intro a0 a1 a2 k
 have ih0 := linear_CheckP.mono_l k
 unfold linear_CheckP.f
 repeat' first
   | (with_reducible exact ih0 _ _ _ _ _ _)
   | (with_reducible exact LeO.refl _)
   | (with_reducible exact LeO.none _)
   | (with_reducible refine LeO.ite ?_ ?_)
   | (with_reducible refine LeO.bind ?_ (fun _ => ?_))
   | exact ih0 _ _ _ _ _ _
   | exact LeO.none _
   | refine LeO.ite ?_ ?_
   | refine LeO.bind ?_ (fun _ => ?_)
set_option maxHeartbeats 8000000 in
set_option maxRecDepth 100000 in
theorem linear_CheckP.calls (k : Nat) (a0 : Int) (A1 : Option Addr) (c1 : Nat) (l1 : List Int) (A2 : Option Addr) (c2 : Nat) (l2 : List (S26)) (r : Int) (w : World) (hr1 : Kd.C (Kd.int .i64) w A1 l1.length l1) (hc1 : l1.length ≤ c1) (hr2 : Kd.C k26 w A2 l2.length l2) (hc2 : l2.length ≤ c2) (h : linear_CheckP.f k a0 l1 l2 = some r) :
  Calls Try.prog 33 #[.int .i64 a0, .slice A1 l1.length c1, .slice A2 l2.length c2] w fun e w' => e = .returned (.int .i64 r) ∧ Below w.heap.size w w' := by
 have hu26 := Try.underlying26
 have HR1 := Aside0.mk hr1
 have HC1 := Aside0.mk hc1
 clear hr1 hc1
 have HR2 := Aside0.mk hr2
 have HC2 := Aside0.mk hc2
 clear hr2 hc2
 have HB := Aside0.mk (Below.refl w.heap.size w)
 have H : ((linear_Dim.f a0).bind fun bt104 => (if bt104.2 = 0 then (linear_CheckP.l0 k a0 l2 ((l1.length : Int) == bt104.1) l2 (l2.length : Int) 0) else (some bt104.2))) = some r := h
 clear h
 replace H := Option.bind_eq_some_iff.mp H
 obtain ⟨⟨t104, t105⟩, A40, H⟩ := H
 replace H : (if t105 = 0 then (linear_CheckP.l0 k a0 l2 ((l1.length : Int) == t104) l2 (l2.length : Int) 0) else (some t105)) = some r := H
 have A4 := Aside0.mk A40
 clear A40
 by_cases c5 : t105 = 0
 ·
  rw [if_pos c5] at H
  have c5b0 : (t105 == 0) = true := beq_iff_eq.mpr c5
  have c5b1 : (t105 != 0) = false := bne_eq_false_iff_eq.mpr c5
  clear c5
  have H' := Aside0.mk H
  clear H
  go_enter Try.func33, Try.ntmps33
  go_wp2_with (first | ((with_reducible refine gate_callee (f := 40) rfl ?_); refine goesL_ (some 14) rfl rfl Try.func40 (by kernel_rfl) rfl #[.int .i64 a0] rfl (by (try simp only [List.map_toArray, List.map_cons, List.map_nil]); first | done | rfl | (simp only [List.length_drop, List.length_take]; rfl)) ?_; (with_reducible refine (linear_Dim.calls a0 t104 t105 _ A4.out).mono ?_); rintro e w' ⟨rfl, ⟨nd, rfl⟩⟩; refine ⟨_, rfl, ?_⟩))
  go_loopg [9, 26] k (fun kq v9 v26 w' => ∃ (x9_1 : Bool) (x26_1 : Int), v9 = .bool x9_1 ∧ v26 = .int .i64 x26_1 ∧ Aside0 (linear_CheckP.l0 kq a0 l2 x9_1 l2 (l2.length : Int) x26_1 = some r) ∧ Aside0 (kq ≤ k) ∧ Aside0 (Below w.heap.size w w'))
  case atStart => exact ⟨(((l1.length : Int) == t104)), (0), (by first | rfl | (simp; done) | (simp [*]; done)), (by first | rfl | (simp; done) | (simp [*]; done)), H', ⟨Nat.le_refl _⟩, ⟨by repeat (first | (with_reducible first | exact HB.out | apply zzA | apply zzN | apply zzD) | exact HB.out)⟩⟩
  case round =>
   clear H'
   try clear c1
   try clear c2
   try clear p2
   try clear c3
   try clear c4
   try clear c5
   try clear c5b0
   try clear c5b1
   obtain ⟨x9_1, x26_1, rfl, rfl, HA, HK1, HB⟩ := hrel
   cases gk with
   | zero => exact absurd HA.out (by simp [linear_CheckP.l0])
   | succ k1 =>
    have H := HA.out
    clear HA
    simp only [linear_CheckP.l0] at H
    by_cases c6 : x26_1 < (l2.length : Int)
    ·
     rw [if_pos c6] at H
     have c6b0 : decide (x26_1 < (l2.length : Int)) = true := decide_eq_true c6
     clear c6
     by_cases c7 : 0 ≤ x26_1
     ·
      rw [if_pos c7] at H
      have c7b0 : decide (0 ≤ x26_1) = true := decide_eq_true c7
      clear c7
      by_cases c8 : x26_1 < (l2.length : Int)
      ·
       rw [if_pos c8] at H
       have c8b0 : decide (x26_1 < (l2.length : Int)) = true := decide_eq_true c8
       clear c8
       by_cases c9 : x9_1 = true
       ·
        subst c9
        have H1 : (linear_CheckP.l0 k1 a0 l2 ((((rd_T26 l2 x26_1).f0).length : Int) == a0) l2 (l2.length : Int) (wrap64 (x26_1 + 1))) = some r := by rw [if_pos rfl] at H; exact H
        clear H
        have H := H1
        clear H1
        have H' := Aside0.mk H
        clear H
        have p106 : 0 ≤ (x26_1 : Int) := of_decide_eq_true (by first | (with_reducible assumption) | assumption)
        have q106 : x26_1 < (l2.length : Int) := of_decide_eq_true (by first | (with_reducible assumption) | assumption)
        obtain ⟨ad106, A106_0, c106_0, e106, hx106_0, hx106_1, hl106_0, hi106_0⟩ := at_T26 HR2.out x26_1 p106 q106
        cases e106
        replace hx106_0 := (HB.out.cell (World.block_lt_of_cell? w _ hx106_0)).trans hx106_0
        replace hx106_1 := (HB.out.cell (World.block_lt_of_cell? w _ hx106_1)).trans hx106_1
        have HR106_0 := Aside0.mk hi106_0
        have HC106_0 := Aside0.mk hl106_0
        clear hi106_0 hl106_0
        replace p106 := eq_true p106
        replace q106 := eq_true q106
        go_wp2_with (first | ((with_reducible refine gate_dst (N := 11) rfl ?_); (try (refine gate_guard (by rfl) ?_; dsimp only)); refine box_event ?hg (N := 11) ?hd (cs := #[.slice none 0 0, .int .i64 0]) (t := 26) ?hr ?_; (case hd => rfl); (case hg => rfl); (case hr => first | (go_simp; done) | (go_simp; rfl)); intro gb107 hg w10 hbox hb; have n0_ := Aside0.mk (zzT (by repeat (first | (with_reducible first | exact HB.out | apply zzA | apply zzN | apply zzD) | exact HB.out)) hb); have n1_ := Aside0.mk (hbox); have n2_ := Aside0.mk ((by rw [hg]; exact (zzS (by repeat (first | (with_reducible first | exact HB.out | apply zzA | apply zzN | apply zzD) | exact HB.out))) : w.heap.size ≤ gb107)); have n3_ := Aside0.mk ((by rw [hg]; exact (zzS (by repeat (first | (with_reducible first | exact HB.out | apply zzA | apply zzN | apply zzD) | exact HB.out))) : w.heap.size ≤ gb107)); clear HB; have HB := n0_; have BK107 := n1_; have GW107 := n2_; have GE107 := n3_; clear n0_ n1_ n2_ n3_; clear hb hbox hg; have hcz11_0 : w10.cell? ⟨gb107, 0, none⟩ = some (.slice none 0 0) := (blk_cell BK107.out 0).trans rfl; have hcz11_1 : w10.cell? ⟨gb107, 1, none⟩ = some (.int .i64 0) := (blk_cell BK107.out 1).trans rfl; have hfz11_0 := blk_frozen BK107.out 0; have hfz11_1 := blk_frozen BK107.out 1))
        go_roundg k1
        case measure => have := HK1.out; omega
        case rel => exact ⟨(((((rd_T26 l2 x26_1).f0).length : Int) == a0)), (wrap64 (x26_1 + 1)), (by first | rfl | (simp; done) | (simp [*]; done)), (by first | rfl | (simp; done) | (simp [*]; done)), H', ⟨by have := HK1.out; omega⟩, ⟨by repeat (first | (with_reducible first | exact HB.out | apply zzA | apply zzN | apply zzD | refine below_set ?_ GE107.out) | exact HB.out)⟩⟩
       ·
        replace c9 := Bool.eq_false_iff.mpr c9
        subst c9
        have H1 : (linear_CheckP.l0 k1 a0 l2 false l2 (l2.length : Int) (wrap64 (x26_1 + 1))) = some r := by rw [if_neg (show ¬ (false = true) by decide)] at H; exact H
        clear H
        have H := H1
        clear H1
        have H' := Aside0.mk H
        clear H
        have p106 : 0 ≤ (x26_1 : Int) := of_decide_eq_true (by first | (with_reducible assumption) | assumption)
        have q106 : x26_1 < (l2.length : Int) := of_decide_eq_true (by first | (with_reducible assumption) | assumption)
        obtain ⟨ad106, A106_0, c106_0, e106, hx106_0, hx106_1, hl106_0, hi106_0⟩ := at_T26 HR2.out x26_1 p106 q106
        cases e106
        replace hx106_0 := (HB.out.cell (World.block_lt_of_cell? w _ hx106_0)).trans hx106_0
        replace hx106_1 := (HB.out.cell (World.block_lt_of_cell? w _ hx106_1)).trans hx106_1
        have HR106_0 := Aside0.mk hi106_0
        have HC106_0 := Aside0.mk hl106_0
        clear hi106_0 hl106_0
        replace p106 := eq_true p106
        replace q106 := eq_true q106
        go_wp2_with (first | ((with_reducible refine gate_dst (N := 11) rfl ?_); (try (refine gate_guard (by rfl) ?_; dsimp only)); refine box_event ?hg (N := 11) ?hd (cs := #[.slice none 0 0, .int .i64 0]) (t := 26) ?hr ?_; (case hd => rfl); (case hg => rfl); (case hr => first | (go_simp; done) | (go_simp; rfl)); intro gb107 hg w12 hbox hb; have n0_ := Aside0.mk (zzT (by repeat (first | (with_reducible first | exact HB.out | apply zzA | apply zzN | apply zzD) | exact HB.out)) hb); have n1_ := Aside0.mk (hbox); have n2_ := Aside0.mk ((by rw [hg]; exact (zzS (by repeat (first | (with_reducible first | exact HB.out | apply zzA | apply zzN | apply zzD) | exact HB.out))) : w.heap.size ≤ gb107)); have n3_ := Aside0.mk ((by rw [hg]; exact (zzS (by repeat (first | (with_reducible first | exact HB.out | apply zzA | apply zzN | apply zzD) | exact HB.out))) : w.heap.size ≤ gb107)); clear HB; have HB := n0_; have BK107 := n1_; have GW107 := n2_; have GE107 := n3_; clear n0_ n1_ n2_ n3_; clear hb hbox hg; have hcz13_0 : w12.cell? ⟨gb107, 0, none⟩ = some (.slice none 0 0) := (blk_cell BK107.out 0).trans rfl; have hcz13_1 : w12.cell? ⟨gb107, 1, none⟩ = some (.int .i64 0) := (blk_cell BK107.out 1).trans rfl; have hfz13_0 := blk_frozen BK107.out 0; have hfz13_1 := blk_frozen BK107.out 1))
        go_roundg k1
        case measure => have := HK1.out; omega
        case rel => exact ⟨(false), (wrap64 (x26_1 + 1)), (by first | rfl | (simp; done) | (simp [*]; done)), (by first | rfl | (simp; done) | (simp [*]; done)), H', ⟨by have := HK1.out; omega⟩, ⟨by repeat (first | (with_reducible first | exact HB.out | apply zzA | apply zzN | apply zzD | refine below_set ?_ GE107.out) | exact HB.out)⟩⟩
      ·
       rw [if_neg c8] at H
       exact absurd H (by simp)
     ·
      rw [if_neg c7] at H
      exact absurd H (by simp)
    ·
     rw [if_neg c6] at H
     have c6b0 : decide (x26_1 < (l2.length : Int)) = false := decide_eq_false c6
     clear c6
     by_cases c14 : x9_1 = true
     ·
      subst c14
      have H1 : (if (l2.length : Int) = 0 then (some 1) else (if (l2.length : Int) > 64 then (some 1) else (some 0))) = some r := by rw [if_pos rfl] at H; exact H
      clear H
      have H := H1
      clear H1
      by_cases c15 : (l2.length : Int) = 0
      ·
       rw [if_pos c15] at H
       have c15b0 : ((l2.length : Int) == 0) = true := beq_iff_eq.mpr c15
       have c15b1 : ((l2.length : Int) != 0) = false := bne_eq_false_iff_eq.mpr c15
       clear c15
       obtain rfl := Option.some.inj H
       go_wp2
       go_ret
       exact ⟨by first | rfl | (simp [errW_none, errW_some] <;> rfl) | (simp [*, errW_none, errW_some] <;> rfl), by repeat (first | (with_reducible first | exact HB.out | apply zzA | apply zzN | apply zzD) | exact HB.out)⟩
      ·
       rw [if_neg c15] at H
       have c15b0 : ((l2.length : Int) == 0) = false := beq_eq_false_iff_ne.mpr c15
       have c15b1 : ((l2.length : Int) != 0) = true := bne_iff_ne.mpr c15
       have c15b2 : ¬ (l2 = []) := fun h_ => c15 (by rw [h_]; rfl)
       by_cases c16 : (l2.length : Int) > 64
       ·
        rw [if_pos c16] at H
        have c16b0 : decide (64 < (l2.length : Int)) = true := decide_eq_true c16
        have c16b1 : decide (64 < l2.length) = true := decide_eq_true (by omega)
        clear c16
        obtain rfl := Option.some.inj H
        go_wp2
        go_ret
        exact ⟨by first | rfl | (simp [errW_none, errW_some] <;> rfl) | (simp [*, errW_none, errW_some] <;> rfl), by repeat (first | (with_reducible first | exact HB.out | apply zzA | apply zzN | apply zzD) | exact HB.out)⟩
       ·
        rw [if_neg c16] at H
        have c16b0 : decide (64 < (l2.length : Int)) = false := decide_eq_false c16
        have c16b1 : decide (64 < l2.length) = false := decide_eq_false (by omega)
        clear c16
        obtain rfl := Option.some.inj H
        go_wp2
        go_ret
        exact ⟨by first | rfl | (simp [errW_none, errW_some] <;> rfl) | (simp [*, errW_none, errW_some] <;> rfl), by repeat (first | (with_reducible first | exact HB.out | apply zzA | apply zzN | apply zzD) | exact HB.out)⟩
     ·
      replace c14 := Bool.eq_false_iff.mpr c14
      subst c14
      have H1 : (some 4) = some r := by rw [if_neg (show ¬ (false = true) by decide)] at H; exact H
      clear H
      have H := H1
      clear H1
      obtain rfl := Option.some.inj H
      go_wp2
      go_ret
      exact ⟨by first | rfl | (simp [errW_none, errW_some] <;> rfl) | (simp [*, errW_none, errW_some] <;> rfl), by repeat (first | (with_reducible first | exact HB.out | apply zzA | apply zzN | apply zzD) | exact HB.out)⟩
 ·
  rw [if_neg c5] at H
  have c5b0 : (t105 == 0) = false := beq_eq_false_iff_ne.mpr c5
  have c5b1 : (t105 != 0) = true := bne_iff_ne.mpr c5
  obtain rfl := Option.some.inj H
  go_enter Try.func33, Try.ntmps33
  go_wp2_with (first | ((with_reducible refine gate_callee (f := 40) rfl ?_); refine goesL_ (some 14) rfl rfl Try.func40 (by kernel_rfl) rfl #[.int .i64 a0] rfl (by (try simp only [List.map_toArray, List.map_cons, List.map_nil]); first | done | rfl | (simp only [List.length_drop, List.length_take]; rfl)) ?_; (with_reducible refine (linear_Dim.calls a0 t104 t105 _ A4.out).mono ?_); rintro e w' ⟨rfl, ⟨nd, rfl⟩⟩; refine ⟨_, rfl, ?_⟩))
  go_ret
  exact ⟨by first | rfl | (simp [errW_none, errW_some] <;> rfl) | (simp [*, errW_none, errW_some] <;> rfl), by repeat (first | (with_reducible first | exact HB.out | apply zzA | apply zzN | apply zzD) | exact HB.out)⟩

theorem linear_CheckP.loop (x0 : Int) (x2 : List S26) (hb : x2.length ≤ 9223372036854775807) : ∀ (d i : Nat) (b : Bool), d + i = x2.length →
    linear_CheckP.l0 (d + 1) x0 x2 b x2 (x2.length : Int) (i : Int) = some (fitsGo x0 (x2.drop i) x2.length b) := by
  intro d
  induction d with
  | zero =>
    intro i b hd
    rw [linear_CheckP.l0, if_neg (by omega), List.drop_eq_nil_of_le (by omega)]
    by_cases c : b = true
    · rw [if_pos c, c, fitsGo_nil]
      by_cases c2 : (x2.length : Int) = 0
      · rw [if_pos c2, if_pos (by omega)]
      · rw [if_neg c2]
        by_cases c3 : (x2.length : Int) > 64
        · rw [if_pos c3, if_pos (by omega)]
        · rw [if_neg c3, if_neg (by omega)]
    · rw [if_neg c, Bool.eq_false_iff.2 c, fitsGo_false]
  | succ d ih =>
    intro i b hd
    have hi : i < x2.length := by omega
    rw [linear_CheckP.l0, if_pos (by omega), if_pos (by omega), if_pos (by omega), rd_sm hi, List.drop_eq_getElem_cons hi, wrap64_of (by unfold I64; omega), show (i : Int) + 1 = ((i + 1 : Nat) : Int) by omega, ih (i + 1) _ (by omega), ih (i + 1) _ (by omega)]
    by_cases c : b = true
    · rw [if_pos c, c, fitsGo_cons]
    · rw [if_neg c, Bool.eq_false_iff.2 c, fitsGo_false, fitsGo_false]
def linear_Check.f (a0 : Int) (l1 : List Int) (l2 : List S26) : Option Int := some (checkL a0 l1 (l2.map sm))
theorem linear_Check.calls (a0 : Int) (A1 : Option Addr) (c1 : Nat) (l1 : List Int) (A2 : Option Addr) (c2 : Nat) (l2 : List (S26)) (r : Int) (w : World) (hr1 : Kd.C (Kd.int .i64) w A1 l1.length l1) (hc1 : l1.length ≤ c1) (hr2 : Kd.C k26 w A2 l2.length l2) (hc2 : l2.length ≤ c2) (h : linear_Check.f a0 l1 l2 = some r) :
    Calls Try.prog 33 #[.int .i64 a0, .slice A1 l1.length c1, .slice A2 l2.length c2] w fun e w' => e = .returned (.int .i64 r) ∧ Below w.heap.size w w' := by
  have hm := Kd.C_max hr2
  refine linear_CheckP.calls (l2.length + 1) a0 A1 c1 l1 A2 c2 l2 r w hr1 hc1 hr2 hc2 (Eq.trans ?_ h)
  unfold linear_CheckP.f linear_Check.f
  rw [linear_Dim.of, checkL_sm]
  unfold dimL
  simp only [Option.bind_some]
  by_cases c : a0 < 1 ∨ a0 > 16
  · rw [if_pos c, if_pos c]; rfl
  · rw [if_neg c, if_neg c]
    simp only [if_true]
    exact linear_CheckP.loop a0 l2 hm l2.length 0 _ (by omega)


/-! ### vec_pair: function 50 -/
def vec_pair.f (l0 l1 : List Int) : Option Int := some (pairE l0 l1)
set_option maxHeartbeats 2000000 in
set_option maxRecDepth 100000 in
theorem vec_pair.calls (A0 : Option Addr) (c0 : Nat) (l0 : List Int) (A1 : Option Addr) (c1 : Nat) (l1 : List Int) (r : Int) (w : World) (hr0 : Kd.C (Kd.int .i64) w A0 l0.length l0) (hc0 : l0.length ≤ c0) (hr1 : Kd.C (Kd.int .i64) w A1 l1.length l1) (hc1 : l1.length ≤ c1) (h : vec_pair.f l0 l1 = some r) :
    Calls Try.prog 50 #[.slice A0 l0.length c0, .slice A1 l1.length c1] w fun e w' => e = .returned (.int .i64 r) ∧ Below w.heap.size w w' := by
  cases h
  have hm : (if l0.length < l1.length then (l1.length : Int) else (l0.length : Int)) = ((max l0.length l1.length : Nat) : Int) := by split <;> omega
  obtain ⟨m, hM⟩ : ∃ m : Nat, max l0.length l1.length = m := ⟨_, rfl⟩
  rw [hM] at hm
  clear hr0 hr1
  unfold pairE
  by_cases c : 4096 < m
  · have c2 : decide (4096 < (m : Int)) = true := decide_eq_true (by omega)
    rw [if_pos (by omega)]
    have HM := Aside0.mk hM
    clear hM c
    go_enter Try.func50, Try.ntmps50
    go_wp2
    go_ret
    exact ⟨rfl, Below.refl _ _⟩
  · have c2 : decide (4096 < (m : Int)) = false := decide_eq_false (by omega)
    rw [if_neg (by omega)]
    by_cases c3 : l0.length = l1.length
    · have c4 : (l0.length == l1.length) = true := beq_iff_eq.2 c3
      rw [if_neg (by omega)]
      have HM := Aside0.mk hM
      have c5 : ((l0.length : Int) != (l1.length : Int)) = false := bne_eq_false_iff_eq.2 (by omega)
      have c6 : ((l0.length : Int) == (l1.length : Int)) = true := beq_iff_eq.2 (by omega)
      clear hM c c3
      go_enter Try.func50, Try.ntmps50
      go_wp2
      go_ret
      exact ⟨rfl, Below.refl _ _⟩
    · have c4 : (l0.length == l1.length) = false := beq_eq_false_iff_ne.2 c3
      rw [if_pos (by omega)]
      have HM := Aside0.mk hM
      have c5 : ((l0.length : Int) != (l1.length : Int)) = true := bne_iff_ne.2 (by omega)
      have c6 : ((l0.length : Int) == (l1.length : Int)) = false := beq_eq_false_iff_ne.2 (by omega)
      clear hM c c3
      go_enter Try.func50, Try.ntmps50
      go_wp2
      go_ret
      exact ⟨rfl, Below.refl _ _⟩


/-! ### fix_behindP: function 68 -/
def fix_behindP.f (a0 : Int) : Option (Bool) := if a0 ≥ 0 then (some (decide (a0 ≤ 30))) else (some false)
set_option maxHeartbeats 8000000 in
set_option maxRecDepth 100000 in
theorem fix_behindP.calls (a0 : Int) (r : Bool) (w : World) (h : fix_behindP.f a0 = some r) :
  Calls Try.prog 68 #[.int .i64 a0] w fun e w' => e = .returned (.bool r) ∧ Drawn0 w w' := by
 have H : (if a0 ≥ 0 then (some (decide (a0 ≤ 30))) else (some false)) = some r := h
 clear h
 by_cases c2 : a0 ≥ 0
 ·
  rw [if_pos c2] at H
  have c2b0 : decide (0 ≤ a0) = true := decide_eq_true c2
  clear c2
  obtain rfl := Option.some.inj H
  go_enter Try.func68, Try.ntmps68
  go_wp2
  go_ret
  exact ⟨by first | rfl | (simp; done) | (simp [*]; done), by repeat (first | exact ddR _ | apply ddS)⟩
 ·
  rw [if_neg c2] at H
  have c2b0 : decide (0 ≤ a0) = false := decide_eq_false c2
  clear c2
  obtain rfl := Option.some.inj H
  go_enter Try.func68, Try.ntmps68
  go_wp2
  go_ret
  exact ⟨by first | rfl | (simp; done) | (simp [*]; done), by repeat (first | exact ddR _ | apply ddS)⟩

def fix_behind.f (a0 : Int) : Option Bool := some (decide (0 ≤ a0 ∧ a0 ≤ 30))
theorem fix_behind.calls (a0 : Int) (r : Bool) (w : World) (h : fix_behind.f a0 = some r) :
    Calls Try.prog 68 #[.int .i64 a0] w fun e w' => e = .returned (.bool r) ∧ Drawn0 w w' := by
  refine fix_behindP.calls a0 r w ?_
  rw [← h]; unfold fix_behindP.f fix_behind.f
  by_cases c : a0 ≥ 0
  · rw [if_pos c]; simp [c]
  · rw [if_neg c]; simp [c]


/-! ### bits_Mul64P: function 82 -/
def bits_Mul64P.f (a0 : Int) (a1 : Int) : Option (Int × Int) := some (IntKind.u64.wrap ((IntKind.u64.wrap ((IntKind.u64.wrap ((a0 / 4294967296) * (a1 / 4294967296))) + ((IntKind.u64.wrap ((IntKind.u64.wrap ((a0 / 4294967296) * (Go.bits .and .u64 a1 4294967295))) + ((IntKind.u64.wrap ((Go.bits .and .u64 a0 4294967295) * (Go.bits .and .u64 a1 4294967295))) / 4294967296))) / 4294967296))) + ((IntKind.u64.wrap ((Go.bits .and .u64 (IntKind.u64.wrap ((IntKind.u64.wrap ((a0 / 4294967296) * (Go.bits .and .u64 a1 4294967295))) + ((IntKind.u64.wrap ((Go.bits .and .u64 a0 4294967295) * (Go.bits .and .u64 a1 4294967295))) / 4294967296))) 4294967295) + (IntKind.u64.wrap ((Go.bits .and .u64 a0 4294967295) * (a1 / 4294967296))))) / 4294967296)), IntKind.u64.wrap (a0 * a1))
set_option maxHeartbeats 8000000 in
set_option maxRecDepth 100000 in
theorem bits_Mul64P.calls (a0 : Int) (a1 : Int) (r1 : Int) (r2 : Int) (w : World) (h : bits_Mul64P.f a0 a1 = some (r1, r2)) :
  Calls Try.prog 82 #[.int .u64 a0, .int .u64 a1] w fun e w' => e = .returned (.tuple #[.int .u64 r1, .int .u64 r2]) ∧ Drawn0 w w' := by
 have H : (some (IntKind.u64.wrap ((IntKind.u64.wrap ((IntKind.u64.wrap ((a0 / 4294967296) * (a1 / 4294967296))) + ((IntKind.u64.wrap ((IntKind.u64.wrap ((a0 / 4294967296) * (Go.bits .and .u64 a1 4294967295))) + ((IntKind.u64.wrap ((Go.bits .and .u64 a0 4294967295) * (Go.bits .and .u64 a1 4294967295))) / 4294967296))) / 4294967296))) + ((IntKind.u64.wrap ((Go.bits .and .u64 (IntKind.u64.wrap ((IntKind.u64.wrap ((a0 / 4294967296) * (Go.bits .and .u64 a1 4294967295))) + ((IntKind.u64.wrap ((Go.bits .and .u64 a0 4294967295) * (Go.bits .and .u64 a1 4294967295))) / 4294967296))) 4294967295) + (IntKind.u64.wrap ((Go.bits .and .u64 a0 4294967295) * (a1 / 4294967296))))) / 4294967296)), IntKind.u64.wrap (a0 * a1))) = some (r1, r2) := h
 clear h
 simp only [Option.some.injEq, Prod.mk.injEq] at H
 obtain ⟨rfl, rfl⟩ := H
 go_enter Try.func82, Try.ntmps82
 go_wp2
 go_ret2
 exact ⟨by first | rfl | (simp; done) | (simp [*]; done), by repeat (first | exact ddR _ | apply ddS)⟩

def bits_Mul64.f (a0 a1 : Int) : Option (Int × Int) := if U64 a0 ∧ U64 a1 then some (a0 * a1 / 18446744073709551616, a0 * a1 % 18446744073709551616) else none
theorem bits_Mul64.of (a0 a1 : Int)  (h_ : U64 a0 ∧ U64 a1) : bits_Mul64.f a0 a1 = some (a0 * a1 / 18446744073709551616, a0 * a1 % 18446744073709551616) := if_pos h_
theorem bits_Mul64P.spec {a0 a1 : Int} (h0 : U64 a0) (h1 : U64 a1) : bits_Mul64P.f a0 a1 = some (a0 * a1 / 18446744073709551616, a0 * a1 % 18446744073709551616) := by
  unfold bits_Mul64P.f
  rw [and32 h0, and32 h1]
  unfold U64 at h0 h1
  obtain ⟨x, rfl⟩ := Int.eq_ofNat_of_zero_le h0.1
  obtain ⟨y, rfl⟩ := Int.eq_ofNat_of_zero_le h1.1
  have hx : x < 18446744073709551616 := by omega
  have hy : y < 18446744073709551616 := by omega
  have hm : ((x * y / 18446744073709551616 : Nat) : Int) = (x : Int) * y / 18446744073709551616 := by simp
  obtain ⟨k1, k2, k3, k4⟩ := Lib.mul64_hi x y hx hy
  have e1 : (x : Int) / 4294967296 * ((y : Int) / 4294967296) = ((x / 4294967296 * (y / 4294967296) : Nat) : Int) := by simp
  have e2 : (x : Int) / 4294967296 * ((y : Int) % 4294967296) = ((x / 4294967296 * (y % 4294967296) : Nat) : Int) := by simp
  have e3 : (x : Int) % 4294967296 * ((y : Int) % 4294967296) = ((x % 4294967296 * (y % 4294967296) : Nat) : Int) := by simp
  have e4 : (x : Int) % 4294967296 * ((y : Int) / 4294967296) = ((x % 4294967296 * (y / 4294967296) : Nat) : Int) := by simp
  have ha := Lib.half_mul_le (a := x / 4294967296) (b := y / 4294967296) (by omega) (by omega)
  have hb := Lib.half_mul_le (a := x / 4294967296) (b := y % 4294967296) (by omega) (by omega)
  have hc := Lib.half_mul_le (a := x % 4294967296) (b := y / 4294967296) (by omega) (by omega)
  have hd := Lib.half_mul_le (a := x % 4294967296) (b := y % 4294967296) (by omega) (by omega)
  have hxy : x * y < 18446744073709551616 * 18446744073709551616 := by
    have := Nat.mul_le_mul (show x ≤ 18446744073709551615 by omega) (show y ≤ 18446744073709551615 by omega); omega
  rw [← hm]
  simp only [wu, and32m, e1, e2, e3, e4, Option.some.injEq, Prod.mk.injEq, and_true]
  clear e1 e2 e3 e4 hm
  generalize x / 4294967296 * (y / 4294967296) = a at *
  generalize x / 4294967296 * (y % 4294967296) = b at *
  generalize x % 4294967296 * (y / 4294967296) = c at *
  generalize x % 4294967296 * (y % 4294967296) = d at *
  generalize x * y = p at *
  omega
theorem bits_Mul64.calls (a0 : Int) (a1 : Int) (r1 : Int) (r2 : Int) (w : World) (h : bits_Mul64.f a0 a1 = some (r1, r2)) :
    Calls Try.prog 82 #[.int .u64 a0, .int .u64 a1] w fun e w' => e = .returned (.tuple #[.int .u64 r1, .int .u64 r2]) ∧ Drawn0 w w' := by
  unfold bits_Mul64.f at h
  split at h
  · rename_i hu
    exact bits_Mul64P.calls a0 a1 r1 r2 w ((bits_Mul64P.spec hu.1 hu.2).trans h)
  · cases h


/-! ### fix_times: function 69 -/
set_option maxRecDepth 100000 in
set_option maxHeartbeats 1000000 in
theorem fix_times.calls (a b : Int) (w : World) (ha : I64 a) (hb : I64 b) :
    Calls Try.prog 69 #[.int .i64 a, .int .i64 b] w fun e w' => e = .returned (.agg #[.int .u64 (a * b / 18446744073709551616 % 18446744073709551616), .int .u64 (a * b % 18446744073709551616)]) ∧ Below w.heap.size w w' := by
  have hm : bits_Mul64.f (IntKind.u64.wrap a) (IntKind.u64.wrap b) = some (IntKind.u64.wrap a * IntKind.u64.wrap b / 18446744073709551616, IntKind.u64.wrap a * IntKind.u64.wrap b % 18446744073709551616) := by
    unfold bits_Mul64.f; rw [if_pos ⟨by rw [wu]; unfold U64; omega, by rw [wu]; unfold U64; omega⟩]
  obtain ⟨h, hh⟩ : ∃ h, h = IntKind.u64.wrap a * IntKind.u64.wrap b / 18446744073709551616 := ⟨_, rfl⟩
  obtain ⟨l, hl⟩ : ∃ l, l = IntKind.u64.wrap a * IntKind.u64.wrap b % 18446744073709551616 := ⟨_, rfl⟩
  rw [← hh, ← hl] at hm
  have HM := Aside0.mk hm
  have HH := Aside0.mk hh
  have HL := Aside0.mk hl
  clear hm hh hl
  have fin : ∀ x y : Int, (if b < 0 then IntKind.u64.wrap ((if a < 0 then IntKind.u64.wrap (h - IntKind.u64.wrap b) else h) - IntKind.u64.wrap a) else (if a < 0 then IntKind.u64.wrap (h - IntKind.u64.wrap b) else h)) = x → l = y →
      x = a * b / 18446744073709551616 % 18446744073709551616 ∧ y = a * b % 18446744073709551616 := by
    rintro x y rfl rfl
    have hh := HH.out
    have hl := HL.out
    unfold I64 at ha hb
    simp only [wu] at hh hl ⊢
    have ea : a % 18446744073709551616 = if a < 0 then a + 18446744073709551616 else a := by split <;> omega
    have eb : b % 18446744073709551616 = if b < 0 then b + 18446744073709551616 else b := by split <;> omega
    rw [ea, eb] at hh hl
    by_cases c1 : a < 0 <;> by_cases c2 : b < 0 <;> simp only [c1, c2, if_true, if_false] at hh hl ⊢
    · have e : (a + 18446744073709551616) * (b + 18446744073709551616) = a * b + 18446744073709551616 * a + 18446744073709551616 * b + 18446744073709551616 * 18446744073709551616 := by grind
      rw [e] at hh hl
      generalize a * b = p at *
      omega
    · have e : (a + 18446744073709551616) * b = a * b + 18446744073709551616 * b := by grind
      rw [e] at hh hl
      generalize a * b = p at *
      omega
    · have e : a * (b + 18446744073709551616) = a * b + 18446744073709551616 * a := by grind
      rw [e] at hh hl
      generalize a * b = p at *
      omega
    · have hp : 0 ≤ a * b := Int.mul_nonneg (by omega) (by omega)
      have hq : a * b ≤ 9223372036854775807 * 9223372036854775807 := Int.mul_le_mul (by omega) (by omega) (by omega) (by omega)
      generalize a * b = p at *
      omega
  have FIN := Aside0.mk fin
  clear fin ha hb
  have hu := Try.underlying85
  by_cases c1 : a < 0 <;> by_cases c2 : b < 0
  all_goals
    have F := FIN.out _ _ rfl rfl
    simp only [c1, c2, if_true, if_false] at F
    have F0 := Aside0.mk F
    clear F FIN
    go_enter Try.func69, Try.ntmps69
    go_wp2_with (go_at_call 82; (with_reducible refine (bits_Mul64.calls (IntKind.u64.wrap a) (IntKind.u64.wrap b) h l _ HM.out).mono ?_); rintro e w' ⟨rfl, ⟨nd, rfl⟩⟩)
    obtain ⟨F1, F2⟩ := F0.out
    refine bodyPost_ret (v := .agg #[.int .u64 (a * b / 18446744073709551616 % 18446744073709551616), .int .u64 (a * b % 18446744073709551616)]) (by rw [← F1, ← F2]; simp [results, Try.results69, go_sem]) rfl ⟨rfl, ?_⟩
    exact ((zzN (zzA (Below.refl _ _) _) _).setCell (Nat.le_refl _) _).setCell (Nat.le_refl _) _


/-! ### fix_product_down: function 70 -/
set_option maxRecDepth 100000 in
set_option maxHeartbeats 1000000 in
theorem fix_product_down.zero (hi lo : Int) (w : World) :
    Calls Try.prog 70 #[.agg #[.int .u64 hi, .int .u64 lo], .int .i64 0] w fun e w' => e = .returned (.agg #[.int .u64 hi, .int .u64 lo]) ∧ Below w.heap.size w w' := by
  have hu := Try.underlying85
  go_enter Try.func70, Try.ntmps70
  go_wp2
  exact bodyPost_ret (v := .agg #[.int .u64 hi, .int .u64 lo]) (by simp [results, Try.results70, go_sem]) rfl ⟨rfl, zzA (zzA (Below.refl _ _) _) _⟩
set_option maxRecDepth 100000 in
set_option maxHeartbeats 1000000 in
theorem fix_product_down.calls (hi lo by_ : Int) (w : World) (h0 : U64 hi) (h1 : U64 lo) (hb0 : 0 < by_) (hb : by_ ≤ 30) :
    Calls Try.prog 70 #[.agg #[.int .u64 hi, .int .u64 lo], .int .i64 by_] w fun e w' => e = .returned (.agg #[.int .u64 (IntKind.u64.wrap (wrap64 hi / 2 ^ by_.toNat)), .int .u64 (Go.bits .or .u64 (IntKind.u64.wrap (hi * 2 ^ (64 - by_).toNat)) (lo / 2 ^ by_.toNat))]) ∧ Below w.heap.size w w' := by
  unfold U64 at h0 h1
  have hu := Try.underlying85
  have c0 : (by_ == 0) = false := beq_eq_false_iff_ne.2 (by omega)
  go_enter Try.func70, Try.ntmps70
  go_wp2
  go_region
  all_goals (try go_wp2)
  all_goals
    refine bodyPost_ret (v := .agg #[.int .u64 (IntKind.u64.wrap (wrap64 hi / 2 ^ by_.toNat)), .int .u64 (Go.bits .or .u64 (IntKind.u64.wrap (hi * 2 ^ (64 - by_).toNat)) (lo / 2 ^ by_.toNat))]) (by simp [results, Try.results70, go_sem]) rfl ⟨rfl, ?_⟩
    exact Below.drew (zzA (zzA (Below.refl _ _) _) _)


/-! ### fix_product_narrow: function 71 -/
set_option maxRecDepth 100000 in
set_option maxHeartbeats 1000000 in
theorem fix_product_narrow.calls (hi lo : Int) (w : World) (h0 : U64 hi) (h1 : U64 lo) :
    Calls Try.prog 71 #[.agg #[.int .u64 hi, .int .u64 lo]] w fun e w' => e = .returned (if hi = IntKind.u64.wrap (wrap64 lo / 9223372036854775808) then .tuple #[.int .i64 (wrap64 lo), .int .i64 0] else .tuple #[.int .i64 0, .int .i64 2]) ∧ Below w.heap.size w w' := by
  unfold U64 at h0 h1
  obtain ⟨i, hi_⟩ : ∃ i, Try.prog.info? 83 = some i := by have := info83; cases h : Try.prog.info? 83 with | none => rw [h] at this; cases this | some i => exact ⟨i, rfl⟩
  have hq := fun (a b c d : Int) (w : World) => run_eq_arr2 (P := Try.prog) (t := 85) (e := 83) (k := .u64) Try.underlying85 hi_ Try.underlying83 (by kernel_rfl) (by kernel_rfl) a b c d w
  clear hi_
  have hu := Try.underlying85
  by_cases c : hi = IntKind.u64.wrap (wrap64 lo / 9223372036854775808)
  · rw [if_pos c]
    have c0 : (hi == IntKind.u64.wrap (wrap64 lo / 9223372036854775808)) = true := beq_iff_eq.2 c
    clear c
    go_enter Try.func71, Try.ntmps71
    go_wp2
    go_ret2
    exact ⟨rfl, zzA (Below.refl _ _) _⟩
  · rw [if_neg c]
    have c0 : (hi == IntKind.u64.wrap (wrap64 lo / 9223372036854775808)) = false := beq_eq_false_iff_ne.2 c
    clear c
    go_enter Try.func71, Try.ntmps71
    go_wp2
    go_ret2
    exact ⟨rfl, zzA (Below.refl _ _) _⟩


/-! ### fix_Mul: function 54 -/
def fix_Mul.f (a0 a1 a2 : Int) : Option (Int × Int) := if I64 a0 ∧ I64 a1 then some (mulF a0 a1 a2) else none
theorem fix_Mul.of (a0 a1 a2 : Int)  (h_ : I64 a0 ∧ I64 a1) : fix_Mul.f a0 a1 a2 = some (mulF a0 a1 a2) := if_pos h_
set_option maxRecDepth 100000 in
set_option maxHeartbeats 1000000 in
theorem fix_Mul.calls (a0 : Int) (a1 : Int) (a2 : Int) (r1 : Int) (r2 : Int) (w : World) (h : fix_Mul.f a0 a1 a2 = some (r1, r2)) :
    Calls Try.prog 54 #[.int .i64 a0, .int .i64 a1, .int .i64 a2] w fun e w' => e = .returned (.tuple #[.int .i64 r1, .int .i64 r2]) ∧ Below w.heap.size w w' := by
  unfold fix_Mul.f at h
  split at h
  · rename_i hr
    obtain ⟨h0, h1⟩ := hr
    unfold mulF at h
    have hb1 : -170141183460469231731687303715884105728 ≤ a0 * a1 ∧ a0 * a1 < 170141183460469231731687303715884105728 := prod_bd h0 h1
    obtain ⟨p, hp⟩ : ∃ p, p = a0 * a1 := ⟨_, rfl⟩
    rw [← hp] at h hb1
    have HT : ∀ w : World, Calls Try.prog 69 #[.int .i64 a0, .int .i64 a1] w fun e w' => e = .returned (.agg #[.int .u64 (p / 18446744073709551616 % 18446744073709551616), .int .u64 (p % 18446744073709551616)]) ∧ Below w.heap.size w w' := fun w => by rw [hp]; exact fix_times.calls a0 a1 w h0 h1
    have HT0 := Aside0.mk HT
    clear HT hp h0 h1
    split at h
    · rename_i hf
      have hbe : fix_behind.f a2 = some true := by unfold fix_behind.f; rw [decide_eq_true hf]
      have HBE := Aside0.mk hbe
      clear hbe
      have hq : ∃ q, res q = (r1, r2) ∧ -170141183460469231731687303715884105728 ≤ q ∧ q < 170141183460469231731687303715884105728 ∧ q = p / 2 ^ a2.toNat := by
        refine ⟨_, Option.some.inj h, ?_, ?_, rfl⟩
        · exact (div_bd p _ (Nat.two_pow_pos a2.toNat) hb1.1 hb1.2).1
        · exact (div_bd p _ (Nat.two_pow_pos a2.toNat) hb1.1 hb1.2).2
      clear h
      obtain ⟨q, hq, hq0, hq1, hqp⟩ := hq
      have HN : ∀ w : World, Calls Try.prog 71 #[.agg #[.int .u64 (q / 18446744073709551616 % 18446744073709551616), .int .u64 (q % 18446744073709551616)]] w fun e w' => e = .returned (.tuple #[.int .i64 r1, .int .i64 r2]) ∧ Below w.heap.size w w' := by
        intro w
        have := fix_product_narrow.calls (q / 18446744073709551616 % 18446744073709551616) (q % 18446744073709551616) w (by unfold U64; omega) (by unfold U64; omega)
        by_cases c : I64 q
        · rw [res_of c] at hq
          obtain ⟨n1, n2⟩ := narrow_yes c
          rw [if_pos n1, n2] at this
          cases hq
          exact this
        · rw [res_not c] at hq
          rw [if_neg (narrow_no hq0 hq1 c)] at this
          cases hq
          exact this
      have HN0 := Aside0.mk HN
      clear HN hq
      by_cases c : a2 = 0
      · subst c
        have hqp' : q = p := by rw [hqp]; simp
        subst hqp'
        clear hqp
        go_enter Try.func54, Try.ntmps54
        go_wp2_with (first | (go_at_call 68; (with_reducible refine (fix_behind.calls 0 true _ HBE.out).mono ?_); rintro e w' ⟨rfl, ⟨nd, rfl⟩⟩; have B0 := Aside0.mk (zzN (Below.refl w.heap.size w) nd)) | (go_at_call 69; refine (HT0.out _).mono ?_; rintro e w1 ⟨rfl, hb_1⟩; have B1 := Aside0.mk (below_then B0.out B0.out.size hb_1); clear hb_1) | (go_at_call 70; refine (fix_product_down.zero _ _ _).mono ?_; rintro e w2 ⟨rfl, hb_2⟩; have B2 := Aside0.mk (below_then B1.out B1.out.size hb_2); clear hb_2) | (go_at_call 71; refine (HN0.out _).mono ?_; rintro e w3 ⟨rfl, hb_3⟩; have B3 := Aside0.mk (below_then B2.out B2.out.size hb_3); clear hb_3))
        go_ret2
        exact ⟨rfl, B3.out⟩
      · have HD : ∀ w : World, Calls Try.prog 70 #[.agg #[.int .u64 (p / 18446744073709551616 % 18446744073709551616), .int .u64 (p % 18446744073709551616)], .int .i64 a2] w fun e w' => e = .returned (.agg #[.int .u64 (q / 18446744073709551616 % 18446744073709551616), .int .u64 (q % 18446744073709551616)]) ∧ Below w.heap.size w w' := by
          intro w
          have := fix_product_down.calls (p / 18446744073709551616 % 18446744073709551616) (p % 18446744073709551616) a2 w (by unfold U64; omega) (by unfold U64; omega) (by omega) hf.2
          obtain ⟨d1, d2⟩ := down_spec hb1.1 hb1.2 (show 0 < a2 by omega) hf.2
          rw [d1, d2, ← hqp] at this
          exact this
        have HD0 := Aside0.mk HD
        clear HD hqp
        go_enter Try.func54, Try.ntmps54
        go_wp2_with (first | (go_at_call 68; (with_reducible refine (fix_behind.calls a2 true _ HBE.out).mono ?_); rintro e w' ⟨rfl, ⟨nd, rfl⟩⟩; have B0 := Aside0.mk (zzN (Below.refl w.heap.size w) nd)) | (go_at_call 69; refine (HT0.out _).mono ?_; rintro e w1 ⟨rfl, hb_1⟩; have B1 := Aside0.mk (below_then B0.out B0.out.size hb_1); clear hb_1) | (go_at_call 70; refine (HD0.out _).mono ?_; rintro e w2 ⟨rfl, hb_2⟩; have B2 := Aside0.mk (below_then B1.out B1.out.size hb_2); clear hb_2) | (go_at_call 71; refine (HN0.out _).mono ?_; rintro e w3 ⟨rfl, hb_3⟩; have B3 := Aside0.mk (below_then B2.out B2.out.size hb_3); clear hb_3))
        go_ret2
        exact ⟨rfl, B3.out⟩
    · rename_i hf
      have hbe : fix_behind.f a2 = some false := by unfold fix_behind.f; rw [decide_eq_false hf]
      have HBE := Aside0.mk hbe
      clear hbe hf
      cases h
      go_enter Try.func54, Try.ntmps54
      go_wp2_with (go_at_call 68; (with_reducible refine (fix_behind.calls a2 false _ HBE.out).mono ?_); rintro e w' ⟨rfl, ⟨nd, rfl⟩⟩)
      go_ret2
      exact ⟨rfl, zzN (Below.refl w.heap.size w) nd⟩
  · cases h


/-! ### vec_behind: function 51 -/
def vec_behind.f (a0 : Int) : Option (Int) := (fix_Mul.f 0 0 a0).bind fun bt108 => (some bt108.2)
set_option maxHeartbeats 8000000 in
set_option maxRecDepth 100000 in
theorem vec_behind.calls (a0 : Int) (r : Int) (w : World) (h : vec_behind.f a0 = some r) :
  Calls Try.prog 51 #[.int .i64 a0] w fun e w' => e = .returned (.int .i64 r) ∧ Below w.heap.size w w' := by
 have HB := Aside0.mk (Below.refl w.heap.size w)
 have H : ((fix_Mul.f 0 0 a0).bind fun bt108 => (some bt108.2)) = some r := h
 clear h
 replace H := Option.bind_eq_some_iff.mp H
 obtain ⟨⟨t108, t109⟩, A20, H⟩ := H
 replace H : (some t109) = some r := H
 have A2 := Aside0.mk A20
 clear A20
 obtain rfl := Option.some.inj H
 go_enter Try.func51, Try.ntmps51
 go_wp2_with (first | ((with_reducible refine gate_callee (f := 54) rfl ?_); refine goesL_ (some 7) rfl rfl Try.func54 (by kernel_rfl) rfl #[.int .i64 0, .int .i64 0, .int .i64 a0] rfl (by (try simp only [List.map_toArray, List.map_cons, List.map_nil]); first | done | rfl | (simp only [List.length_drop, List.length_take]; rfl)) ?_; (with_reducible refine (fix_Mul.calls 0 0 a0 t108 t109 _ A2.out).mono ?_); rintro e w3 ⟨rfl, hb⟩; refine ⟨_, rfl, ?_⟩; have n0_ := Aside0.mk (zzT (by repeat (first | (with_reducible first | exact HB.out | apply zzA | apply zzN | apply zzD) | exact HB.out)) hb); clear HB; have HB := n0_; clear n0_; (try clear hb); (try clear hb2); (try clear hk); (try clear hi)))
 go_ret
 exact ⟨by first | rfl | (simp [errW_none, errW_some] <;> rfl) | (simp [*, errW_none, errW_some] <;> rfl), by repeat (first | (with_reducible first | exact HB.out | apply zzA | apply zzN | apply zzD) | exact HB.out)⟩

theorem vec_behind.of (f : Int) : vec_behind.f f = some (fracE f) := by
  unfold vec_behind.f
  rw [fix_Mul.of 0 0 f ⟨i64_zero, i64_zero⟩]
  simp only [Option.bind_some, mulF_zero_snd]


/-! ### fix_AddP: function 35 -/
def fix_AddP.f (a0 : Int) (a1 : Int) : Option (Int × Int) := if (Go.bits .and .i64 (Go.bits .xor .i64 a0 (wrap64 (a0 + a1))) (Go.bits .xor .i64 a1 (wrap64 (a0 + a1)))) < 0 then (some (0, 2)) else (some (wrap64 (a0 + a1), 0))
set_option maxHeartbeats 8000000 in
set_option maxRecDepth 100000 in
theorem fix_AddP.calls (a0 : Int) (a1 : Int) (r1 : Int) (r2 : Int) (w : World) (h : fix_AddP.f a0 a1 = some (r1, r2)) :
  Calls Try.prog 35 #[.int .i64 a0, .int .i64 a1] w fun e w' => e = .returned (.tuple #[.int .i64 r1, .int .i64 r2]) ∧ Drawn0 w w' := by
 have H : (if (Go.bits .and .i64 (Go.bits .xor .i64 a0 (wrap64 (a0 + a1))) (Go.bits .xor .i64 a1 (wrap64 (a0 + a1)))) < 0 then (some (0, 2)) else (some (wrap64 (a0 + a1), 0))) = some (r1, r2) := h
 clear h
 by_cases c3 : (Go.bits .and .i64 (Go.bits .xor .i64 a0 (wrap64 (a0 + a1))) (Go.bits .xor .i64 a1 (wrap64 (a0 + a1)))) < 0
 ·
  rw [if_pos c3] at H
  have c3b0 : decide ((Go.bits .and .i64 (Go.bits .xor .i64 a0 (wrap64 (a0 + a1))) (Go.bits .xor .i64 a1 (wrap64 (a0 + a1)))) < 0) = true := decide_eq_true c3
  clear c3
  simp only [Option.some.injEq, Prod.mk.injEq] at H
  obtain ⟨rfl, rfl⟩ := H
  go_enter Try.func35, Try.ntmps35
  go_wp2
  go_ret2
  exact ⟨by first | rfl | (simp; done) | (simp [*]; done), by repeat (first | exact ddR _ | apply ddS)⟩
 ·
  rw [if_neg c3] at H
  have c3b0 : decide ((Go.bits .and .i64 (Go.bits .xor .i64 a0 (wrap64 (a0 + a1))) (Go.bits .xor .i64 a1 (wrap64 (a0 + a1)))) < 0) = false := decide_eq_false c3
  clear c3
  simp only [Option.some.injEq, Prod.mk.injEq] at H
  obtain ⟨rfl, rfl⟩ := H
  go_enter Try.func35, Try.ntmps35
  go_wp2
  go_ret2
  exact ⟨by first | rfl | (simp; done) | (simp [*]; done), by repeat (first | exact ddR _ | apply ddS)⟩

def fix_Add.f (a0 a1 : Int) : Option (Int × Int) := if I64 a0 ∧ I64 a1 then some (res (a0 + a1)) else none
theorem fix_Add.of (a0 a1 : Int)  (h_ : I64 a0 ∧ I64 a1) : fix_Add.f a0 a1 = some (res (a0 + a1)) := if_pos h_
theorem fix_Add.calls (a0 : Int) (a1 : Int) (r1 : Int) (r2 : Int) (w : World) (h : fix_Add.f a0 a1 = some (r1, r2)) :
    Calls Try.prog 35 #[.int .i64 a0, .int .i64 a1] w fun e w' => e = .returned (.tuple #[.int .i64 r1, .int .i64 r2]) ∧ Drawn0 w w' := by
  unfold fix_Add.f at h
  split at h
  · rename_i hu
    refine fix_AddP.calls a0 a1 r1 r2 w (Eq.trans ?_ h)
    unfold fix_AddP.f
    have hw := wrap64_i64 (a0 + a1)
    have t := and_neg (xor_i64_i64 a0 (wrap64 (a0 + a1))) (xor_i64_i64 a1 (wrap64 (a0 + a1)))
    rw [xor_neg hu.1 hw, xor_neg hu.2 hw] at t
    obtain ⟨h0, h1⟩ := hu
    by_cases c : I64 (a0 + a1)
    · rw [res_of c, wrap64_of c] at *
      rw [if_neg (by rw [t]; omega)]
    · rw [res_not c]
      unfold I64 at h0 h1 c
      rw [if_pos (by rw [t, wrap64_def]; omega)]
  · cases h


end Go.Proofs.Ytalamamjodihaaa.HP
