/- What Go functions do, each as a plain Lean function with the same answers, and the proof of it, in every world: printed by the session's driver over the kit's print, with texts by hand. -/
import Derived.Test.YtihgcjagokippaaHSx0
import Derived.Test.YtihgcjagokippaaMini
namespace Go.Proofs.Ytihgcjagokippaa.HS
open Go.RowKit Go.Proofs.YtihgcjagokippaaW.PrintWords Go.Proofs.YtihgcjagokippaaW.PrintLast Go.Proofs.YtihgcjagokippaaW.PrintMore
attribute [local go_sem] max2_int min2_int max_two min_two max_three min_three max_four min_four   -- for this text's walks alone
open Go.Proofs.Ytihgcjagokippaa.Sp
attribute [local go_sem] Go.Proofs.Ytihgcjagokippaa.Sp.u64_not
set_option linter.unusedVariables false
set_option linter.unusedSimpArgs false

/-! ### soft_classes: function 27 -/
def soft_classes.f (a0 : Int) : Option (Bool) := if a0 > 1 then (some (decide (a0 ≤ 8))) else (some false)
set_option maxHeartbeats 8000000 in
set_option maxRecDepth 100000 in
theorem soft_classes.calls (a0 : Int) (r : Bool) (w : World) (h : soft_classes.f a0 = some r) :
  Calls Try.prog 27 #[.int .i64 a0] w fun e w' => e = .returned (.bool r) ∧ Drawn0 w w' := by
 have H : (if a0 > 1 then (some (decide (a0 ≤ 8))) else (some false)) = some r := h
 clear h
 by_cases c2 : a0 > 1
 case neg =>
  rw [if_neg c2] at H
  have c2b0 : decide (1 < a0) = false := decide_eq_false c2
  clear c2
  obtain rfl := Option.some.inj H
  go_enter Try.func27, Try.ntmps27
  go_wp2
  go_ret
  exact ⟨by first | rfl | (simp; done) | (simp [*]; done), by repeat (first | exact ddR _ | apply ddS)⟩
 rw [if_pos c2] at H
 have c2b0 : decide (1 < a0) = true := decide_eq_true c2
 clear c2
 obtain rfl := Option.some.inj H
 go_enter Try.func27, Try.ntmps27
 go_wp2
 go_ret
 exact ⟨by first | rfl | (simp; done) | (simp [*]; done), by repeat (first | exact ddR _ | apply ddS)⟩
/-! ### linear_Dim: function 28 -/
def linear_Dim.f (a0 : Int) : Option (Int × Int) := if a0 < 1 then (some (0, 1)) else (if a0 > 16 then (some (0, 1)) else (some (wrap64 (a0 + 1), 0)))
set_option maxHeartbeats 8000000 in
set_option maxRecDepth 100000 in
theorem linear_Dim.calls (a0 : Int) (r1 : Int) (r2 : Int) (w : World) (h : linear_Dim.f a0 = some (r1, r2)) :
  Calls Try.prog 28 #[.int .i64 a0] w fun e w' => e = .returned (.tuple #[.int .i64 r1, .int .i64 r2]) ∧ Drawn0 w w' := by
 have H : (if a0 < 1 then (some (0, 1)) else (if a0 > 16 then (some (0, 1)) else (some (wrap64 (a0 + 1), 0)))) = some (r1, r2) := h
 clear h
 by_cases c2 : a0 < 1
 ·
  rw [if_pos c2] at H
  have c2b0 : decide (a0 < 1) = true := decide_eq_true c2
  clear c2
  simp only [Option.some.injEq, Prod.mk.injEq] at H
  obtain ⟨rfl, rfl⟩ := H
  go_enter Try.func28, Try.ntmps28
  go_wp2
  go_ret2
  exact ⟨by first | rfl | (simp; done) | (simp [*]; done), by repeat (first | exact ddR _ | apply ddS)⟩
 rw [if_neg c2] at H
 have c2b0 : decide (a0 < 1) = false := decide_eq_false c2
 clear c2
 by_cases c3 : a0 > 16
 case neg =>
  rw [if_neg c3] at H
  have c3b0 : decide (16 < a0) = false := decide_eq_false c3
  clear c3
  simp only [Option.some.injEq, Prod.mk.injEq] at H
  obtain ⟨rfl, rfl⟩ := H
  go_enter Try.func28, Try.ntmps28
  go_wp2
  go_ret2
  exact ⟨by first | rfl | (simp; done) | (simp [*]; done), by repeat (first | exact ddR _ | apply ddS)⟩
 rw [if_pos c3] at H
 have c3b0 : decide (16 < a0) = true := decide_eq_true c3
 clear c3
 simp only [Option.some.injEq, Prod.mk.injEq] at H
 obtain ⟨rfl, rfl⟩ := H
 go_enter Try.func28, Try.ntmps28
 go_wp2
 go_ret2
 exact ⟨by first | rfl | (simp; done) | (simp [*]; done), by repeat (first | exact ddR _ | apply ddS)⟩
/-- A sample, as a pair. -/
def sm (s : S24) : List Int × Int := (s.f0, s.f1)
/-- All of a sample's numbers have 64 bits. -/
def Sm64 (s : S24) : Prop := V64 s.f0 ∧ I64 s.f1
instance (s : S24) : Decidable (Sm64 s) := by unfold Sm64; infer_instance
theorem rd_sm {l : List S24} {i : Nat} (h : i < l.length) : rd_T24 l (i : Int) = l[i] := by simp [rd_T24, List.getD_eq_getElem?_getD, List.getElem?_eq_getElem h]
theorem linear_Dim.of (a0 : Int) : linear_Dim.f a0 = some (dimL a0) := by
  unfold linear_Dim.f dimL
  by_cases c : a0 < 1
  · rw [if_pos c, if_pos (.inl c)]
  · rw [if_neg c]
    by_cases c2 : a0 > 16
    · rw [if_pos c2, if_pos (.inr c2)]
    · rw [if_neg c2, if_neg (fun h => h.elim c c2), wrap64_of (by unfold I64; omega)]
/-- How samples are looked through. -/
def fitsGo (x0 : Int) (l : List S24) (n : Nat) (b : Bool) : Int := if b = true ∧ ∀ s ∈ l, (s.f0.length : Int) = x0 then (if n = 0 ∨ n > 64 then 1 else 0) else 4
theorem fitsGo_nil (x0 : Int) (n : Nat) : fitsGo x0 [] n true = if n = 0 ∨ n > 64 then 1 else 0 := by simp [fitsGo]
theorem fitsGo_false (x0 : Int) (l : List S24) (n : Nat) : fitsGo x0 l n false = 4 := by simp [fitsGo]
theorem fitsGo_cons (x0 : Int) (s : S24) (l : List S24) (n : Nat) : fitsGo x0 (s :: l) n true = fitsGo x0 l n ((s.f0.length : Int) == x0) := by
  by_cases c : (s.f0.length : Int) = x0
  · rw [beq_iff_eq.2 c]; simp [fitsGo, c]
  · rw [beq_eq_false_iff_ne.2 c]; simp [fitsGo, c]
theorem fits_sm (n : Int) (w : List Int) (l : List S24) : fitsL n w (l.map sm) ↔ ((w.length : Int) = n + 1 ∧ ∀ s ∈ l, (s.f0.length : Int) = n) := by
  unfold fitsL; simp [sm]
theorem checkL_sm (n : Int) (w : List Int) (l : List S24) : checkL n w (l.map sm) = if n < 1 ∨ n > 16 then 1 else fitsGo n l l.length ((w.length : Int) == n + 1) := by
  unfold checkL fitsGo
  rw [List.length_map]
  by_cases c : n < 1 ∨ n > 16
  · rw [if_pos c, if_pos c]
  · rw [if_neg c, if_neg c]
    by_cases c2 : (w.length : Int) = n + 1 ∧ ∀ s ∈ l, (s.f0.length : Int) = n
    · rw [if_neg (fun h => h ((fits_sm n w l).2 c2))]
      symm
      rw [if_pos (show ((w.length : Int) == n + 1) = true ∧ _ from ⟨beq_iff_eq.2 c2.1, c2.2⟩)]
    · rw [if_pos (fun h => c2 ((fits_sm n w l).1 h)), if_neg (fun h => c2 ⟨beq_iff_eq.1 h.1, h.2⟩)]


-- NOT PRINTED: function 48 (slices_Chunk_int64_int64_1)

-- NOT PRINTED: function 29 (slices_Chunk_int64_int64)

/-! ### slices_Clone_int64_int64: function 30 -/
def slices_Clone_int64_int64.f (l0 : List Int) : Option (List Int) := if l0.length < 17592186044416 then some l0 else none
theorem slices_Clone_int64_int64.of (l0 : List Int)  (h_ : l0.length < 17592186044416) : slices_Clone_int64_int64.f l0 = some l0 := if_pos h_
set_option maxHeartbeats 2000000 in
set_option maxRecDepth 100000 in
theorem slices_Clone_int64_int64.calls (A0 : Option Addr) (c0 : Nat) (l0 : List Int) (r : List Int) (w : World) (hr0 : Kd.C (Kd.int .i64) w A0 l0.length l0) (hc0 : l0.length ≤ c0) (h : slices_Clone_int64_int64.f l0 = some r) :
    Calls Try.prog 30 #[.slice A0 l0.length c0] w fun e w' => ∃ v0_ : Value, e = .returned (v0_) ∧ Kd.R (Kd.int .i64) 2 w' w.heap.size (fun _ => True) v0_ r ∧ Below w.heap.size w w' := by
 unfold slices_Clone_int64_int64.f at h
 split at h
 case isFalse => cases h
 rename_i hl
 cases h
 have hu := Try.underlying22
 have hq : ∀ W : World, (Go.binOp .eql 22 (.slice A0 l0.length c0) (.slice none 0 0)).run Try.prog W = .ok (.bool A0.isNone) W := fun W => Go.Lib.run_eql_slice_nil W 22 2 A0 l0.length c0 0 0 hu
 by_cases hA : A0 = none
 · subst hA
   have hn : l0 = [] := by
    cases l0 with
    | nil => rfl
    | cons x l => obtain ⟨ad, e, _⟩ := Kd.at_int hr0 0 (by omega) (by simp); cases e
   subst hn
   have HR := ZM hr0
   clear hr0
   simp only [Option.isNone_none, List.length_nil] at hq
   go_enter Try.func30, Try.ntmps30
   go_wp2
   go_ret
   exact ⟨_, rfl, Kd.R_nil _ _ _ _ _, Below.refl _ _⟩
 · have hA : A0.isNone = false := by cases A0 <;> simp_all
   simp only [hA] at hq
   have HR := ZM hr0
   have HL := ZM hl
   clear hr0 hl
   go_enter Try.func30, Try.ntmps30
   have ho := own_made w w.heap.size 2 .i64 0 (Nat.le_refl _) (by omega)
   rw [show madeCells #[Value.int .i64 0] 0 = #[] by simp [madeCells]] at ho
   have HO : Aside0 (Kd.R (Kd.int .i64) 2 (w.alloc (Obj.cells #[] 2)) w.heap.size (fun _ => True) (.slice (some ⟨w.heap.size, 0, none⟩) 0 0) ([] : List Int)) := ⟨Kd.R_of_own (enc := Value.int .i64) (h1 := fun _ => rfl) (xs := ([] : List Int)) ho (fun _ _ => trivial)⟩
   clear ho
   go_wp2_with ((with_reducible refine gate_builtin (b := .append) (xs := #[.tmp 5, .tmp 6]) rfl ?_); at_builtin; refine Kd.R_append_rows (Kd.int .i64) (w0 := w) w.heap.size rfl (.tmp 5) (.tmp 6) 22 2 (.int .i64 0) 8 rfl Try.underlying22 info2 rfl (by decide) (by omega) (.slice (some ⟨w.heap.size, 0, none⟩) 0 0) ([] : List Int) l0 _ _ _ (fun _ => True) (fun _ => False) rfl rfl ?aO ?aR (fun _ _ h => h) (fun _ h => h.elim) ?aF ?aB ?aS ?aL ?_; (case aO => exact HO.out); (case aR => exact ccA HR.out _); (case aF => exact fun _ _ => trivial); (case aB => exact zzA (Below.refl _ _) _); (case aS => simp); (case aL => have := HL.out; simp only [List.length_nil]; omega); intro v1 w2 ho hb hg hat; have HO2 := ZM ho; have HB2 := ZM hb; clear ho hb hg hat)
   go_ret
   exact ⟨_, rfl, HO2.out, HB2.out⟩
/-! ### soft_Rows: function 12 -/
def soft_Rows.f (a0 : Int) (l1 : List Int) : Option (List (List Int) × Int) := some (rowsS a0 l1)
set_option maxHeartbeats 4000000 in
set_option maxRecDepth 100000 in
theorem soft_Rows.calls (a0 : Int) (A1 : Option Addr) (c1 : Nat) (l1 : List Int) (r1 : List (List Int)) (r2 : Int) (w : World) (hr1 : Kd.C (Kd.int .i64) w A1 l1.length l1) (hc1 : l1.length ≤ c1) (h : soft_Rows.f a0 l1 = some (r1, r2)) :
    Calls Try.prog 12 #[.int .i64 a0, .slice A1 l1.length c1] w fun e w' => ∃ v0_ : Value, e = .returned (.tuple #[v0_, .int .i64 r2]) ∧ Kd.S (Kd.slice 2 (Kd.int .i64)) 22 w' w.heap.size (fun _ => True) v0_ r1 ∧ Below w.heap.size w w' := by
 have h := Option.some.inj h
 have hmx := Kd.C_max hr1
 have hu := Try.underlying22
 by_cases hb : badOut a0
 · rw [show rowsS a0 l1 = ([], 1) from if_pos hb] at h
   obtain ⟨h1, h2⟩ : r1 = [] ∧ r2 = 1 := by cases h; exact ⟨rfl, rfl⟩
   rw [h1, h2]
   have A : soft_classes.f a0 = some false := by
    unfold soft_classes.f
    unfold badOut at hb
    by_cases c : a0 > 1
    · rw [if_pos c, decide_eq_false (by omega)]
    · rw [if_neg c]
   have HR1 := ZM hr1
   have HC1 := ZM hc1
   clear h h1 h2 hb hr1 hc1
   go_enter Try.func12, Try.ntmps12
   go_wp2_with (go_at_call 27; (with_reducible refine (soft_classes.calls a0 false _ A).mono ?_); rintro e w' ⟨rfl, ⟨nd, rfl⟩⟩)
   go_ret2
   exact ⟨_, rfl, Kd.S_nil _ _ _ _ _, zzN (Below.refl _ _) _⟩
 · have A : soft_classes.f a0 = some true := by
    unfold soft_classes.f
    unfold badOut at hb
    rw [if_pos (by omega), decide_eq_true (by omega)]
   have hrs : rowsS a0 l1 = if goodRow a0 l1 then (chunksS (l1.length / a0.toNat) l1 a0.toNat, 0) else ([], 4) := if_neg hb
   obtain ⟨k, hk⟩ : ∃ k : Nat, a0 = k := ⟨a0.toNat, by unfold badOut at hb; omega⟩
   subst hk
   rw [Int.toNat_natCast] at hrs
   have hk2 : 2 ≤ k := by unfold badOut at hb; omega
   have hk8 : k ≤ 8 := by unfold badOut at hb; omega
   have hdiv : (l1.length : Int) / (k : Int) = ((l1.length / k : Nat) : Int) := by push_cast; rfl
   have hgd : goodRow k l1 ↔ 2 ≤ l1.length / k ∧ l1.length / k ≤ 17 ∧ l1.length / k * k = l1.length := by unfold goodRow; rw [Int.toNat_natCast]
   have hle : l1.length / k * k ≤ l1.length := Nat.div_mul_le_self _ _
   generalize l1.length / k = m at hdiv hgd hle hrs
   clear hb
   by_cases hg : goodRow k l1
   · obtain ⟨g1, g2, g3⟩ := hgd.1 hg
     rw [if_pos hg] at hrs
     rw [hrs] at h
     obtain ⟨h1, h2⟩ : r1 = chunksS m l1 k ∧ r2 = 0 := by cases h; exact ⟨rfl, rfl⟩
     rw [h1, h2]
     have hpos : 0 < l1.length := by rw [← g3]; exact Nat.mul_pos (by omega) (by omega)
     obtain ⟨ad, rfl, _⟩ := hr1.2.2 hpos
     refine rows_in k m ad c1 l1 w hk2 hk8 g1 g2 (by rw [Nat.mul_comm]; exact g3) hr1 hc1 (fun w => soft_classes.calls _ _ w A) (fun w => linear_Dim.calls _ _ _ w ?_) (fun A r c w h0 h3 h4 => slices_Clone_int64_int64.calls A c r r w h0 h3 (slices_Clone_int64_int64.of _ (by omega)))
     unfold linear_Dim.f
     rw [if_neg (by omega), if_neg (by omega), show ((m : Int) - 1 + 1) = m by omega, wrap64_of (by unfold I64; omega)]
   · rw [if_neg hg] at hrs
     rw [hrs] at h
     obtain ⟨h1, h2⟩ : r1 = [] ∧ r2 = 4 := by cases h; exact ⟨rfl, rfl⟩
     rw [h1, h2]
     have hk0 : (k : Int) ≠ 0 := by omega
     have hmk : m * 1 ≤ m * k := Nat.mul_le_mul_left _ (by omega)
     have hm0 : wrap64 (m : Int) = (m : Int) := wrap64_of (by unfold I64; omega)
     have hm1 : wrap64 ((m : Int) - 1) = (m : Int) - 1 := wrap64_of (by unfold I64; omega)
     clear hmk
     have HR1 := ZM hr1
     have HC1 := ZM hc1
     clear h h1 h2 hr1 hc1 hrs
     by_cases c : 2 ≤ m ∧ m ≤ 17
     · have hne : ¬ m * k = l1.length := fun e => hg (hgd.2 ⟨c.1, c.2, e⟩)
       have D : linear_Dim.f ((m : Int) - 1) = some ((m : Int), 0) := by
        unfold linear_Dim.f
        rw [if_neg (by omega), if_neg (by omega), show ((m : Int) - 1 + 1) = m by omega, wrap64_of (by unfold I64; omega)]
       have hmul : wrap64 ((m : Int) * k) = ((m * k : Nat) : Int) := by
        have q1 : m * k ≤ 17 * 8 := Nat.mul_le_mul c.2 hk8
        have q2 : ((m * k : Nat) : Int) = (m : Int) * k := by push_cast; rfl
        rw [← q2, wrap64_of (by unfold I64; omega)]
       have hn1 : (((m * k : Nat) : Int) != (l1.length : Int)) = true := bne_iff_ne.2 (fun e => hne (by omega))
       generalize m * k = p at hmul hn1
       clear hg hgd hle c hne
       go_enter Try.func12, Try.ntmps12
       go_wp2_with (first | (go_at_call 27; (with_reducible refine (soft_classes.calls _ true _ A).mono ?_); rintro e w' ⟨rfl, ⟨nd, rfl⟩⟩) | (go_at_call 28; (with_reducible refine (linear_Dim.calls _ _ _ _ D).mono ?_); rintro e w' ⟨rfl, ⟨nd1, rfl⟩⟩))
       go_ret2
       exact ⟨_, rfl, Kd.S_nil _ _ _ _ _, zzN (Below.refl _ _) _⟩
     · have D : linear_Dim.f ((m : Int) - 1) = some (0, 1) := by
        unfold linear_Dim.f
        by_cases c1 : (m : Int) - 1 < 1
        · rw [if_pos c1]
        · rw [if_neg c1, if_pos (by omega)]
       clear hg hgd hle c
       go_enter Try.func12, Try.ntmps12
       go_wp2_with (first | (go_at_call 27; (with_reducible refine (soft_classes.calls _ true _ A).mono ?_); rintro e w' ⟨rfl, ⟨nd, rfl⟩⟩) | (go_at_call 28; (with_reducible refine (linear_Dim.calls _ _ _ _ D).mono ?_); rintro e w' ⟨rfl, ⟨nd1, rfl⟩⟩))
       go_ret2
       exact ⟨_, rfl, Kd.S_nil _ _ _ _ _, zzN (Below.refl _ _) _⟩
/-! ### linear_CheckP: function 53 -/
def linear_CheckP.l0 : Nat → Int → List (S24) → Bool → List (S24) → Int → Int → Option (Int)
 | 0, _, _, _, _, _, _ => none
 | k + 1, x0, x2, x9, x24, x25, x26 => if x26 < x25 then (if 0 ≤ x26 then (if x26 < (x24.length : Int) then (if x9 = true then (linear_CheckP.l0 k x0 x2 ((((rd_T24 x24 x26).f0).length : Int) == x0) x24 x25 (wrap64 (x26 + 1))) else (linear_CheckP.l0 k x0 x2 false x24 x25 (wrap64 (x26 + 1)))) else (none)) else (none)) else (if x9 = true then (if (x2.length : Int) = 0 then (some 1) else (if (x2.length : Int) > 64 then (some 1) else (some 0))) else (some 4))
def linear_CheckP.f (k : Nat) (a0 : Int) (l1 : List Int) (l2 : List (S24)) : Option (Int) := (linear_Dim.f a0).bind fun bt101 => (if bt101.2 = 0 then (linear_CheckP.l0 k a0 l2 ((l1.length : Int) == bt101.1) l2 (l2.length : Int) 0) else (some bt101.2))
theorem linear_CheckP.mono_l : ∀ k, (∀ y0 y1 y2 y3 y4 y5, LeO (linear_CheckP.l0 k y0 y1 y2 y3 y4 y5) (linear_CheckP.l0 (k + 1) y0 y1 y2 y3 y4 y5))
 | 0 => fun _ _ _ _ _ _ r h => by simp [linear_CheckP.l0] at h
 | k + 1 => by
  have ih0 := linear_CheckP.mono_l k
  ·
   intro y0 y1 y2 y3 y4 y5
   unfold linear_CheckP.l0
   repeat' first
   | (with_reducible exact ih0 _ _ _ _ _ _)
   | (with_reducible exact LeO.refl _)
   | (with_reducible exact LeO.none _)
   | (with_reducible refine LeO.ite ?_ ?_)
   | (with_reducible refine LeO.bind ?_ (fun _ => ?_))
theorem linear_CheckP.mono : ∀ a0 a1 a2 k, LeO (linear_CheckP.f k a0 a1 a2) (linear_CheckP.f (k + 1) a0 a1 a2) := by
 intro a0 a1 a2 k
 have ih0 := linear_CheckP.mono_l k
 unfold linear_CheckP.f
 repeat' first
   | (with_reducible exact ih0 _ _ _ _ _ _)
   | (with_reducible exact LeO.refl _)
   | (with_reducible exact LeO.none _)
   | (with_reducible refine LeO.ite ?_ ?_)
   | (with_reducible refine LeO.bind ?_ (fun _ => ?_))
set_option maxHeartbeats 8000000 in
set_option maxRecDepth 100000 in
theorem linear_CheckP.calls (k : Nat) (a0 : Int) (A1 : Option Addr) (c1 : Nat) (l1 : List Int) (A2 : Option Addr) (c2 : Nat) (l2 : List (S24)) (r : Int) (w : World) (hr1 : Kd.C (Kd.int .i64) w A1 l1.length l1) (hc1 : l1.length ≤ c1) (hr2 : Kd.C k24 w A2 l2.length l2) (hc2 : l2.length ≤ c2) (h : linear_CheckP.f k a0 l1 l2 = some r) :
  Calls Try.prog 53 #[.int .i64 a0, .slice A1 l1.length c1, .slice A2 l2.length c2] w fun e w' => e = .returned (.int .i64 r) ∧ Below w.heap.size w w' := by
 have hu24 := Try.underlying24
 have HR1 := ZM hr1
 have HC1 := ZM hc1
 clear hr1 hc1
 have HR2 := ZM hr2
 have HC2 := ZM hc2
 clear hr2 hc2
 have HB := ZM (Below.refl w.heap.size w)
 have H : ((linear_Dim.f a0).bind fun bt101 => (if bt101.2 = 0 then (linear_CheckP.l0 k a0 l2 ((l1.length : Int) == bt101.1) l2 (l2.length : Int) 0) else (some bt101.2))) = some r := h
 clear h
 replace H := Option.bind_eq_some_iff.mp H
 obtain ⟨⟨t101, t102⟩, A40, H⟩ := H
 replace H : (if t102 = 0 then (linear_CheckP.l0 k a0 l2 ((l1.length : Int) == t101) l2 (l2.length : Int) 0) else (some t102)) = some r := H
 have A4 := ZM A40
 clear A40
 by_cases c5 : t102 = 0
 case neg =>
  rw [if_neg c5] at H
  have c5b0 : (t102 == 0) = false := beq_eq_false_iff_ne.mpr c5
  have c5b1 : (t102 != 0) = true := bne_iff_ne.mpr c5
  obtain rfl := Option.some.inj H
  go_enter Try.func53, Try.ntmps53
  go_wp2_with (first | ((with_reducible refine gate_callee (f := 28) rfl ?_); refine goesL_ (some 14) rfl rfl Try.func28 (by kernel_rfl) rfl #[.int .i64 a0] rfl Z2 ?_; (with_reducible refine (linear_Dim.calls a0 t101 t102 _ A4.out).mono ?_); rintro e w' ⟨rfl, ⟨nd, rfl⟩⟩; refine ⟨_, rfl, ?_⟩))
  go_ret
  exact ⟨by first | rfl | (simp [errW_none, errW_some] <;> rfl) | (simp [*, errW_none, errW_some] <;> rfl), by repeat (first | (with_reducible first | exact HB.out | apply zzA | apply zzN | apply zzD) | exact HB.out)⟩
 rw [if_pos c5] at H
 have c5b0 : (t102 == 0) = true := beq_iff_eq.mpr c5
 have c5b1 : (t102 != 0) = false := bne_eq_false_iff_eq.mpr c5
 clear c5
 have H' := ZM H
 clear H
 go_enter Try.func53, Try.ntmps53
 go_wp2_with (first | ((with_reducible refine gate_callee (f := 28) rfl ?_); refine goesL_ (some 14) rfl rfl Try.func28 (by kernel_rfl) rfl #[.int .i64 a0] rfl Z2 ?_; (with_reducible refine (linear_Dim.calls a0 t101 t102 _ A4.out).mono ?_); rintro e w' ⟨rfl, ⟨nd, rfl⟩⟩; refine ⟨_, rfl, ?_⟩))
 go_loopg [9, 26] k (fun kq v9 v26 w' => ∃ (x9_1 : Bool) (x26_1 : Int), v9 = .bool x9_1 ∧ v26 = .int .i64 x26_1 ∧ Aside0 (linear_CheckP.l0 kq a0 l2 x9_1 l2 (l2.length : Int) x26_1 = some r) ∧ Aside0 (kq ≤ k) ∧ Aside0 (Below w.heap.size w w'))
 case atStart => exact ⟨(((l1.length : Int) == t101)), (0), Z5, Z5, H', ⟨Nat.le_refl _⟩, ⟨by repeat (first | (with_reducible first | exact HB.out | apply zzA | apply zzN | apply zzD) | exact HB.out)⟩⟩
 case round =>
  clear H'
  try clear c1
  try clear c2
  try clear c5
  try clear c5b0
  try clear c5b1
  obtain ⟨x9_1, x26_1, rfl, rfl, HA, HK1, HB⟩ := hrel
  cases gk with
  | zero => exact absurd HA.out (by simp [linear_CheckP.l0])
  | succ k1 =>
   have H := HA.out
   clear HA
   simp only [linear_CheckP.l0] at H
   by_cases c6 : x26_1 < (l2.length : Int)
   case neg =>
    rw [if_neg c6] at H
    have c6b0 : decide (x26_1 < (l2.length : Int)) = false := decide_eq_false c6
    clear c6
    by_cases c14 : x9_1 = true
    case neg =>
     replace c14 := Bool.eq_false_iff.mpr c14
     subst c14
     have H1 : (some 4) = some r := by rw [if_neg (show ¬ (false = true) by decide)] at H; exact H
     clear H
     have H := H1
     clear H1
     obtain rfl := Option.some.inj H
     go_wp2
     go_ret
     exact ⟨by first | rfl | (simp [errW_none, errW_some] <;> rfl) | (simp [*, errW_none, errW_some] <;> rfl), by repeat (first | (with_reducible first | exact HB.out | apply zzA | apply zzN | apply zzD) | exact HB.out)⟩
    subst c14
    have H1 : (if (l2.length : Int) = 0 then (some 1) else (if (l2.length : Int) > 64 then (some 1) else (some 0))) = some r := by rw [if_pos rfl] at H; exact H
    clear H
    have H := H1
    clear H1
    by_cases c15 : (l2.length : Int) = 0
    ·
     rw [if_pos c15] at H
     have c15b0 : ((l2.length : Int) == 0) = true := beq_iff_eq.mpr c15
     have c15b1 : ((l2.length : Int) != 0) = false := bne_eq_false_iff_eq.mpr c15
     clear c15
     obtain rfl := Option.some.inj H
     go_wp2
     go_ret
     exact ⟨by first | rfl | (simp [errW_none, errW_some] <;> rfl) | (simp [*, errW_none, errW_some] <;> rfl), by repeat (first | (with_reducible first | exact HB.out | apply zzA | apply zzN | apply zzD) | exact HB.out)⟩
    rw [if_neg c15] at H
    have c15b0 : ((l2.length : Int) == 0) = false := beq_eq_false_iff_ne.mpr c15
    have c15b1 : ((l2.length : Int) != 0) = true := bne_iff_ne.mpr c15
    have c15b2 : ¬ (l2 = []) := fun h_ => c15 (by rw [h_]; rfl)
    by_cases c16 : (l2.length : Int) > 64
    case neg =>
     rw [if_neg c16] at H
     have c16b0 : decide (64 < (l2.length : Int)) = false := decide_eq_false c16
     have c16b1 : decide (64 < l2.length) = false := decide_eq_false (by omega)
     clear c16
     obtain rfl := Option.some.inj H
     go_wp2
     go_ret
     exact ⟨by first | rfl | (simp [errW_none, errW_some] <;> rfl) | (simp [*, errW_none, errW_some] <;> rfl), by repeat (first | (with_reducible first | exact HB.out | apply zzA | apply zzN | apply zzD) | exact HB.out)⟩
    rw [if_pos c16] at H
    have c16b0 : decide (64 < (l2.length : Int)) = true := decide_eq_true c16
    have c16b1 : decide (64 < l2.length) = true := decide_eq_true (by omega)
    clear c16
    obtain rfl := Option.some.inj H
    go_wp2
    go_ret
    exact ⟨by first | rfl | (simp [errW_none, errW_some] <;> rfl) | (simp [*, errW_none, errW_some] <;> rfl), by repeat (first | (with_reducible first | exact HB.out | apply zzA | apply zzN | apply zzD) | exact HB.out)⟩
   rw [if_pos c6] at H
   have c6b0 : decide (x26_1 < (l2.length : Int)) = true := decide_eq_true c6
   clear c6
   by_cases c7 : 0 ≤ x26_1
   case neg =>
    rw [if_neg c7] at H
    exact absurd H (by simp)
   rw [if_pos c7] at H
   have c7b0 : decide (0 ≤ x26_1) = true := decide_eq_true c7
   clear c7
   by_cases c8 : x26_1 < (l2.length : Int)
   case neg =>
    rw [if_neg c8] at H
    exact absurd H (by simp)
   rw [if_pos c8] at H
   have c8b0 : decide (x26_1 < (l2.length : Int)) = true := decide_eq_true c8
   clear c8
   by_cases c9 : x9_1 = true
   ·
    subst c9
    have H1 : (linear_CheckP.l0 k1 a0 l2 ((((rd_T24 l2 x26_1).f0).length : Int) == a0) l2 (l2.length : Int) (wrap64 (x26_1 + 1))) = some r := by rw [if_pos rfl] at H; exact H
    clear H
    have H := H1
    clear H1
    have H' := ZM H
    clear H
    have p103 : 0 ≤ (x26_1 : Int) := of_decide_eq_true Z3
    have q103 : x26_1 < (l2.length : Int) := of_decide_eq_true Z3
    obtain ⟨ad103, A103_0, c103_0, e103, hx103_0, hx103_1, hl103_0, hi103_0⟩ := at_T24 HR2.out x26_1 p103 q103
    cases e103
    replace hx103_0 := (HB.out.cell (World.block_lt_of_cell? w _ hx103_0)).trans hx103_0
    replace hx103_1 := (HB.out.cell (World.block_lt_of_cell? w _ hx103_1)).trans hx103_1
    have HR103_0 := ZM hi103_0
    have HC103_0 := ZM hl103_0
    clear hi103_0 hl103_0
    replace p103 := eq_true p103
    replace q103 := eq_true q103
    go_wp2_with (first | ((with_reducible refine gate_dst (N := 11) rfl ?_); (try (refine gate_guard (by rfl) ?_; dsimp only)); refine box_event ?hg (N := 11) ?hd (cs := #[.slice none 0 0, .int .i64 0]) (t := 24) ?hr ?_; (case hd => rfl); (case hg => rfl); (case hr => exact Z10); intro gb104 hg w10 hbox hb; have BK104 := ZM (hbox); have GW104 := ZM ((by rw [hg]; exact (zzS Z1) : w.heap.size ≤ gb104)); have GE104 := ZM ((by rw [hg]; exact (zzS Z1) : w.heap.size ≤ gb104)); replace HB := ZM (zzT Z1 hb); clear hb hbox hg; obtain ⟨hcz11_0, hcz11_1, hfz11_0, hfz11_1⟩ := Y2f BK104))
    go_roundg k1
    case measure => have := HK1.out; omega
    case rel => exact ⟨(((((rd_T24 l2 x26_1).f0).length : Int) == a0)), (wrap64 (x26_1 + 1)), Z5, Z5, H', ⟨by have := HK1.out; omega⟩, ⟨by repeat (first | (with_reducible first | exact HB.out | apply zzA | apply zzN | apply zzD | refine below_set ?_ GE104.out) | exact HB.out)⟩⟩
   replace c9 := Bool.eq_false_iff.mpr c9
   subst c9
   have H1 : (linear_CheckP.l0 k1 a0 l2 false l2 (l2.length : Int) (wrap64 (x26_1 + 1))) = some r := by rw [if_neg (show ¬ (false = true) by decide)] at H; exact H
   clear H
   have H := H1
   clear H1
   have H' := ZM H
   clear H
   have p103 : 0 ≤ (x26_1 : Int) := of_decide_eq_true Z3
   have q103 : x26_1 < (l2.length : Int) := of_decide_eq_true Z3
   obtain ⟨ad103, A103_0, c103_0, e103, hx103_0, hx103_1, hl103_0, hi103_0⟩ := at_T24 HR2.out x26_1 p103 q103
   cases e103
   replace hx103_0 := (HB.out.cell (World.block_lt_of_cell? w _ hx103_0)).trans hx103_0
   replace hx103_1 := (HB.out.cell (World.block_lt_of_cell? w _ hx103_1)).trans hx103_1
   have HR103_0 := ZM hi103_0
   have HC103_0 := ZM hl103_0
   clear hi103_0 hl103_0
   replace p103 := eq_true p103
   replace q103 := eq_true q103
   go_wp2_with (first | ((with_reducible refine gate_dst (N := 11) rfl ?_); (try (refine gate_guard (by rfl) ?_; dsimp only)); refine box_event ?hg (N := 11) ?hd (cs := #[.slice none 0 0, .int .i64 0]) (t := 24) ?hr ?_; (case hd => rfl); (case hg => rfl); (case hr => exact Z10); intro gb104 hg w12 hbox hb; have BK104 := ZM (hbox); have GW104 := ZM ((by rw [hg]; exact (zzS Z1) : w.heap.size ≤ gb104)); have GE104 := ZM ((by rw [hg]; exact (zzS Z1) : w.heap.size ≤ gb104)); replace HB := ZM (zzT Z1 hb); clear hb hbox hg; obtain ⟨hcz13_0, hcz13_1, hfz13_0, hfz13_1⟩ := Y2f BK104))
   go_roundg k1
   case measure => have := HK1.out; omega
   case rel => exact ⟨(false), (wrap64 (x26_1 + 1)), Z5, Z5, H', ⟨by have := HK1.out; omega⟩, ⟨by repeat (first | (with_reducible first | exact HB.out | apply zzA | apply zzN | apply zzD | refine below_set ?_ GE104.out) | exact HB.out)⟩⟩
theorem linear_CheckP.loop (x0 : Int) (x2 : List S24) (hb : x2.length ≤ 9223372036854775807) : ∀ (d i : Nat) (b : Bool), d + i = x2.length →
    linear_CheckP.l0 (d + 1) x0 x2 b x2 (x2.length : Int) (i : Int) = some (fitsGo x0 (x2.drop i) x2.length b) := by
  intro d
  induction d with
  | zero =>
    intro i b hd
    rw [linear_CheckP.l0, if_neg (by omega), List.drop_eq_nil_of_le (by omega)]
    by_cases c : b = true
    · rw [if_pos c, c, fitsGo_nil]
      by_cases c2 : (x2.length : Int) = 0
      · rw [if_pos c2, if_pos (by omega)]
      · rw [if_neg c2]
        by_cases c3 : (x2.length : Int) > 64
        · rw [if_pos c3, if_pos (by omega)]
        · rw [if_neg c3, if_neg (by omega)]
    · rw [if_neg c, Bool.eq_false_iff.2 c, fitsGo_false]
  | succ d ih =>
    intro i b hd
    have hi : i < x2.length := by omega
    rw [linear_CheckP.l0, if_pos (by omega), if_pos (by omega), if_pos (by omega), rd_sm hi, List.drop_eq_getElem_cons hi, wrap64_of (by unfold I64; omega), show (i : Int) + 1 = ((i + 1 : Nat) : Int) by omega, ih (i + 1) _ (by omega), ih (i + 1) _ (by omega)]
    by_cases c : b = true
    · rw [if_pos c, c, fitsGo_cons]
    · rw [if_neg c, Bool.eq_false_iff.2 c, fitsGo_false, fitsGo_false]
def linear_Check.f (a0 : Int) (l1 : List Int) (l2 : List S24) : Option Int := some (checkL a0 l1 (l2.map sm))
theorem linear_Check.calls (a0 : Int) (A1 : Option Addr) (c1 : Nat) (l1 : List Int) (A2 : Option Addr) (c2 : Nat) (l2 : List (S24)) (r : Int) (w : World) (hr1 : Kd.C (Kd.int .i64) w A1 l1.length l1) (hc1 : l1.length ≤ c1) (hr2 : Kd.C k24 w A2 l2.length l2) (hc2 : l2.length ≤ c2) (h : linear_Check.f a0 l1 l2 = some r) :
    Calls Try.prog 53 #[.int .i64 a0, .slice A1 l1.length c1, .slice A2 l2.length c2] w fun e w' => e = .returned (.int .i64 r) ∧ Below w.heap.size w w' := by
  have hm := Kd.C_max hr2
  refine linear_CheckP.calls (l2.length + 1) a0 A1 c1 l1 A2 c2 l2 r w hr1 hc1 hr2 hc2 (Eq.trans ?_ h)
  unfold linear_CheckP.f linear_Check.f
  rw [linear_Dim.of, checkL_sm]
  unfold dimL
  simp only [Option.bind_some]
  by_cases c : a0 < 1 ∨ a0 > 16
  · rw [if_pos c, if_pos c]; rfl
  · rw [if_neg c, if_neg c]
    simp only [if_true]
    exact linear_CheckP.loop a0 l2 hm l2.length 0 _ (by omega)


/-! ### fix_behindP: function 58 -/
def fix_behindP.f (a0 : Int) : Option (Bool) := if a0 ≥ 0 then (some (decide (a0 ≤ 30))) else (some false)
set_option maxHeartbeats 8000000 in
set_option maxRecDepth 100000 in
theorem fix_behindP.calls (a0 : Int) (r : Bool) (w : World) (h : fix_behindP.f a0 = some r) :
  Calls Try.prog 58 #[.int .i64 a0] w fun e w' => e = .returned (.bool r) ∧ Drawn0 w w' := by
 have H : (if a0 ≥ 0 then (some (decide (a0 ≤ 30))) else (some false)) = some r := h
 clear h
 by_cases c2 : a0 ≥ 0
 case neg =>
  rw [if_neg c2] at H
  have c2b0 : decide (0 ≤ a0) = false := decide_eq_false c2
  clear c2
  obtain rfl := Option.some.inj H
  go_enter Try.func58, Try.ntmps58
  go_wp2
  go_ret
  exact ⟨by first | rfl | (simp; done) | (simp [*]; done), by repeat (first | exact ddR _ | apply ddS)⟩
 rw [if_pos c2] at H
 have c2b0 : decide (0 ≤ a0) = true := decide_eq_true c2
 clear c2
 obtain rfl := Option.some.inj H
 go_enter Try.func58, Try.ntmps58
 go_wp2
 go_ret
 exact ⟨by first | rfl | (simp; done) | (simp [*]; done), by repeat (first | exact ddR _ | apply ddS)⟩
def fix_behind.f (a0 : Int) : Option Bool := some (decide (0 ≤ a0 ∧ a0 ≤ 30))
theorem fix_behind.calls (a0 : Int) (r : Bool) (w : World) (h : fix_behind.f a0 = some r) :
    Calls Try.prog 58 #[.int .i64 a0] w fun e w' => e = .returned (.bool r) ∧ Drawn0 w w' := by
  refine fix_behindP.calls a0 r w ?_
  rw [← h]; unfold fix_behindP.f fix_behind.f
  by_cases c : a0 ≥ 0
  · rw [if_pos c]; simp [c]
  · rw [if_neg c]; simp [c]


/-! ### bits_Mul64P: function 59 -/
def bits_Mul64P.f (a0 : Int) (a1 : Int) : Option (Int × Int) := some (IntKind.u64.wrap ((IntKind.u64.wrap ((IntKind.u64.wrap ((a0 / 4294967296) * (a1 / 4294967296))) + ((IntKind.u64.wrap ((IntKind.u64.wrap ((a0 / 4294967296) * (Go.bits .and .u64 a1 4294967295))) + ((IntKind.u64.wrap ((Go.bits .and .u64 a0 4294967295) * (Go.bits .and .u64 a1 4294967295))) / 4294967296))) / 4294967296))) + ((IntKind.u64.wrap ((Go.bits .and .u64 (IntKind.u64.wrap ((IntKind.u64.wrap ((a0 / 4294967296) * (Go.bits .and .u64 a1 4294967295))) + ((IntKind.u64.wrap ((Go.bits .and .u64 a0 4294967295) * (Go.bits .and .u64 a1 4294967295))) / 4294967296))) 4294967295) + (IntKind.u64.wrap ((Go.bits .and .u64 a0 4294967295) * (a1 / 4294967296))))) / 4294967296)), IntKind.u64.wrap (a0 * a1))
set_option maxHeartbeats 8000000 in
set_option maxRecDepth 100000 in
theorem bits_Mul64P.calls (a0 : Int) (a1 : Int) (r1 : Int) (r2 : Int) (w : World) (h : bits_Mul64P.f a0 a1 = some (r1, r2)) :
  Calls Try.prog 59 #[.int .u64 a0, .int .u64 a1] w fun e w' => e = .returned (.tuple #[.int .u64 r1, .int .u64 r2]) ∧ Drawn0 w w' := by
 have H : (some (IntKind.u64.wrap ((IntKind.u64.wrap ((IntKind.u64.wrap ((a0 / 4294967296) * (a1 / 4294967296))) + ((IntKind.u64.wrap ((IntKind.u64.wrap ((a0 / 4294967296) * (Go.bits .and .u64 a1 4294967295))) + ((IntKind.u64.wrap ((Go.bits .and .u64 a0 4294967295) * (Go.bits .and .u64 a1 4294967295))) / 4294967296))) / 4294967296))) + ((IntKind.u64.wrap ((Go.bits .and .u64 (IntKind.u64.wrap ((IntKind.u64.wrap ((a0 / 4294967296) * (Go.bits .and .u64 a1 4294967295))) + ((IntKind.u64.wrap ((Go.bits .and .u64 a0 4294967295) * (Go.bits .and .u64 a1 4294967295))) / 4294967296))) 4294967295) + (IntKind.u64.wrap ((Go.bits .and .u64 a0 4294967295) * (a1 / 4294967296))))) / 4294967296)), IntKind.u64.wrap (a0 * a1))) = some (r1, r2) := h
 clear h
 simp only [Option.some.injEq, Prod.mk.injEq] at H
 obtain ⟨rfl, rfl⟩ := H
 go_enter Try.func59, Try.ntmps59
 go_wp2
 go_ret2
 exact ⟨by first | rfl | (simp; done) | (simp [*]; done), by repeat (first | exact ddR _ | apply ddS)⟩
def bits_Mul64.f (a0 a1 : Int) : Option (Int × Int) := if U64 a0 ∧ U64 a1 then some (a0 * a1 / 18446744073709551616, a0 * a1 % 18446744073709551616) else none
theorem bits_Mul64.of (a0 a1 : Int)  (h_ : U64 a0 ∧ U64 a1) : bits_Mul64.f a0 a1 = some (a0 * a1 / 18446744073709551616, a0 * a1 % 18446744073709551616) := if_pos h_
theorem bits_Mul64P.spec {a0 a1 : Int} (h0 : U64 a0) (h1 : U64 a1) : bits_Mul64P.f a0 a1 = some (a0 * a1 / 18446744073709551616, a0 * a1 % 18446744073709551616) := by
  unfold bits_Mul64P.f
  rw [and32 h0, and32 h1]
  unfold U64 at h0 h1
  obtain ⟨x, rfl⟩ := Int.eq_ofNat_of_zero_le h0.1
  obtain ⟨y, rfl⟩ := Int.eq_ofNat_of_zero_le h1.1
  have hx : x < 18446744073709551616 := by omega
  have hy : y < 18446744073709551616 := by omega
  have hm : ((x * y / 18446744073709551616 : Nat) : Int) = (x : Int) * y / 18446744073709551616 := by simp
  obtain ⟨k1, k2, k3, k4⟩ := Lib.mul64_hi x y hx hy
  have e1 : (x : Int) / 4294967296 * ((y : Int) / 4294967296) = ((x / 4294967296 * (y / 4294967296) : Nat) : Int) := by simp
  have e2 : (x : Int) / 4294967296 * ((y : Int) % 4294967296) = ((x / 4294967296 * (y % 4294967296) : Nat) : Int) := by simp
  have e3 : (x : Int) % 4294967296 * ((y : Int) % 4294967296) = ((x % 4294967296 * (y % 4294967296) : Nat) : Int) := by simp
  have e4 : (x : Int) % 4294967296 * ((y : Int) / 4294967296) = ((x % 4294967296 * (y / 4294967296) : Nat) : Int) := by simp
  have ha := Lib.half_mul_le (a := x / 4294967296) (b := y / 4294967296) (by omega) (by omega)
  have hb := Lib.half_mul_le (a := x / 4294967296) (b := y % 4294967296) (by omega) (by omega)
  have hc := Lib.half_mul_le (a := x % 4294967296) (b := y / 4294967296) (by omega) (by omega)
  have hd := Lib.half_mul_le (a := x % 4294967296) (b := y % 4294967296) (by omega) (by omega)
  have hxy : x * y < 18446744073709551616 * 18446744073709551616 := by
    have := Nat.mul_le_mul (show x ≤ 18446744073709551615 by omega) (show y ≤ 18446744073709551615 by omega); omega
  rw [← hm]
  simp only [wu, and32m, e1, e2, e3, e4, Option.some.injEq, Prod.mk.injEq, and_true]
  clear e1 e2 e3 e4 hm
  generalize x / 4294967296 * (y / 4294967296) = a at *
  generalize x / 4294967296 * (y % 4294967296) = b at *
  generalize x % 4294967296 * (y / 4294967296) = c at *
  generalize x % 4294967296 * (y % 4294967296) = d at *
  generalize x * y = p at *
  omega
theorem bits_Mul64.calls (a0 : Int) (a1 : Int) (r1 : Int) (r2 : Int) (w : World) (h : bits_Mul64.f a0 a1 = some (r1, r2)) :
    Calls Try.prog 59 #[.int .u64 a0, .int .u64 a1] w fun e w' => e = .returned (.tuple #[.int .u64 r1, .int .u64 r2]) ∧ Drawn0 w w' := by
  unfold bits_Mul64.f at h
  split at h
  · rename_i hu
    exact bits_Mul64P.calls a0 a1 r1 r2 w ((bits_Mul64P.spec hu.1 hu.2).trans h)
  · cases h


/-! ### fix_times: function 84 -/
set_option maxRecDepth 100000 in
set_option maxHeartbeats 1000000 in
theorem fix_times.calls (a b : Int) (w : World) (ha : I64 a) (hb : I64 b) :
    Calls Try.prog 84 #[.int .i64 a, .int .i64 b] w fun e w' => e = .returned (.agg #[.int .u64 (a * b / 18446744073709551616 % 18446744073709551616), .int .u64 (a * b % 18446744073709551616)]) ∧ Below w.heap.size w w' := by
 have hm : bits_Mul64.f (IntKind.u64.wrap a) (IntKind.u64.wrap b) = some (IntKind.u64.wrap a * IntKind.u64.wrap b / 18446744073709551616, IntKind.u64.wrap a * IntKind.u64.wrap b % 18446744073709551616) := by
  unfold bits_Mul64.f; rw [if_pos ⟨by rw [wu]; unfold U64; omega, by rw [wu]; unfold U64; omega⟩]
 obtain ⟨h, hh⟩ : ∃ h, h = IntKind.u64.wrap a * IntKind.u64.wrap b / 18446744073709551616 := ⟨_, rfl⟩
 obtain ⟨l, hl⟩ : ∃ l, l = IntKind.u64.wrap a * IntKind.u64.wrap b % 18446744073709551616 := ⟨_, rfl⟩
 rw [← hh, ← hl] at hm
 have HM := ZM hm
 have HH := ZM hh
 have HL := ZM hl
 clear hm hh hl
 have fin : ∀ x y : Int, (if b < 0 then IntKind.u64.wrap ((if a < 0 then IntKind.u64.wrap (h - IntKind.u64.wrap b) else h) - IntKind.u64.wrap a) else (if a < 0 then IntKind.u64.wrap (h - IntKind.u64.wrap b) else h)) = x → l = y →
   x = a * b / 18446744073709551616 % 18446744073709551616 ∧ y = a * b % 18446744073709551616 := by
  rintro x y rfl rfl
  have hh := HH.out
  have hl := HL.out
  unfold I64 at ha hb
  simp only [wu] at hh hl ⊢
  have ea : a % 18446744073709551616 = if a < 0 then a + 18446744073709551616 else a := by split <;> omega
  have eb : b % 18446744073709551616 = if b < 0 then b + 18446744073709551616 else b := by split <;> omega
  rw [ea, eb] at hh hl
  by_cases c1 : a < 0 <;> by_cases c2 : b < 0 <;> simp only [c1, c2, if_true, if_false] at hh hl ⊢
  · have e : (a + 18446744073709551616) * (b + 18446744073709551616) = a * b + 18446744073709551616 * a + 18446744073709551616 * b + 18446744073709551616 * 18446744073709551616 := by grind
    rw [e] at hh hl
    generalize a * b = p at *
    omega
  · have e : (a + 18446744073709551616) * b = a * b + 18446744073709551616 * b := by grind
    rw [e] at hh hl
    generalize a * b = p at *
    omega
  · have e : a * (b + 18446744073709551616) = a * b + 18446744073709551616 * a := by grind
    rw [e] at hh hl
    generalize a * b = p at *
    omega
  · have hp : 0 ≤ a * b := Int.mul_nonneg (by omega) (by omega)
    have hq : a * b ≤ 9223372036854775807 * 9223372036854775807 := Int.mul_le_mul (by omega) (by omega) (by omega) (by omega)
    generalize a * b = p at *
    omega
 have FIN := ZM fin
 clear fin ha hb
 have hu := Try.underlying94
 by_cases c1 : a < 0 <;> by_cases c2 : b < 0
 all_goals
  have F := FIN.out _ _ rfl rfl
  simp only [c1, c2, if_true, if_false] at F
  have F0 := ZM F
  clear F FIN
  go_enter Try.func84, Try.ntmps84
  go_wp2_with (go_at_call 59; (with_reducible refine (bits_Mul64.calls (IntKind.u64.wrap a) (IntKind.u64.wrap b) h l _ HM.out).mono ?_); rintro e w' ⟨rfl, ⟨nd, rfl⟩⟩)
  obtain ⟨F1, F2⟩ := F0.out
  refine bodyPost_ret (v := .agg #[.int .u64 (a * b / 18446744073709551616 % 18446744073709551616), .int .u64 (a * b % 18446744073709551616)]) (by rw [← F1, ← F2]; simp [results, Try.results84, go_sem]) rfl ⟨rfl, ?_⟩
  exact ((zzN (zzA (Below.refl _ _) _) _).setCell (Nat.le_refl _) _).setCell (Nat.le_refl _) _
/-! ### fix_product_down: function 85 -/
set_option maxRecDepth 100000 in
set_option maxHeartbeats 1000000 in
theorem fix_product_down.zero (hi lo : Int) (w : World) :
    Calls Try.prog 85 #[.agg #[.int .u64 hi, .int .u64 lo], .int .i64 0] w fun e w' => e = .returned (.agg #[.int .u64 hi, .int .u64 lo]) ∧ Below w.heap.size w w' := by
  have hu := Try.underlying94
  go_enter Try.func85, Try.ntmps85
  go_wp2
  exact bodyPost_ret (v := .agg #[.int .u64 hi, .int .u64 lo]) (by simp [results, Try.results85, go_sem]) rfl ⟨rfl, zzA (zzA (Below.refl _ _) _) _⟩
set_option maxRecDepth 100000 in
set_option maxHeartbeats 1000000 in
theorem fix_product_down.calls (hi lo by_ : Int) (w : World) (h0 : U64 hi) (h1 : U64 lo) (hb0 : 0 < by_) (hb : by_ ≤ 30) :
    Calls Try.prog 85 #[.agg #[.int .u64 hi, .int .u64 lo], .int .i64 by_] w fun e w' => e = .returned (.agg #[.int .u64 (IntKind.u64.wrap (wrap64 hi / 2 ^ by_.toNat)), .int .u64 (Go.bits .or .u64 (IntKind.u64.wrap (hi * 2 ^ (64 - by_).toNat)) (lo / 2 ^ by_.toNat))]) ∧ Below w.heap.size w w' := by
 unfold U64 at h0 h1
 have hu := Try.underlying94
 have c0 : (by_ == 0) = false := beq_eq_false_iff_ne.2 (by omega)
 go_enter Try.func85, Try.ntmps85
 go_wp2
 go_region
 all_goals (try go_wp2)
 all_goals
  refine bodyPost_ret (v := .agg #[.int .u64 (IntKind.u64.wrap (wrap64 hi / 2 ^ by_.toNat)), .int .u64 (Go.bits .or .u64 (IntKind.u64.wrap (hi * 2 ^ (64 - by_).toNat)) (lo / 2 ^ by_.toNat))]) (by simp [results, Try.results85, go_sem]) rfl ⟨rfl, ?_⟩
  exact Below.drew (zzA (zzA (Below.refl _ _) _) _)
/-! ### fix_product_narrow: function 86 -/
set_option maxRecDepth 100000 in
set_option maxHeartbeats 1000000 in
theorem fix_product_narrow.calls (hi lo : Int) (w : World) (h0 : U64 hi) (h1 : U64 lo) :
    Calls Try.prog 86 #[.agg #[.int .u64 hi, .int .u64 lo]] w fun e w' => e = .returned (if hi = IntKind.u64.wrap (wrap64 lo / 9223372036854775808) then .tuple #[.int .i64 (wrap64 lo), .int .i64 0] else .tuple #[.int .i64 0, .int .i64 2]) ∧ Below w.heap.size w w' := by
 unfold U64 at h0 h1
 obtain ⟨i, hi_⟩ : ∃ i, Try.prog.info? 71 = some i := by have := info71; cases h : Try.prog.info? 71 with | none => rw [h] at this; cases this | some i => exact ⟨i, rfl⟩
 have hq := fun (a b c d : Int) (w : World) => run_eq_arr2 (P := Try.prog) (t := 94) (e := 71) (k := .u64) Try.underlying94 hi_ Try.underlying71 (by kernel_rfl) (by kernel_rfl) a b c d w
 clear hi_
 have hu := Try.underlying94
 by_cases c : hi = IntKind.u64.wrap (wrap64 lo / 9223372036854775808)
 · rw [if_pos c]
   have c0 : (hi == IntKind.u64.wrap (wrap64 lo / 9223372036854775808)) = true := beq_iff_eq.2 c
   clear c
   go_enter Try.func86, Try.ntmps86
   go_wp2
   go_ret2
   exact ⟨rfl, zzA (Below.refl _ _) _⟩
 · rw [if_neg c]
   have c0 : (hi == IntKind.u64.wrap (wrap64 lo / 9223372036854775808)) = false := beq_eq_false_iff_ne.2 c
   clear c
   go_enter Try.func86, Try.ntmps86
   go_wp2
   go_ret2
   exact ⟨rfl, zzA (Below.refl _ _) _⟩
/-! ### fix_Mul: function 73 -/
def fix_Mul.f (a0 a1 a2 : Int) : Option (Int × Int) := if I64 a0 ∧ I64 a1 then some (mulF a0 a1 a2) else none
theorem fix_Mul.of (a0 a1 a2 : Int)  (h_ : I64 a0 ∧ I64 a1) : fix_Mul.f a0 a1 a2 = some (mulF a0 a1 a2) := if_pos h_
set_option maxRecDepth 100000 in
set_option maxHeartbeats 1000000 in
theorem fix_Mul.calls (a0 : Int) (a1 : Int) (a2 : Int) (r1 : Int) (r2 : Int) (w : World) (h : fix_Mul.f a0 a1 a2 = some (r1, r2)) :
    Calls Try.prog 73 #[.int .i64 a0, .int .i64 a1, .int .i64 a2] w fun e w' => e = .returned (.tuple #[.int .i64 r1, .int .i64 r2]) ∧ Below w.heap.size w w' := by
 unfold fix_Mul.f at h
 split at h
 · rename_i hr
   obtain ⟨h0, h1⟩ := hr
   unfold mulF at h
   have hb1 : -170141183460469231731687303715884105728 ≤ a0 * a1 ∧ a0 * a1 < 170141183460469231731687303715884105728 := prod_bd h0 h1
   obtain ⟨p, hp⟩ : ∃ p, p = a0 * a1 := ⟨_, rfl⟩
   rw [← hp] at h hb1
   have HT : ∀ w : World, Calls Try.prog 84 #[.int .i64 a0, .int .i64 a1] w fun e w' => e = .returned (.agg #[.int .u64 (p / 18446744073709551616 % 18446744073709551616), .int .u64 (p % 18446744073709551616)]) ∧ Below w.heap.size w w' := fun w => by rw [hp]; exact fix_times.calls a0 a1 w h0 h1
   have HT0 := ZM HT
   clear HT hp h0 h1
   split at h
   · rename_i hf
     have hbe : fix_behind.f a2 = some true := by unfold fix_behind.f; rw [decide_eq_true hf]
     have HBE := ZM hbe
     clear hbe
     have hq : ∃ q, res q = (r1, r2) ∧ -170141183460469231731687303715884105728 ≤ q ∧ q < 170141183460469231731687303715884105728 ∧ q = p / 2 ^ a2.toNat := by
      refine ⟨_, Option.some.inj h, ?_, ?_, rfl⟩
      · exact (div_bd p _ (Nat.two_pow_pos a2.toNat) hb1.1 hb1.2).1
      · exact (div_bd p _ (Nat.two_pow_pos a2.toNat) hb1.1 hb1.2).2
     clear h
     obtain ⟨q, hq, hq0, hq1, hqp⟩ := hq
     have HN : ∀ w : World, Calls Try.prog 86 #[.agg #[.int .u64 (q / 18446744073709551616 % 18446744073709551616), .int .u64 (q % 18446744073709551616)]] w fun e w' => e = .returned (.tuple #[.int .i64 r1, .int .i64 r2]) ∧ Below w.heap.size w w' := by
      intro w
      have := fix_product_narrow.calls (q / 18446744073709551616 % 18446744073709551616) (q % 18446744073709551616) w (by unfold U64; omega) (by unfold U64; omega)
      by_cases c : I64 q
      · rw [res_of c] at hq
        obtain ⟨n1, n2⟩ := narrow_yes c
        rw [if_pos n1, n2] at this
        cases hq
        exact this
      · rw [res_not c] at hq
        rw [if_neg (narrow_no hq0 hq1 c)] at this
        cases hq
        exact this
     have HN0 := ZM HN
     clear HN hq
     by_cases c : a2 = 0
     · subst c
       have hqp' : q = p := by rw [hqp]; simp
       subst hqp'
       clear hqp
       go_enter Try.func73, Try.ntmps73
       go_wp2_with (first | (go_at_call 58; (with_reducible refine (fix_behind.calls 0 true _ HBE.out).mono ?_); rintro e w' ⟨rfl, ⟨nd, rfl⟩⟩; have B0 := ZM (zzN (Below.refl w.heap.size w) nd)) | (go_at_call 84; refine (HT0.out _).mono ?_; rintro e w1 ⟨rfl, hb_1⟩; have B1 := ZM (below_then B0.out B0.out.size hb_1); clear hb_1) | (go_at_call 85; refine (fix_product_down.zero _ _ _).mono ?_; rintro e w2 ⟨rfl, hb_2⟩; have B2 := ZM (below_then B1.out B1.out.size hb_2); clear hb_2) | (go_at_call 86; refine (HN0.out _).mono ?_; rintro e w3 ⟨rfl, hb_3⟩; have B3 := ZM (below_then B2.out B2.out.size hb_3); clear hb_3))
       go_ret2
       exact ⟨rfl, B3.out⟩
     · have HD : ∀ w : World, Calls Try.prog 85 #[.agg #[.int .u64 (p / 18446744073709551616 % 18446744073709551616), .int .u64 (p % 18446744073709551616)], .int .i64 a2] w fun e w' => e = .returned (.agg #[.int .u64 (q / 18446744073709551616 % 18446744073709551616), .int .u64 (q % 18446744073709551616)]) ∧ Below w.heap.size w w' := by
        intro w
        have := fix_product_down.calls (p / 18446744073709551616 % 18446744073709551616) (p % 18446744073709551616) a2 w (by unfold U64; omega) (by unfold U64; omega) (by omega) hf.2
        obtain ⟨d1, d2⟩ := down_spec hb1.1 hb1.2 (show 0 < a2 by omega) hf.2
        rw [d1, d2, ← hqp] at this
        exact this
       have HD0 := ZM HD
       clear HD hqp
       go_enter Try.func73, Try.ntmps73
       go_wp2_with (first | (go_at_call 58; (with_reducible refine (fix_behind.calls a2 true _ HBE.out).mono ?_); rintro e w' ⟨rfl, ⟨nd, rfl⟩⟩; have B0 := ZM (zzN (Below.refl w.heap.size w) nd)) | (go_at_call 84; refine (HT0.out _).mono ?_; rintro e w1 ⟨rfl, hb_1⟩; have B1 := ZM (below_then B0.out B0.out.size hb_1); clear hb_1) | (go_at_call 85; refine (HD0.out _).mono ?_; rintro e w2 ⟨rfl, hb_2⟩; have B2 := ZM (below_then B1.out B1.out.size hb_2); clear hb_2) | (go_at_call 86; refine (HN0.out _).mono ?_; rintro e w3 ⟨rfl, hb_3⟩; have B3 := ZM (below_then B2.out B2.out.size hb_3); clear hb_3))
       go_ret2
       exact ⟨rfl, B3.out⟩
   · rename_i hf
     have hbe : fix_behind.f a2 = some false := by unfold fix_behind.f; rw [decide_eq_false hf]
     have HBE := ZM hbe
     clear hbe hf
     cases h
     go_enter Try.func73, Try.ntmps73
     go_wp2_with (go_at_call 58; (with_reducible refine (fix_behind.calls a2 false _ HBE.out).mono ?_); rintro e w' ⟨rfl, ⟨nd, rfl⟩⟩)
     go_ret2
     exact ⟨rfl, zzN (Below.refl w.heap.size w) nd⟩
 · cases h
/-! ### vec_behind: function 70 -/
def vec_behind.f (a0 : Int) : Option (Int) := (fix_Mul.f 0 0 a0).bind fun bt105 => (some bt105.2)
set_option maxHeartbeats 8000000 in
set_option maxRecDepth 100000 in
theorem vec_behind.calls (a0 : Int) (r : Int) (w : World) (h : vec_behind.f a0 = some r) :
  Calls Try.prog 70 #[.int .i64 a0] w fun e w' => e = .returned (.int .i64 r) ∧ Below w.heap.size w w' := by
 have HB := ZM (Below.refl w.heap.size w)
 have H : ((fix_Mul.f 0 0 a0).bind fun bt105 => (some bt105.2)) = some r := h
 clear h
 replace H := Option.bind_eq_some_iff.mp H
 obtain ⟨⟨t105, t106⟩, A20, H⟩ := H
 replace H : (some t106) = some r := H
 have A2 := ZM A20
 clear A20
 obtain rfl := Option.some.inj H
 go_enter Try.func70, Try.ntmps70
 go_wp2_with (first | ((with_reducible refine gate_callee (f := 73) rfl ?_); refine goesL_ (some 7) rfl rfl Try.func73 (by kernel_rfl) rfl #[.int .i64 0, .int .i64 0, .int .i64 a0] rfl Z2 ?_; (with_reducible refine (fix_Mul.calls 0 0 a0 t105 t106 _ A2.out).mono ?_); rintro e w3 ⟨rfl, hb⟩; refine ⟨_, rfl, ?_⟩; replace HB := ZM (zzT Z1 hb); (try clear hb); (try clear hb2); (try clear hk); (try clear hi)))
 go_ret
 exact ⟨by first | rfl | (simp [errW_none, errW_some] <;> rfl) | (simp [*, errW_none, errW_some] <;> rfl), by repeat (first | (with_reducible first | exact HB.out | apply zzA | apply zzN | apply zzD) | exact HB.out)⟩
theorem vec_behind.of (f : Int) : vec_behind.f f = some (fracE f) := by
  unfold vec_behind.f
  rw [fix_Mul.of 0 0 f ⟨i64_zero, i64_zero⟩]
  simp only [Option.bind_some, mulF_zero_snd]


/-! ### vec_pair: function 75 -/
def vec_pair.f (l0 l1 : List Int) : Option Int := some (pairE l0 l1)
set_option maxHeartbeats 2000000 in
set_option maxRecDepth 100000 in
theorem vec_pair.calls (A0 : Option Addr) (c0 : Nat) (l0 : List Int) (A1 : Option Addr) (c1 : Nat) (l1 : List Int) (r : Int) (w : World) (hr0 : Kd.C (Kd.int .i64) w A0 l0.length l0) (hc0 : l0.length ≤ c0) (hr1 : Kd.C (Kd.int .i64) w A1 l1.length l1) (hc1 : l1.length ≤ c1) (h : vec_pair.f l0 l1 = some r) :
    Calls Try.prog 75 #[.slice A0 l0.length c0, .slice A1 l1.length c1] w fun e w' => e = .returned (.int .i64 r) ∧ Below w.heap.size w w' := by
 cases h
 have hm : (if l0.length < l1.length then (l1.length : Int) else (l0.length : Int)) = ((max l0.length l1.length : Nat) : Int) := by split <;> omega
 obtain ⟨m, hM⟩ : ∃ m : Nat, max l0.length l1.length = m := ⟨_, rfl⟩
 rw [hM] at hm
 clear hr0 hr1
 unfold pairE
 by_cases c : 4096 < m
 · have c2 : decide (4096 < (m : Int)) = true := decide_eq_true (by omega)
   rw [if_pos (by omega)]
   have HM := ZM hM
   clear hM c
   go_enter Try.func75, Try.ntmps75
   go_wp2
   go_ret
   exact ⟨rfl, Below.refl _ _⟩
 · have c2 : decide (4096 < (m : Int)) = false := decide_eq_false (by omega)
   rw [if_neg (by omega)]
   by_cases c3 : l0.length = l1.length
   · have c4 : (l0.length == l1.length) = true := beq_iff_eq.2 c3
     rw [if_neg (by omega)]
     have HM := ZM hM
     have c5 : ((l0.length : Int) != (l1.length : Int)) = false := bne_eq_false_iff_eq.2 (by omega)
     have c6 : ((l0.length : Int) == (l1.length : Int)) = true := beq_iff_eq.2 (by omega)
     clear hM c c3
     go_enter Try.func75, Try.ntmps75
     go_wp2
     go_ret
     exact ⟨rfl, Below.refl _ _⟩
   · have c4 : (l0.length == l1.length) = false := beq_eq_false_iff_ne.2 c3
     rw [if_pos (by omega)]
     have HM := ZM hM
     have c5 : ((l0.length : Int) != (l1.length : Int)) = true := bne_iff_ne.2 (by omega)
     have c6 : ((l0.length : Int) == (l1.length : Int)) = false := beq_eq_false_iff_ne.2 (by omega)
     clear hM c c3
     go_enter Try.func75, Try.ntmps75
     go_wp2
     go_ret
     exact ⟨rfl, Below.refl _ _⟩
/-! ### fix_AddP: function 55 -/
def fix_AddP.f (a0 : Int) (a1 : Int) : Option (Int × Int) := if (Go.bits .and .i64 (Go.bits .xor .i64 a0 (wrap64 (a0 + a1))) (Go.bits .xor .i64 a1 (wrap64 (a0 + a1)))) < 0 then (some (0, 2)) else (some (wrap64 (a0 + a1), 0))
set_option maxHeartbeats 8000000 in
set_option maxRecDepth 100000 in
theorem fix_AddP.calls (a0 : Int) (a1 : Int) (r1 : Int) (r2 : Int) (w : World) (h : fix_AddP.f a0 a1 = some (r1, r2)) :
  Calls Try.prog 55 #[.int .i64 a0, .int .i64 a1] w fun e w' => e = .returned (.tuple #[.int .i64 r1, .int .i64 r2]) ∧ Drawn0 w w' := by
 have H : (if (Go.bits .and .i64 (Go.bits .xor .i64 a0 (wrap64 (a0 + a1))) (Go.bits .xor .i64 a1 (wrap64 (a0 + a1)))) < 0 then (some (0, 2)) else (some (wrap64 (a0 + a1), 0))) = some (r1, r2) := h
 clear h
 by_cases c3 : (Go.bits .and .i64 (Go.bits .xor .i64 a0 (wrap64 (a0 + a1))) (Go.bits .xor .i64 a1 (wrap64 (a0 + a1)))) < 0
 case neg =>
  rw [if_neg c3] at H
  have c3b0 : decide ((Go.bits .and .i64 (Go.bits .xor .i64 a0 (wrap64 (a0 + a1))) (Go.bits .xor .i64 a1 (wrap64 (a0 + a1)))) < 0) = false := decide_eq_false c3
  clear c3
  simp only [Option.some.injEq, Prod.mk.injEq] at H
  obtain ⟨rfl, rfl⟩ := H
  go_enter Try.func55, Try.ntmps55
  go_wp2
  go_ret2
  exact ⟨by first | rfl | (simp; done) | (simp [*]; done), by repeat (first | exact ddR _ | apply ddS)⟩
 rw [if_pos c3] at H
 have c3b0 : decide ((Go.bits .and .i64 (Go.bits .xor .i64 a0 (wrap64 (a0 + a1))) (Go.bits .xor .i64 a1 (wrap64 (a0 + a1)))) < 0) = true := decide_eq_true c3
 clear c3
 simp only [Option.some.injEq, Prod.mk.injEq] at H
 obtain ⟨rfl, rfl⟩ := H
 go_enter Try.func55, Try.ntmps55
 go_wp2
 go_ret2
 exact ⟨by first | rfl | (simp; done) | (simp [*]; done), by repeat (first | exact ddR _ | apply ddS)⟩
def fix_Add.f (a0 a1 : Int) : Option (Int × Int) := if I64 a0 ∧ I64 a1 then some (res (a0 + a1)) else none
theorem fix_Add.of (a0 a1 : Int)  (h_ : I64 a0 ∧ I64 a1) : fix_Add.f a0 a1 = some (res (a0 + a1)) := if_pos h_
theorem fix_Add.calls (a0 : Int) (a1 : Int) (r1 : Int) (r2 : Int) (w : World) (h : fix_Add.f a0 a1 = some (r1, r2)) :
    Calls Try.prog 55 #[.int .i64 a0, .int .i64 a1] w fun e w' => e = .returned (.tuple #[.int .i64 r1, .int .i64 r2]) ∧ Drawn0 w w' := by
  unfold fix_Add.f at h
  split at h
  · rename_i hu
    refine fix_AddP.calls a0 a1 r1 r2 w (Eq.trans ?_ h)
    unfold fix_AddP.f
    have hw := wrap64_i64 (a0 + a1)
    have t := and_neg (xor_i64_i64 a0 (wrap64 (a0 + a1))) (xor_i64_i64 a1 (wrap64 (a0 + a1)))
    rw [xor_neg hu.1 hw, xor_neg hu.2 hw] at t
    obtain ⟨h0, h1⟩ := hu
    by_cases c : I64 (a0 + a1)
    · rw [res_of c, wrap64_of c] at *
      rw [if_neg (by rw [t]; omega)]
    · rw [res_not c]
      unfold I64 at h0 h1 c
      rw [if_pos (by rw [t, wrap64_def]; omega)]
  · cases h


/-! ### vec_total: function 76 -/
set_option maxHeartbeats 2000000 in
set_option maxRecDepth 100000 in
theorem vec_total.calls (K : Nat) (caps : Array Value) (g : Nat → Option (Int × Int)) (n : Nat) (hn : n ≤ 1000000) (w : World) (r1 r2 : Int)
    (hent : ∀ (args : Array Value) (w : World), (callFunc K args).run Try.prog w = .ok (.enter K args) w)
    (H : Tells Try.prog K caps g n w) (h : totalGo fix_Add.f g n 0 0 = some (r1, r2)) :
    Calls Try.prog 76 #[.int .i64 n, .func (.func K) #[] caps] w fun e w' => e = .returned (.tuple #[.int .i64 r1, .int .i64 r2]) ∧ Below w.heap.size w w' := by
 have HH := ZM H
 have HG := ZM h
 clear H h
 go_enter Try.func76, Try.ntmps76
 go_wp2_with fail
 go_loopw [4, 10] (fun s i W => ∃ (k : Nat) (t : Int), i = .int .i64 k ∧ s = .int .i64 t ∧ Aside0 (k ≤ n) ∧ Aside0 (totalGo fix_Add.f g (n - k) k t = some (r1, r2)) ∧ Aside0 (Below w.heap.size w W)) (fun _ i _ => n - (intOf i).toNat)
 case atStart => exact ⟨0, 0, rfl, rfl, ⟨Nat.zero_le _⟩, HG, ⟨Below.refl _ _⟩⟩
 case round =>
  obtain ⟨k, t, rfl, rfl, ⟨hk⟩, ⟨hgo⟩, HB⟩ := hrel
  clear HG
  by_cases hlt : k < n
  · obtain ⟨d, hd⟩ : ∃ d, n - k = d + 1 := ⟨n - k - 1, by omega⟩
    rw [hd, totalGo] at hgo
    obtain ⟨⟨x, e⟩, hgk, hgo⟩ := Option.bind_eq_some_iff.mp hgo
    have HC := ZM (HH.out k wr x e hlt HB.out hgk)
    have HHd := ZM hd
    clear hd hgk
    by_cases he : e = 0
    · subst he
      simp only [if_true] at hgo
      obtain ⟨⟨q, f⟩, hadd, hgo⟩ := Option.bind_eq_some_iff.mp hgo
      have HA := ZM hadd
      clear hadd
      by_cases hf : f = 0
      · subst hf
        simp only [if_true] at hgo
        have HG := ZM hgo
        clear hgo hk
        go_wp2_with (first | (go_at_fn K; refine HC.out.mono ?_; rintro ed W1 ⟨rfl, hb⟩; have HB1 := ZM (below_then HB.out HB.out.size hb); clear hb) | (go_at_call 55; (with_reducible refine (fix_Add.calls t x q 0 _ HA.out).mono ?_); rintro ed W2 ⟨rfl, ⟨nd, rfl⟩⟩))
        exact ⟨⟨k + 1, q, by go_num, rfl, ⟨by omega⟩, ⟨by rw [show n - (k + 1) = d by have := HHd.out; omega]; exact HG.out⟩, ⟨zzN HB1.out _⟩⟩, by simp [intOf]; omega⟩
      · rw [if_neg hf] at hgo
        cases hgo
        have he0 : (f == 0) = false := beq_eq_false_iff_ne.2 hf
        have he1 : (f != 0) = true := bne_iff_ne.2 hf
        clear hf hk
        go_wp2_with (first | (go_at_fn K; refine HC.out.mono ?_; rintro ed W1 ⟨rfl, hb⟩; have HB1 := ZM (below_then HB.out HB.out.size hb); clear hb) | (go_at_call 55; (with_reducible refine (fix_Add.calls t x q f _ HA.out).mono ?_); rintro ed W2 ⟨rfl, ⟨nd, rfl⟩⟩))
        go_ret2
        exact ⟨rfl, zzN HB1.out _⟩
    · rw [if_neg he] at hgo
      cases hgo
      have he0 : (e == 0) = false := beq_eq_false_iff_ne.2 he
      have he1 : (e != 0) = true := bne_iff_ne.2 he
      clear he hk
      go_wp2_with (go_at_fn K; refine HC.out.mono ?_; rintro ed W1 ⟨rfl, hb⟩; have HB1 := ZM (below_then HB.out HB.out.size hb); clear hb)
      go_ret2
      exact ⟨rfl, HB1.out⟩
  · have hkn : n - k = 0 := by omega
    rw [hkn, totalGo] at hgo
    cases hgo
    clear hkn hk
    go_wp2
    go_ret2
    exact ⟨rfl, HB.out⟩
-- NOT PRINTED: function 77 (vec_Dot_1)

/-! ### vec_Dot: function 54 -/
set_option maxHeartbeats 2000000 in
set_option maxRecDepth 100000 in
theorem vec_Dot_1.calls (b1 b2 b3 : Nat) (A0 : Option Addr) (c0 : Nat) (l0 : List Int) (A1 : Option Addr) (c1 : Nat) (l1 : List Int) (a2 : Int) (i : Nat) (W : World) (x e : Int)
    (hb1 : W.cell? ⟨b1, 0, none⟩ = some (.slice A0 l0.length c0)) (hb2 : W.cell? ⟨b2, 0, none⟩ = some (.slice A1 l1.length c1)) (hb3 : W.cell? ⟨b3, 0, none⟩ = some (.int .i64 a2))
    (hr0 : Kd.C (Kd.int .i64) W A0 l0.length l0) (hr1 : Kd.C (Kd.int .i64) W A1 l1.length l1) (h0 : i < l0.length) (h1 : i < l1.length)
    (h : fix_Mul.f (rd l0 i) (rd l1 i) a2 = some (x, e)) :
    Calls Try.prog 77 #[.int .i64 i, .pointer (some ⟨b1, 0, none⟩), .pointer (some ⟨b2, 0, none⟩), .pointer (some ⟨b3, 0, none⟩)] W fun ed W' => ed = .returned (.tuple #[.int .i64 x, .int .i64 e]) ∧ Below W.heap.size W W' := by
 obtain ⟨ad0, rfl, hc0⟩ := Kd.at_int hr0 (i : Int) (by omega) (by omega)
 obtain ⟨ad1, rfl, hc1⟩ := Kd.at_int hr1 (i : Int) (by omega) (by omega)
 simp only [Int.toNat_natCast] at hc0 hc1
 have HC := ZM h
 clear hr0 hr1 h
 go_enter Try.func77, Try.ntmps77
 go_wp2
 go_region_held3 (fun w' => w'.cell? ⟨b1, 0, none⟩ = some (.slice (some ad0) l0.length c0) ∧ w'.cell? ⟨b2, 0, none⟩ = some (.slice (some ad1) l1.length c1) ∧ w'.cell? ⟨b3, 0, none⟩ = some (.int .i64 a2) ∧ w'.cell? (ad0.add i) = some (.int .i64 (rd l0 i)) ∧ w'.cell? (ad1.add i) = some (.int .i64 (rd l1 i)))
  (first | go_keep | (go_split_ands; exact ⟨pw_cell_below hb (by assumption), pw_cell_below hb (by assumption), pw_cell_below hb (by assumption), pw_cell_below hb (by assumption), pw_cell_below hb (by assumption)⟩))
  ((go_at_call 73; (with_reducible refine (fix_Mul.calls (rd l0 i) (rd l1 i) a2 x e _ HC.out).mono ?_); rintro ed W2 ⟨rfl, hb⟩))
 go_wp2
 go_ret2
 exact ⟨rfl, below_then (below_drew (Below.refl _ _)) (Nat.le_refl _) hb⟩
def vec_Dot.f (l0 l1 : List Int) (a2 : Int) : Option (Int × Int) := if V64 l0 ∧ V64 l1 then some (dotV l0 l1 a2) else none
theorem vec_Dot.of (l0 l1 : List Int) (a2 : Int)  (h_ : V64 l0 ∧ V64 l1) : vec_Dot.f l0 l1 a2 = some (dotV l0 l1 a2) := if_pos h_
set_option maxHeartbeats 2000000 in
set_option maxRecDepth 100000 in
theorem vec_Dot.calls (A0 : Option Addr) (c0 : Nat) (l0 : List Int) (A1 : Option Addr) (c1 : Nat) (l1 : List Int) (a2 : Int) (r1 : Int) (r2 : Int) (w : World) (hr0 : Kd.C (Kd.int .i64) w A0 l0.length l0) (hc0 : l0.length ≤ c0) (hr1 : Kd.C (Kd.int .i64) w A1 l1.length l1) (hc1 : l1.length ≤ c1) (h : vec_Dot.f l0 l1 a2 = some (r1, r2)) :
    Calls Try.prog 54 #[.slice A0 l0.length c0, .slice A1 l1.length c1, .int .i64 a2] w fun e w' => e = .returned (.tuple #[.int .i64 r1, .int .i64 r2]) ∧ Below w.heap.size w w' := by
 unfold vec_Dot.f at h
 split at h
 case isFalse => cases h
 rename_i hv
 have h := Option.some.inj h
 unfold dotV at h
 have HR0 := ZM hr0
 have HC0 := ZM hc0
 have HR1 := ZM hr1
 have HC1 := ZM hc1
 clear hr0 hc0 hr1 hc1
 have HV := ZM hv
 clear hv
 try have hu22 := Try.underlying22
 try have hu3 := Try.underlying3
 have HP0 : Aside0 (vec_pair.f l0 l1 = some (pairE l0 l1)) := ⟨rfl⟩
 by_cases hp0 : pairE l0 l1 = 0
 · rw [if_pos hp0] at h
   rw [hp0] at HP0
   have HP1 : Aside0 (vec_behind.f a2 = some (fracE a2)) := ⟨vec_behind.of a2⟩
   by_cases hp1 : fracE a2 = 0
   · rw [if_pos hp1] at h
     rw [hp1] at HP1
     have HL : Aside0 (l0.length = l1.length) := ⟨pairE_len hp0⟩
     have HN : Aside0 (l0.length ≤ 4096) := ⟨pairE_le hp0⟩
     have HH := ZM h
     clear h hp0 hp1
     have HX0 : Aside0 ((((w.alloc (Obj.cells #[Value.slice A0 l0.length c0] 22)).alloc (Obj.cells #[Value.slice A1 l1.length c1] 22)).alloc (Obj.cells #[Value.int .i64 a2] 3)).cell? ⟨w.heap.size, 0, none⟩ = some (.slice A0 l0.length c0)) := ⟨by simp [go_sem]⟩
     have HX1 : Aside0 ((((w.alloc (Obj.cells #[Value.slice A0 l0.length c0] 22)).alloc (Obj.cells #[Value.slice A1 l1.length c1] 22)).alloc (Obj.cells #[Value.int .i64 a2] 3)).cell? ⟨w.heap.size + 1, 0, none⟩ = some (.slice A1 l1.length c1)) := ⟨by simp [go_sem]⟩
     have HX2 : Aside0 ((((w.alloc (Obj.cells #[Value.slice A0 l0.length c0] 22)).alloc (Obj.cells #[Value.slice A1 l1.length c1] 22)).alloc (Obj.cells #[Value.int .i64 a2] 3)).cell? ⟨w.heap.size + 2, 0, none⟩ = some (.int .i64 a2)) := ⟨by simp [go_sem]⟩
     have HB : Aside0 (Below w.heap.size w (((w.alloc (Obj.cells #[Value.slice A0 l0.length c0] 22)).alloc (Obj.cells #[Value.slice A1 l1.length c1] 22)).alloc (Obj.cells #[Value.int .i64 a2] 3))) := ⟨zzA (zzA (zzA (Below.refl _ _) _) _) _⟩
     go_enter Try.func54, Try.ntmps54
     go_wp2_with (first | (go_at_call 75; (with_reducible refine (vec_pair.calls A0 c0 l0 A1 c1 l1 0 _ (Kd.C_below HR0.out HB.out) HC0.out (Kd.C_below HR1.out HB.out) HC1.out HP0.out).mono ?_); rintro ed W1 ⟨rfl, hd⟩; have hb := hd; clear hd; have HB := ZM (below_then HB.out HB.out.size hb); have HX0 := ZM (pw_cell_below hb HX0.out); have HX1 := ZM (pw_cell_below hb HX1.out); have HX2 := ZM (pw_cell_below hb HX2.out); have hx0 := HX0.out; have hx1 := HX1.out; have hx2 := HX2.out; clear hb) | (go_at_call 70; (with_reducible refine (vec_behind.calls a2 0 _ HP1.out).mono ?_); rintro ed W1 ⟨rfl, hd⟩; have hb := hd; clear hd; have HB := ZM (below_then HB.out HB.out.size hb); have HX0 := ZM (pw_cell_below hb HX0.out); have HX1 := ZM (pw_cell_below hb HX1.out); have HX2 := ZM (pw_cell_below hb HX2.out); have hx0 := HX0.out; have hx1 := HX1.out; have hx2 := HX2.out; clear hb) | (go_at_call 76; (with_reducible refine (vec_total.calls 77 _ (fun i : Nat => fix_Mul.f (rd l0 i) (rd l1 i) a2) l0.length (by have := HN.out; omega) _ r1 r2 ?ent ?tells ?go).mono ?_); (case ent => exact enters_of Try.func77 rfl rfl); (case tells => intro i W x e hi hb hg; refine (vec_Dot_1.calls (w.heap.size) (w.heap.size + 1) (w.heap.size + 2) A0 c0 l0 A1 c1 l1 a2 i W x e (pw_cell_below hb HX0.out) (pw_cell_below hb HX1.out) (pw_cell_below hb HX2.out) (Kd.C_below (Kd.C_below HR0.out HB.out) hb) (Kd.C_below (Kd.C_below HR1.out HB.out) hb) (by have := HL.out; omega) (by have := HL.out; omega) hg).mono ?_; rintro ed W' ⟨rfl, hd⟩; exact ⟨rfl, hd⟩); (case go => exact (total_spec (fun a b ha hb => fix_Add.of a b ⟨ha, hb⟩) (zip_i64 (fun x y => mulF_i64 x y a2) l0 l1) (ps := List.zipWith (fun x y => mulF x y a2) l0 l1) (by have := HL.out; rw [List.length_zipWith]; omega) (fun j h => by rw [zip_get _ _ HL.out j h]; exact fix_Mul.of _ _ _ ⟨HV.out.1.rd _, HV.out.2.rd _⟩)).trans (congrArg some HH.out)); rintro ed W2 ⟨rfl, hb⟩; have HB2 := ZM (below_then HB.out HB.out.size hb); clear hb))
     go_ret2
     exact ⟨rfl, HB2.out⟩
   · rw [if_neg hp1] at h
     cases h
     have HX0 : Aside0 ((((w.alloc (Obj.cells #[Value.slice A0 l0.length c0] 22)).alloc (Obj.cells #[Value.slice A1 l1.length c1] 22)).alloc (Obj.cells #[Value.int .i64 a2] 3)).cell? ⟨w.heap.size, 0, none⟩ = some (.slice A0 l0.length c0)) := ⟨by simp [go_sem]⟩
     have HX1 : Aside0 ((((w.alloc (Obj.cells #[Value.slice A0 l0.length c0] 22)).alloc (Obj.cells #[Value.slice A1 l1.length c1] 22)).alloc (Obj.cells #[Value.int .i64 a2] 3)).cell? ⟨w.heap.size + 1, 0, none⟩ = some (.slice A1 l1.length c1)) := ⟨by simp [go_sem]⟩
     have HX2 : Aside0 ((((w.alloc (Obj.cells #[Value.slice A0 l0.length c0] 22)).alloc (Obj.cells #[Value.slice A1 l1.length c1] 22)).alloc (Obj.cells #[Value.int .i64 a2] 3)).cell? ⟨w.heap.size + 2, 0, none⟩ = some (.int .i64 a2)) := ⟨by simp [go_sem]⟩
     have HB : Aside0 (Below w.heap.size w (((w.alloc (Obj.cells #[Value.slice A0 l0.length c0] 22)).alloc (Obj.cells #[Value.slice A1 l1.length c1] 22)).alloc (Obj.cells #[Value.int .i64 a2] 3))) := ⟨zzA (zzA (zzA (Below.refl _ _) _) _) _⟩
     have he0 : (fracE a2 == 0) = false := beq_eq_false_iff_ne.2 hp1
     have he1 : (fracE a2 != 0) = true := bne_iff_ne.2 hp1
     obtain ⟨e_, hE⟩ : ∃ e_ : Int, fracE a2 = e_ := ⟨_, rfl⟩
     rw [hE] at HP1 he0 he1
     simp only [hE]
     clear hE hp1
     go_enter Try.func54, Try.ntmps54
     go_wp2_with (first | (go_at_call 75; (with_reducible refine (vec_pair.calls A0 c0 l0 A1 c1 l1 0 _ (Kd.C_below HR0.out HB.out) HC0.out (Kd.C_below HR1.out HB.out) HC1.out HP0.out).mono ?_); rintro ed W1 ⟨rfl, hd⟩; have hb := hd; clear hd; have HB := ZM (below_then HB.out HB.out.size hb); have HX0 := ZM (pw_cell_below hb HX0.out); have HX1 := ZM (pw_cell_below hb HX1.out); have HX2 := ZM (pw_cell_below hb HX2.out); have hx0 := HX0.out; have hx1 := HX1.out; have hx2 := HX2.out; clear hb) | (go_at_call 70; (with_reducible refine (vec_behind.calls a2 e_ _ HP1.out).mono ?_); rintro ed W1 ⟨rfl, hd⟩; have hb := hd; clear hd; have HB := ZM (below_then HB.out HB.out.size hb); have HX0 := ZM (pw_cell_below hb HX0.out); have HX1 := ZM (pw_cell_below hb HX1.out); have HX2 := ZM (pw_cell_below hb HX2.out); have hx0 := HX0.out; have hx1 := HX1.out; have hx2 := HX2.out; clear hb))
     go_ret2
     exact ⟨rfl, HB.out⟩
 · rw [if_neg hp0] at h
   cases h
   have HX0 : Aside0 ((((w.alloc (Obj.cells #[Value.slice A0 l0.length c0] 22)).alloc (Obj.cells #[Value.slice A1 l1.length c1] 22)).alloc (Obj.cells #[Value.int .i64 a2] 3)).cell? ⟨w.heap.size, 0, none⟩ = some (.slice A0 l0.length c0)) := ⟨by simp [go_sem]⟩
   have HX1 : Aside0 ((((w.alloc (Obj.cells #[Value.slice A0 l0.length c0] 22)).alloc (Obj.cells #[Value.slice A1 l1.length c1] 22)).alloc (Obj.cells #[Value.int .i64 a2] 3)).cell? ⟨w.heap.size + 1, 0, none⟩ = some (.slice A1 l1.length c1)) := ⟨by simp [go_sem]⟩
   have HX2 : Aside0 ((((w.alloc (Obj.cells #[Value.slice A0 l0.length c0] 22)).alloc (Obj.cells #[Value.slice A1 l1.length c1] 22)).alloc (Obj.cells #[Value.int .i64 a2] 3)).cell? ⟨w.heap.size + 2, 0, none⟩ = some (.int .i64 a2)) := ⟨by simp [go_sem]⟩
   have HB : Aside0 (Below w.heap.size w (((w.alloc (Obj.cells #[Value.slice A0 l0.length c0] 22)).alloc (Obj.cells #[Value.slice A1 l1.length c1] 22)).alloc (Obj.cells #[Value.int .i64 a2] 3))) := ⟨zzA (zzA (zzA (Below.refl _ _) _) _) _⟩
   have he0 : (pairE l0 l1 == 0) = false := beq_eq_false_iff_ne.2 hp0
   have he1 : (pairE l0 l1 != 0) = true := bne_iff_ne.2 hp0
   obtain ⟨e_, hE⟩ : ∃ e_ : Int, pairE l0 l1 = e_ := ⟨_, rfl⟩
   rw [hE] at HP0 he0 he1
   simp only [hE]
   clear hE hp0
   go_enter Try.func54, Try.ntmps54
   go_wp2_with (first | (go_at_call 75; (with_reducible refine (vec_pair.calls A0 c0 l0 A1 c1 l1 e_ _ (Kd.C_below HR0.out HB.out) HC0.out (Kd.C_below HR1.out HB.out) HC1.out HP0.out).mono ?_); rintro ed W1 ⟨rfl, hd⟩; have hb := hd; clear hd; have HB := ZM (below_then HB.out HB.out.size hb); have HX0 := ZM (pw_cell_below hb HX0.out); have HX1 := ZM (pw_cell_below hb HX1.out); have HX2 := ZM (pw_cell_below hb HX2.out); have hx0 := HX0.out; have hx1 := HX1.out; have hx2 := HX2.out; clear hb))
   go_ret2
   exact ⟨rfl, HB.out⟩
end Go.Proofs.Ytihgcjagokippaa.HS
