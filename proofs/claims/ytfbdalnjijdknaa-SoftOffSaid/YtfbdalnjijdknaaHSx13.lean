/- What Go functions do, each as a plain Lean function with the same answers, and the proof of it, in every world: printed by the session's driver over the kit's print, with texts by hand. -/
import Derived.Test.YtfbdalnjijdknaaHSx0
import Derived.Test.YtfbdalnjijdknaaHSx1
import Derived.Test.YtfbdalnjijdknaaHSx8
import Derived.Test.YtfbdalnjijdknaaHSx9
import Derived.Test.YtfbdalnjijdknaaHSx10
import Derived.Test.YtfbdalnjijdknaaHSx12
namespace Go.Proofs.Ytfbdalnjijdknaa.HS
open Go.RowKit Go.Proofs.YtfbdalnjijdknaaW.PrintWords Go.Proofs.YtfbdalnjijdknaaW.PrintLast Go.Proofs.YtfbdalnjijdknaaW.PrintMore
attribute [local go_sem] max2_int min2_int max_two min_two max_three min_three max_four min_four   -- for this text's walks alone
open Go.Proofs.Ytfbdalnjijdknaa.Sp
attribute [local go_sem] Go.Proofs.Ytfbdalnjijdknaa.Sp.u64_not
set_option linter.unusedVariables false
set_option linter.unusedSimpArgs false

/-! ### soft_Check: function 90 -/
/-- The first one's place of which p is true, counted from k on, or -1. -/
def findFrom {α : Type} (p : α → Bool) : List α → Nat → Int
  | [], _ => -1
  | x :: l, k => if p x = true then (k : Int) else findFrom p l (k + 1)
theorem findFrom_any {α : Type} (p : α → Bool) : ∀ (l : List α) (k : Nat), decide (0 ≤ findFrom p l k) = l.any p
  | [], k => rfl
  | x :: l, k => by
    rw [findFrom, List.any_cons]
    by_cases c : p x = true
    · rw [if_pos c, c, Bool.true_or, decide_eq_true (by omega)]
    · rw [if_neg c, Bool.eq_false_iff.2 c, Bool.false_or]
      exact findFrom_any p l (k + 1)
set_option maxHeartbeats 4000000 in
set_option maxRecDepth 100000 in
theorem slices_IndexFuncS.calls (K : Nat) (caps : Array Value) (p : S26 → Bool) (A2 : Option Addr) (c2 : Nat) (l2 : List S26) (w : World)
    (hent : ∀ (args : Array Value) (w : World), (callFunc K args).run Try.prog w = .ok (.enter K args) w)
    (hr2 : Kd.C k26 w A2 l2.length l2) (hc2 : l2.length ≤ c2)
    (hK : ∀ W (x : S26) A c, Below w.heap.size w W → Kd.C (Kd.int .i64) W A x.f0.length x.f0 → x.f0.length ≤ c →
      Calls Try.prog K (#[.agg #[.slice A x.f0.length c, .int .i64 x.f1]] ++ caps) W fun ed W' => ed = .returned (.bool (p x)) ∧ Below W.heap.size W W') :
    Calls Try.prog 153 #[.slice A2 l2.length c2, .func (.func K) #[] caps] w fun e w' => e = .returned (.int .i64 (findFrom p l2 0)) ∧ Below w.heap.size w w' := by
  have hu := Try.underlying26
  have HR2 := Aside0.mk hr2
  have HC2 := Aside0.mk hc2
  have HK := Aside0.mk hK
  have hmx := Kd.C_max hr2
  have HM := Aside0.mk hmx
  have HB := Aside0.mk (Below.refl w.heap.size w)
  obtain ⟨res, hres⟩ : ∃ r, findFrom p l2 0 = r := ⟨_, rfl⟩
  rw [hres]
  have HG := Aside0.mk hres
  clear hr2 hc2 hK hmx hres
  go_enter Try.func153, Try.ntmps153
  go_wp2_with fail
  go_loopw [8] (fun vi W => ∃ (k : Nat), vi = .int .i64 k ∧ Aside0 (k ≤ l2.length) ∧ Aside0 (findFrom p (l2.drop k) k = res) ∧ Aside0 (Below w.heap.size w W)) (fun i _ => l2.length - (intOf i).toNat)
  case atStart => exact ⟨0, rfl, ⟨Nat.zero_le _⟩, ⟨by rw [List.drop_zero]; exact HG.out⟩, HB⟩
  case round =>
    obtain ⟨k, rfl, ⟨hk⟩, ⟨hgo⟩, HB⟩ := hrel
    clear HG
    by_cases hlt : k < l2.length
    · have hM := HM.out
      obtain ⟨ad, A, c, rfl, hx0, hx1, hl, hi⟩ := at_T26 HR2.out (k : Int) (by omega) (by omega)
      obtain ⟨x, hx⟩ : ∃ x, rd_T26 l2 (k : Int) = x := ⟨_, rfl⟩
      have hmem : l2[k] = x := (rd_sm hlt).symm.trans hx
      rw [hx] at hx0 hx1 hl hi
      simp only [Int.toNat_natCast] at hx0 hx1
      replace hx0 := (HB.out.cell (World.block_lt_of_cell? _ _ hx0)).trans hx0
      replace hx1 := (HB.out.cell (World.block_lt_of_cell? _ _ hx1)).trans hx1
      have HRX := Aside0.mk hi
      have HCX := Aside0.mk hl
      have HLT := Aside0.mk hlt
      rw [List.drop_eq_getElem_cons hlt, hmem, findFrom] at hgo
      clear hl hi hx hmem hk
      by_cases hp : p x = true
      · rw [if_pos hp] at hgo
        subst hgo
        go_wp2_with (go_at_fn K; refine (HK.out _ x A c HB.out (Kd.C_below HRX.out HB.out) HCX.out).mono ?_; rintro ed W3 ⟨rfl, hb3⟩; rw [hp]; have HB3 := Aside0.mk (below_then HB.out HB.out.size hb3); clear hb3)
        go_ret
        exact ⟨rfl, HB3.out⟩
      · rw [if_neg hp] at hgo
        have HG := Aside0.mk hgo
        have hpf : p x = false := Bool.eq_false_iff.2 hp
        clear hgo hp
        go_wp2_with (go_at_fn K; refine (HK.out _ x A c HB.out (Kd.C_below HRX.out HB.out) HCX.out).mono ?_; rintro ed W3 ⟨rfl, hb3⟩; rw [hpf]; have HB3 := Aside0.mk (below_then HB.out HB.out.size hb3); clear hb3)
        exact ⟨⟨k + 1, by first | rfl | (rw [wrap64_of (show I64 ((k : Int) + 1) by unfold I64; omega)]; rfl), ⟨HLT.out⟩, HG, HB3⟩, by have := HLT.out; have := HM.out; (try rw [wrap64_of (show I64 ((k : Int) + 1) by unfold I64; omega)]); simp [intOf]; omega⟩
    · have hkn : k = l2.length := by omega
      subst hkn
      rw [List.drop_length, findFrom] at hgo
      subst hgo
      clear hk
      go_wp2
      go_ret
      exact ⟨rfl, HB.out⟩
set_option maxHeartbeats 4000000 in
set_option maxRecDepth 100000 in
theorem slices_ContainsFuncS.calls (K : Nat) (caps : Array Value) (p : S26 → Bool) (A2 : Option Addr) (c2 : Nat) (l2 : List S26) (w : World)
    (hent : ∀ (args : Array Value) (w : World), (callFunc K args).run Try.prog w = .ok (.enter K args) w)
    (hr2 : Kd.C k26 w A2 l2.length l2) (hc2 : l2.length ≤ c2)
    (hK : ∀ W (x : S26) A c, Below w.heap.size w W → Kd.C (Kd.int .i64) W A x.f0.length x.f0 → x.f0.length ≤ c →
      Calls Try.prog K (#[.agg #[.slice A x.f0.length c, .int .i64 x.f1]] ++ caps) W fun ed W' => ed = .returned (.bool (p x)) ∧ Below W.heap.size W W') :
    Calls Try.prog 111 #[.slice A2 l2.length c2, .func (.func K) #[] caps] w fun e w' => e = .returned (.bool (l2.any p)) ∧ Below w.heap.size w w' := by
  rw [← findFrom_any p l2 0]
  have H := Aside0.mk (slices_IndexFuncS.calls K caps p A2 c2 l2 w hent hr2 hc2 hK)
  clear hr2 hc2 hK
  generalize findFrom p l2 0 = r at H
  go_enter Try.func111, Try.ntmps111
  go_wp2_with (go_at_call 153; (with_reducible refine H.out.mono ?_); rintro ed W3 ⟨rfl, hb3⟩)
  go_ret
  exact ⟨rfl, hb3⟩
set_option maxHeartbeats 4000000 in
set_option maxRecDepth 100000 in
theorem soft_Check_1.calls (b1 : Nat) (A : Option Addr) (c : Nat) (x : List Int) (y n : Int) (W : World) (hb : W.heap[b1]? = some (.cells #[.int .i64 n] 3 (0, 0))) :
    Calls Try.prog 142 (#[.agg #[.slice A x.length c, .int .i64 y]] ++ #[.pointer (some ⟨b1, 0, none⟩)]) W fun ed W' => ed = .returned (.bool ((x.length : Int) != n)) ∧ Below W.heap.size W W' := by
  have hu := Try.underlying26
  have hlt := blk_lt hb
  have hc : W.cell? ⟨b1, 0, none⟩ = some (.int .i64 n) := (blk_cell hb 0).trans rfl
  go_enter Try.func142, Try.ntmps142
  go_wp2
  go_ret
  exact ⟨rfl, zzA (Below.refl _ _) _⟩
set_option maxHeartbeats 4000000 in
set_option maxRecDepth 100000 in
theorem soft_Check_2.calls (b1 : Nat) (A : Option Addr) (c : Nat) (x : List Int) (y n : Int) (W : World) (hb : W.heap[b1]? = some (.cells #[.int .i64 n] 3 (0, 0))) :
    Calls Try.prog 143 (#[.agg #[.slice A x.length c, .int .i64 y]] ++ #[.pointer (some ⟨b1, 0, none⟩)]) W fun ed W' => ed = .returned (.bool (decide (y < 0 ∨ y ≥ n))) ∧ Below W.heap.size W W' := by
  have hu := Try.underlying26
  have hlt := blk_lt hb
  have hc : W.cell? ⟨b1, 0, none⟩ = some (.int .i64 n) := (blk_cell hb 0).trans rfl
  by_cases c1 : y < 0
  · rw [decide_eq_true (.inl c1 : y < 0 ∨ y ≥ n)]
    go_enter Try.func143, Try.ntmps143
    go_wp2
    go_ret
    exact ⟨rfl, zzA (Below.refl _ _) _⟩
  · by_cases c2 : y ≥ n
    · rw [decide_eq_true (.inr c2 : y < 0 ∨ y ≥ n)]
      go_enter Try.func143, Try.ntmps143
      go_wp2
      go_ret
      exact ⟨rfl, zzA (Below.refl _ _) _⟩
    · rw [decide_eq_false (show ¬ (y < 0 ∨ y ≥ n) from fun h => h.elim c1 c2)]
      go_enter Try.func143, Try.ntmps143
      go_wp2
      go_ret
      exact ⟨rfl, zzA (Below.refl _ _) _⟩
def soft_Check.f (a0 a1 : Int) (l2 : List Int) (l3 : List S26) : Option Int := some (checkS a0 a1 l2 (l3.map sm))
theorem dimS_bad {n out : Int} (h : (dimS n out).2 ≠ 0) : (dimS n out).2 = 1 := by
  unfold dimS at h ⊢
  split
  · rfl
  · rename_i c; rw [if_neg c] at h; exact absurd rfl h
theorem checkS_any (a0 a1 : Int) (l2 : List Int) (l3 : List S26) : checkS a0 a1 l2 (l3.map sm) =
    if (dimS a0 a1).2 ≠ 0 then 1 else if (l2.length : Int) ≠ (dimS a0 a1).1 ∨ (l3.any fun s => (s.f0.length : Int) != a0) = true then 4 else
    if l3.length = 0 ∨ l3.length > 64 ∨ (l3.any fun s => decide (s.f1 < 0 ∨ s.f1 ≥ a1)) = true then 1 else 0 := by
  unfold checkS
  have h1 : (¬ ∀ s ∈ l3.map sm, (s.1.length : Int) = a0) ↔ (l3.any fun s => (s.f0.length : Int) != a0) = true := by
    simp [List.any_eq_true, sm]
  have h2 : (¬ ∀ s ∈ l3.map sm, 0 ≤ s.2 ∧ s.2 < a1) ↔ (l3.any fun s => decide (s.f1 < 0 ∨ s.f1 ≥ a1)) = true := by
    simp only [List.any_eq_true, decide_eq_true_eq, List.mem_map, sm]
    constructor
    · intro h
      apply Classical.byContradiction
      intro hn
      refine h ?_
      rintro s ⟨t, ht, rfl⟩
      refine ⟨?_, ?_⟩
      · apply Classical.byContradiction; intro hc; exact hn ⟨t, ht, .inl (by simp only at hc; omega)⟩
      · apply Classical.byContradiction; intro hc; exact hn ⟨t, ht, .inr (by simp only at hc; omega)⟩
    · rintro ⟨t, ht, hc⟩ h
      have := h _ ⟨t, ht, rfl⟩
      simp only at this
      omega
  rw [List.length_map]
  simp only [h1, h2]
theorem soft_Dim.is (a0 a1 : Int) : soft_Dim.f a0 a1 = some (dimS a0 a1) := by
  unfold soft_Dim.f linear_Dim.f soft_classes.f dimS badOut
  by_cases c1 : a0 < 1
  · rw [if_pos c1, if_pos (show a0 < 1 ∨ a0 > 16 ∨ a1 < 2 ∨ a1 > 8 from .inl c1)]; rfl
  · rw [if_neg c1]
    by_cases c2 : a0 > 16
    · rw [if_pos c2, if_pos (show a0 < 1 ∨ a0 > 16 ∨ a1 < 2 ∨ a1 > 8 from .inr (.inl c2))]; rfl
    · rw [if_neg c2]
      rw [Option.bind_some, if_pos rfl]
      by_cases c3 : a1 > 1
      · rw [if_pos c3, Option.bind_some]
        by_cases c4 : a1 ≤ 8
        · rw [if_pos (decide_eq_true c4), if_neg (show ¬ (a0 < 1 ∨ a0 > 16 ∨ a1 < 2 ∨ a1 > 8) by omega)]
          have h1 : 0 ≤ (a0 + 1) * a1 := Int.mul_nonneg (by omega) (by omega)
          have h2 : (a0 + 1) * a1 ≤ 17 * 8 := Int.mul_le_mul (by omega) c4 (by omega) (by omega)
          simp only []
          rw [wrap64_of (x := a0 + 1) (by unfold I64; omega), wrap64_of (by unfold I64; omega)]
        · rw [if_neg (by simpa using c4), if_pos (show a0 < 1 ∨ a0 > 16 ∨ a1 < 2 ∨ a1 > 8 by omega)]
      · rw [if_neg c3, Option.bind_some, if_neg (by decide), if_pos (show a0 < 1 ∨ a0 > 16 ∨ a1 < 2 ∨ a1 > 8 by omega)]
set_option maxHeartbeats 8000000 in
set_option maxRecDepth 100000 in
theorem soft_Check.calls (a0 : Int) (a1 : Int) (A2 : Option Addr) (c2 : Nat) (l2 : List Int) (A3 : Option Addr) (c3 : Nat) (l3 : List (S26)) (r : Int) (w : World) (hr2 : Kd.C (Kd.int .i64) w A2 l2.length l2) (hc2 : l2.length ≤ c2) (hr3 : Kd.C k26 w A3 l3.length l3) (hc3 : l3.length ≤ c3) (h : soft_Check.f a0 a1 l2 l3 = some r) :
    Calls Try.prog 90 #[.int .i64 a0, .int .i64 a1, .slice A2 l2.length c2, .slice A3 l3.length c3] w fun e w' => e = .returned (.int .i64 r) ∧ Below w.heap.size w w' := by
  have hu := Try.underlying22
  have h := Option.some.inj h
  rw [checkS_any] at h
  have A0 := soft_Dim.is a0 a1
  have hd1 := @dimS_bad a0 a1
  generalize dimS a0 a1 = p at A0 h hd1
  obtain ⟨d, e⟩ := p
  simp only [] at h hd1
  have A0 := Aside0.mk A0
  have HR3 := Aside0.mk hr3
  have HC3 := Aside0.mk hc3
  have hB2 : Below w.heap.size w ((w.alloc (.cells #[.int .i64 a0] 3)).alloc (.cells #[.int .i64 a1] 3)) := zzA (zzA (Below.refl _ _) _) _
  have HB := Aside0.mk hB2
  have bI := Aside0.mk (Boxed.alloc (Boxed.new w 3 (.int .i64 a0)) (.cells #[.int .i64 a1] 3))
  have bO := Boxed.new (w.alloc (.cells #[.int .i64 a0] 3)) 3 (.int .i64 a1)
  rw [World.size_alloc] at bO
  have BO := Aside0.mk bO
  clear hr3 hc3 hB2 bO
  have hci := bI.out.cell
  have hco := BO.out.cell
  by_cases he : e = 0
  · rw [if_neg (not_not_intro he)] at h
    subst he
    clear hd1
    obtain ⟨q1, hq1⟩ : ∃ b, (l3.any fun s : S26 => (s.f0.length : Int) != a0) = b := ⟨_, rfl⟩
    obtain ⟨q2, hq2⟩ : ∃ b, (l3.any fun s : S26 => decide (s.f1 < 0 ∨ s.f1 ≥ a1)) = b := ⟨_, rfl⟩
    rw [hq1, hq2] at h
    have Q1 := Aside0.mk hq1
    have Q2 := Aside0.mk hq2
    clear hq1 hq2
    by_cases hl : (l2.length : Int) = d
    · have hl0 : ((l2.length : Int) != d) = false := bne_eq_false_iff_eq.2 hl
      cases q1 with
      | true =>
        rw [if_pos (.inr rfl)] at h
        subst h
        clear hl
        go_enter Try.func90, Try.ntmps90
        go_wp2_with (first | (go_at_call 82; (with_reducible refine (soft_Dim.calls a0 a1 _ _ _ A0.out).mono ?_); rintro ed W1 ⟨rfl, hdr⟩; have HB1 := Aside0.mk (below_then HB.out HB.out.size hdr.below); have bI1 := Aside0.mk (blk_below bI.out hdr.below); have bO1 := Aside0.mk (blk_below BO.out hdr.below); clear hdr) | (go_at_call 111; refine (slices_ContainsFuncS.calls 142 #[.pointer (some ⟨w.heap.size, 0, none⟩)] (fun s => (s.f0.length : Int) != a0) A3 c3 l3 W1 (enters_of Try.func142 (by kernel_rfl) rfl) (Kd.C_below HR3.out HB1.out) HC3.out (fun W x A c hb h0 h1 => soft_Check_1.calls w.heap.size A c x.f0 x.f1 a0 W (blk_below bI1.out hb))).mono ?_; rintro ed W2 ⟨rfl, hb⟩; rw [Q1.out]; have HB2 := Aside0.mk (below_then HB1.out HB1.out.size hb); have bO2 := Aside0.mk (blk_below bO1.out hb); clear hb))
        go_ret
        exact ⟨rfl, HB2.out⟩
      | false =>
        rw [if_neg (show ¬ ((l2.length : Int) ≠ d ∨ false = true) from fun h => h.elim (fun h => h hl) (fun h => by cases h))] at h
        clear hl
        by_cases z : l3.length = 0
        · rw [if_pos (.inl z)] at h
          subst h
          have z0 : ((l3.length : Int) == 0) = true := by rw [z]; rfl
          clear z
          go_enter Try.func90, Try.ntmps90
          go_wp2_with (first | (go_at_call 82; (with_reducible refine (soft_Dim.calls a0 a1 _ _ _ A0.out).mono ?_); rintro ed W1 ⟨rfl, hdr⟩; have HB1 := Aside0.mk (below_then HB.out HB.out.size hdr.below); have bI1 := Aside0.mk (blk_below bI.out hdr.below); have bO1 := Aside0.mk (blk_below BO.out hdr.below); clear hdr) | (go_at_call 111; refine (slices_ContainsFuncS.calls 142 #[.pointer (some ⟨w.heap.size, 0, none⟩)] (fun s => (s.f0.length : Int) != a0) A3 c3 l3 W1 (enters_of Try.func142 (by kernel_rfl) rfl) (Kd.C_below HR3.out HB1.out) HC3.out (fun W x A c hb h0 h1 => soft_Check_1.calls w.heap.size A c x.f0 x.f1 a0 W (blk_below bI1.out hb))).mono ?_; rintro ed W2 ⟨rfl, hb⟩; rw [Q1.out]; have HB2 := Aside0.mk (below_then HB1.out HB1.out.size hb); have bO2 := Aside0.mk (blk_below bO1.out hb); clear hb))
          go_ret
          exact ⟨rfl, HB2.out⟩
        · have z0 : ((l3.length : Int) == 0) = false := beq_eq_false_iff_ne.2 (by omega)
          by_cases z1 : l3.length > 64
          · rw [if_pos (.inr (.inl z1))] at h
            subst h
            have z2 : ((l3.length : Int) > 64) := by omega
            clear z z1
            go_enter Try.func90, Try.ntmps90
            go_wp2_with (first | (go_at_call 82; (with_reducible refine (soft_Dim.calls a0 a1 _ _ _ A0.out).mono ?_); rintro ed W1 ⟨rfl, hdr⟩; have HB1 := Aside0.mk (below_then HB.out HB.out.size hdr.below); have bI1 := Aside0.mk (blk_below bI.out hdr.below); have bO1 := Aside0.mk (blk_below BO.out hdr.below); clear hdr) | (go_at_call 111; refine (slices_ContainsFuncS.calls 142 #[.pointer (some ⟨w.heap.size, 0, none⟩)] (fun s => (s.f0.length : Int) != a0) A3 c3 l3 W1 (enters_of Try.func142 (by kernel_rfl) rfl) (Kd.C_below HR3.out HB1.out) HC3.out (fun W x A c hb h0 h1 => soft_Check_1.calls w.heap.size A c x.f0 x.f1 a0 W (blk_below bI1.out hb))).mono ?_; rintro ed W2 ⟨rfl, hb⟩; rw [Q1.out]; have HB2 := Aside0.mk (below_then HB1.out HB1.out.size hb); have bO2 := Aside0.mk (blk_below bO1.out hb); clear hb))
            go_ret
            exact ⟨rfl, HB2.out⟩
          · have z2 : ¬ ((l3.length : Int) > 64) := by omega
            cases q2 with
            | true =>
              rw [if_pos (.inr (.inr rfl))] at h
              subst h
              clear z z1
              go_enter Try.func90, Try.ntmps90
              go_wp2_with (first | (go_at_call 82; (with_reducible refine (soft_Dim.calls a0 a1 _ _ _ A0.out).mono ?_); rintro ed W1 ⟨rfl, hdr⟩; have HB1 := Aside0.mk (below_then HB.out HB.out.size hdr.below); have bI1 := Aside0.mk (blk_below bI.out hdr.below); have bO1 := Aside0.mk (blk_below BO.out hdr.below); clear hdr) | (go_at_call 111; refine (slices_ContainsFuncS.calls 142 #[.pointer (some ⟨w.heap.size, 0, none⟩)] (fun s => (s.f0.length : Int) != a0) A3 c3 l3 W1 (enters_of Try.func142 (by kernel_rfl) rfl) (Kd.C_below HR3.out HB1.out) HC3.out (fun W x A c hb h0 h1 => soft_Check_1.calls w.heap.size A c x.f0 x.f1 a0 W (blk_below bI1.out hb))).mono ?_; rintro ed W2 ⟨rfl, hb⟩; rw [Q1.out]; have HB2 := Aside0.mk (below_then HB1.out HB1.out.size hb); have bO2 := Aside0.mk (blk_below bO1.out hb); clear hb) | (go_at_call 111; refine (slices_ContainsFuncS.calls 143 #[.pointer (some ⟨w.heap.size + 1, 0, none⟩)] (fun s => decide (s.f1 < 0 ∨ s.f1 ≥ a1)) A3 c3 l3 W2 (enters_of Try.func143 (by kernel_rfl) rfl) (Kd.C_below HR3.out HB2.out) HC3.out (fun W x A c hb h0 h1 => soft_Check_2.calls (w.heap.size + 1) A c x.f0 x.f1 a1 W (blk_below bO2.out hb))).mono ?_; rintro ed W3 ⟨rfl, hb⟩; rw [Q2.out]; have HB3 := Aside0.mk (below_then HB2.out HB2.out.size hb); clear hb))
              go_ret
              exact ⟨rfl, HB3.out⟩
            | false =>
              rw [if_neg (show ¬ (l3.length = 0 ∨ l3.length > 64 ∨ false = true) from fun h => h.elim z (fun h => h.elim z1 (fun h => by cases h)))] at h
              subst h
              clear z z1
              go_enter Try.func90, Try.ntmps90
              go_wp2_with (first | (go_at_call 82; (with_reducible refine (soft_Dim.calls a0 a1 _ _ _ A0.out).mono ?_); rintro ed W1 ⟨rfl, hdr⟩; have HB1 := Aside0.mk (below_then HB.out HB.out.size hdr.below); have bI1 := Aside0.mk (blk_below bI.out hdr.below); have bO1 := Aside0.mk (blk_below BO.out hdr.below); clear hdr) | (go_at_call 111; refine (slices_ContainsFuncS.calls 142 #[.pointer (some ⟨w.heap.size, 0, none⟩)] (fun s => (s.f0.length : Int) != a0) A3 c3 l3 W1 (enters_of Try.func142 (by kernel_rfl) rfl) (Kd.C_below HR3.out HB1.out) HC3.out (fun W x A c hb h0 h1 => soft_Check_1.calls w.heap.size A c x.f0 x.f1 a0 W (blk_below bI1.out hb))).mono ?_; rintro ed W2 ⟨rfl, hb⟩; rw [Q1.out]; have HB2 := Aside0.mk (below_then HB1.out HB1.out.size hb); have bO2 := Aside0.mk (blk_below bO1.out hb); clear hb) | (go_at_call 111; refine (slices_ContainsFuncS.calls 143 #[.pointer (some ⟨w.heap.size + 1, 0, none⟩)] (fun s => decide (s.f1 < 0 ∨ s.f1 ≥ a1)) A3 c3 l3 W2 (enters_of Try.func143 (by kernel_rfl) rfl) (Kd.C_below HR3.out HB2.out) HC3.out (fun W x A c hb h0 h1 => soft_Check_2.calls (w.heap.size + 1) A c x.f0 x.f1 a1 W (blk_below bO2.out hb))).mono ?_; rintro ed W3 ⟨rfl, hb⟩; rw [Q2.out]; have HB3 := Aside0.mk (below_then HB2.out HB2.out.size hb); clear hb))
              go_ret
              exact ⟨rfl, HB3.out⟩
    · rw [if_pos (.inl hl)] at h
      subst h
      have hl0 : ((l2.length : Int) != d) = true := bne_iff_ne.2 hl
      clear hl
      go_enter Try.func90, Try.ntmps90
      go_wp2_with (first | (go_at_call 82; (with_reducible refine (soft_Dim.calls a0 a1 _ _ _ A0.out).mono ?_); rintro ed W1 ⟨rfl, hdr⟩; have HB1 := Aside0.mk (below_then HB.out HB.out.size hdr.below); have bI1 := Aside0.mk (blk_below bI.out hdr.below); have bO1 := Aside0.mk (blk_below BO.out hdr.below); clear hdr))
      go_ret
      exact ⟨rfl, HB1.out⟩
  · rw [if_pos he] at h
    have he1 := hd1 he
    subst he1
    subst h
    clear hd1 he
    go_enter Try.func90, Try.ntmps90
    go_wp2_with (first | (go_at_call 82; (with_reducible refine (soft_Dim.calls a0 a1 _ _ _ A0.out).mono ?_); rintro ed W1 ⟨rfl, hdr⟩; have HB1 := Aside0.mk (below_then HB.out HB.out.size hdr.below); have bI1 := Aside0.mk (blk_below bI.out hdr.below); have bO1 := Aside0.mk (blk_below BO.out hdr.below); clear hdr))
    go_ret
    exact ⟨rfl, HB1.out⟩


/-! ### soft_fitsP: function 144 -/
def soft_fitsP.f (a0 : Int) (l1 : List Int) (l2 : List (S26)) : Option (Int) := (soft_Rows.f a0 l1).bind fun bt182 => (if bt182.2 = 0 then (if 0 < (bt182.1.length : Int) then ((soft_Check.f (wrap64 (((rd_L1 bt182.1 0).length : Int) - 1)) a0 l1 l2).bind fun t187 => (some t187)) else (none)) else (some bt182.2))
set_option maxHeartbeats 8000000 in
set_option maxRecDepth 100000 in
theorem soft_fitsP.calls (a0 : Int) (A1 : Option Addr) (c1 : Nat) (l1 : List Int) (A2 : Option Addr) (c2 : Nat) (l2 : List (S26)) (r : Int) (w : World) (hr1 : Kd.C (Kd.int .i64) w A1 l1.length l1) (hc1 : l1.length ≤ c1) (hr2 : Kd.C k26 w A2 l2.length l2) (hc2 : l2.length ≤ c2) (h : soft_fitsP.f a0 l1 l2 = some r) :
  Calls Try.prog 144 #[.int .i64 a0, .slice A1 l1.length c1, .slice A2 l2.length c2] w fun e w' => e = .returned (.int .i64 r) ∧ Below w.heap.size w w' := by
 have HR1 := Aside0.mk hr1
 have HC1 := Aside0.mk hc1
 clear hr1 hc1
 have HR2 := Aside0.mk hr2
 have HC2 := Aside0.mk hc2
 clear hr2 hc2
 have HB := Aside0.mk (Below.refl w.heap.size w)
 have H : ((soft_Rows.f a0 l1).bind fun bt182 => (if bt182.2 = 0 then (if 0 < (bt182.1.length : Int) then ((soft_Check.f (wrap64 (((rd_L1 bt182.1 0).length : Int) - 1)) a0 l1 l2).bind fun t187 => (some t187)) else (none)) else (some bt182.2))) = some r := h
 clear h
 replace H := Option.bind_eq_some_iff.mp H
 obtain ⟨⟨t182, t183⟩, A40, H⟩ := H
 replace H : (if t183 = 0 then (if 0 < (t182.length : Int) then ((soft_Check.f (wrap64 (((rd_L1 t182 0).length : Int) - 1)) a0 l1 l2).bind fun t187 => (some t187)) else (none)) else (some t183)) = some r := H
 have A4 := Aside0.mk A40
 clear A40
 by_cases c5 : t183 = 0
 ·
  rw [if_pos c5] at H
  have c5b0 : (t183 == 0) = true := beq_iff_eq.mpr c5
  have c5b1 : (t183 != 0) = false := bne_eq_false_iff_eq.mpr c5
  clear c5
  by_cases c6 : 0 < (t182.length : Int)
  ·
   rw [if_pos c6] at H
   have c6b0 : decide (0 < (t182.length : Int)) = true := decide_eq_true c6
   have c6b1 : decide (0 < t182.length) = true := decide_eq_true (by omega)
   clear c6
   replace H := Option.bind_eq_some_iff.mp H
   obtain ⟨t187, A70, H⟩ := H
   replace H : (some t187) = some r := H
   have A7 := Aside0.mk A70
   clear A70
   obtain rfl := Option.some.inj H
   go_enter Try.func144, Try.ntmps144
   go_wp2_with (first | ((with_reducible refine gate_callee (f := 81) rfl ?_); refine goesL_ (some 12) rfl rfl Try.func81 (by kernel_rfl) rfl #[.int .i64 a0, .slice A1 l1.length c1] rfl (by (try simp only [List.map_toArray, List.map_cons, List.map_nil]); first | done | rfl | (simp only [List.length_drop, List.length_take]; rfl)) ?_; (with_reducible refine (soft_Rows.calls a0 _ _ l1 t182 t183 _ ?side1 ?side2 A4.out).mono ?_); (case side1 => repeat (first | exact HR1.out | (with_reducible refine ccA ?_ _) | (with_reducible refine ccN ?_ _) | (with_reducible refine ccD ?_))); (case side2 => exact HC1.out); rintro e w8 ⟨v184, rfl, ho0, hb⟩; refine ⟨_, rfl, ?_⟩; have n0_ := Aside0.mk (Kd.S_lower ho0 (zzS (by repeat (first | (with_reducible first | exact HB.out | apply zzA | apply zzN | apply zzD) | exact HB.out)))); have n1_ := Aside0.mk (zzT (by repeat (first | (with_reducible first | exact HB.out | apply zzA | apply zzN | apply zzD) | exact HB.out)) hb); clear HB; have HO185 := n0_; have HB := n1_; clear n0_ n1_; (try clear hb); (try clear hb2); (try clear hk); (try clear hi); (try clear ho0); obtain ⟨Ao9, co9, eo9⟩ := Kd.S_slice HO185.out; subst eo9; have p186 : 0 ≤ (0 : Int) := (by omega); have q186 : 0 < (t182.length : Int) := of_decide_eq_true (by first | (with_reducible assumption) | assumption); obtain ⟨ad186, A186_0, c186_0, e186, hx186_0, hl186_0, hi186_0⟩ := at_L1 (Kd.S_reads' HO185.out).2.2 0 p186 q186; cases e186; obtain ⟨ce186, hce186, hMe186, hcc186⟩ := Kd.S_get HO185.out [] 0 p186 (by first | exact q186 | exact of_decide_eq_true (by first | (with_reducible assumption) | assumption) | (have e_ := (Kd.S_reads' HO185.out).1; omega)); obtain ⟨ve186_0, rfl, ge186_0⟩ := hMe186; have hv186_0 := hcc186 0 _ rfl; rw [Nat.add_zero, show ((Kd.slice 2 (Kd.int .i64))).sz = 1 from rfl, Nat.mul_one] at hv186_0; replace hv186_0 := Option.some.inj (hv186_0.symm.trans hx186_0); rw [hv186_0] at ge186_0; have HL186_0 := Aside0.mk (show Kd.R (Kd.int .i64) 2 _ _ _ _ (rd_L1 t182 0) from ge186_0); clear hv186_0 ge186_0; clear hcc186 hce186; have qi186 : (0 < t182.length) = True := eq_true (by omega); (try rw [show ((0 : Int)).toNat = 0 from rfl] at hx186_0); (try rw [Addr.add_zero'] at hx186_0); have HR186_0 := Aside0.mk hi186_0; have HC186_0 := Aside0.mk hl186_0; clear hi186_0 hl186_0; replace p186 := eq_true p186; replace q186 := eq_true q186) | ((with_reducible refine gate_callee (f := 90) rfl ?_); refine goesL_ (some 26) rfl rfl Try.func90 (by kernel_rfl) rfl #[.int .i64 (wrap64 (((rd_L1 t182 0).length : Int) - 1)), .int .i64 a0, .slice A1 l1.length c1, .slice A2 l2.length c2] rfl (by (try simp only [List.map_toArray, List.map_cons, List.map_nil]); first | done | rfl | (simp only [List.length_drop, List.length_take]; rfl)) ?_; (with_reducible refine (soft_Check.calls (wrap64 (((rd_L1 t182 0).length : Int) - 1)) a0 _ _ l1 _ _ l2 t187 _ ?side1 ?side2 ?side3 ?side4 A7.out).mono ?_); (case side1 => repeat (first | exact (Kd.C_below HR1.out HB.out) | (with_reducible refine ccA ?_ _) | (with_reducible refine ccN ?_ _) | (with_reducible refine ccD ?_))); (case side2 => exact HC1.out); (case side3 => repeat (first | exact (Kd.C_below HR2.out HB.out) | (with_reducible refine ccA ?_ _) | (with_reducible refine ccN ?_ _) | (with_reducible refine ccD ?_))); (case side4 => exact HC2.out); rintro e w10 ⟨rfl, hb⟩; refine ⟨_, rfl, ?_⟩; have n0_ := Aside0.mk (Kd.S_below (by (with_reducible repeat (first | apply Kd.S_alloc | apply Kd.S_drewN | apply Kd.S_drew)); exact HO185.out) hb); have n1_ := Aside0.mk (Kd.R_below (by (with_reducible repeat (first | apply rrA | apply rrN | apply rrD)); exact HL186_0.out) hb); have n2_ := Aside0.mk (Kd.C_below (by repeat (first | (with_reducible exact HR186_0.out) | (with_reducible refine ccA ?_ _) | (with_reducible refine ccN ?_ _) | (with_reducible refine ccD ?_) | exact HR186_0.out)) hb); have n3_ := Aside0.mk (zzT (by repeat (first | (with_reducible first | exact HB.out | apply zzA | apply zzN | apply zzD) | exact HB.out)) hb); clear HO185; clear HL186_0; clear HR186_0; clear HB; have HO185 := n0_; have HL186_0 := n1_; have HR186_0 := n2_; have HB := n3_; clear n0_ n1_ n2_ n3_; (try clear hb); (try clear hb2); (try clear hk); (try clear hi)))
   go_ret
   exact ⟨by first | rfl | (simp [errW_none, errW_some] <;> rfl) | (simp [*, errW_none, errW_some] <;> rfl), by repeat (first | (with_reducible first | exact HB.out | apply zzA | apply zzN | apply zzD) | exact HB.out)⟩
  ·
   rw [if_neg c6] at H
   exact absurd H (by simp)
 ·
  rw [if_neg c5] at H
  have c5b0 : (t183 == 0) = false := beq_eq_false_iff_ne.mpr c5
  have c5b1 : (t183 != 0) = true := bne_iff_ne.mpr c5
  obtain rfl := Option.some.inj H
  go_enter Try.func144, Try.ntmps144
  go_wp2_with (first | ((with_reducible refine gate_callee (f := 81) rfl ?_); refine goesL_ (some 12) rfl rfl Try.func81 (by kernel_rfl) rfl #[.int .i64 a0, .slice A1 l1.length c1] rfl (by (try simp only [List.map_toArray, List.map_cons, List.map_nil]); first | done | rfl | (simp only [List.length_drop, List.length_take]; rfl)) ?_; (with_reducible refine (soft_Rows.calls a0 _ _ l1 t182 t183 _ ?side1 ?side2 A4.out).mono ?_); (case side1 => repeat (first | exact HR1.out | (with_reducible refine ccA ?_ _) | (with_reducible refine ccN ?_ _) | (with_reducible refine ccD ?_))); (case side2 => exact HC1.out); rintro e w11 ⟨v184, rfl, ho0, hb⟩; refine ⟨_, rfl, ?_⟩; have n0_ := Aside0.mk (Kd.S_lower ho0 (zzS (by repeat (first | (with_reducible first | exact HB.out | apply zzA | apply zzN | apply zzD) | exact HB.out)))); have n1_ := Aside0.mk (zzT (by repeat (first | (with_reducible first | exact HB.out | apply zzA | apply zzN | apply zzD) | exact HB.out)) hb); clear HB; have HO185 := n0_; have HB := n1_; clear n0_ n1_; (try clear hb); (try clear hb2); (try clear hk); (try clear hi); (try clear ho0)))
  go_ret
  exact ⟨by first | rfl | (simp [errW_none, errW_some] <;> rfl) | (simp [*, errW_none, errW_some] <;> rfl), by repeat (first | (with_reducible first | exact HB.out | apply zzA | apply zzN | apply zzD) | exact HB.out)⟩

def soft_fits.f (a0 : Int) (l1 : List Int) (l2 : List S26) : Option Int := some (fitS a0 l1 (l2.map sm))
theorem soft_fitsP.is (a0 : Int) (l1 : List Int) (l2 : List S26) : soft_fitsP.f a0 l1 l2 = some (fitS a0 l1 (l2.map sm)) := by
  unfold soft_fitsP.f fitS soft_Rows.f soft_Check.f
  rw [Option.bind_some]
  by_cases c : (rowsS a0 l1).2 = 0
  · obtain ⟨k, m, rfl, hk2, hk8, hm2, hm17, hmk, hr⟩ := rowsS_good c
    have hlen : (rowsS (k : Int) l1).1.length = k := by rw [hr, chunksS_length]
    rw [if_pos c, if_neg (not_not_intro c), if_pos (by omega)]; rfl
  · rw [if_neg c, if_pos c]
theorem soft_fits.calls (a0 : Int) (A1 : Option Addr) (c1 : Nat) (l1 : List Int) (A2 : Option Addr) (c2 : Nat) (l2 : List (S26)) (r : Int) (w : World) (hr1 : Kd.C (Kd.int .i64) w A1 l1.length l1) (hc1 : l1.length ≤ c1) (hr2 : Kd.C k26 w A2 l2.length l2) (hc2 : l2.length ≤ c2) (h : soft_fits.f a0 l1 l2 = some r) :
    Calls Try.prog 144 #[.int .i64 a0, .slice A1 l1.length c1, .slice A2 l2.length c2] w fun e w' => e = .returned (.int .i64 r) ∧ Below w.heap.size w w' := by
  unfold soft_fits.f at h
  exact soft_fitsP.calls a0 A1 c1 l1 A2 c2 l2 r w hr1 hc1 hr2 hc2 ((soft_fitsP.is a0 l1 l2).trans h)


-- NOT PRINTED: function 135 (vec_Scale_1)

/-! ### vec_Scale: function 75 -/
set_option maxHeartbeats 2000000 in
set_option maxRecDepth 100000 in
theorem vec_Scale_1.calls (b1 b2 b3 : Nat) (A0 : Option Addr) (c0 : Nat) (l0 : List Int) (a1 : Int) (a2 : Int) (i : Nat) (W : World) (x e : Int)
    (hb1 : W.cell? ⟨b1, 0, none⟩ = some (.slice A0 l0.length c0)) (hb2 : W.cell? ⟨b2, 0, none⟩ = some (.int .i64 a1)) (hb3 : W.cell? ⟨b3, 0, none⟩ = some (.int .i64 a2))
    (hr0 : Kd.C (Kd.int .i64) W A0 l0.length l0) (h0 : i < l0.length)
    (h : fix_Mul.f (rd l0 i) a1 a2 = some (x, e)) :
    Calls Try.prog 135 #[.int .i64 i, .pointer (some ⟨b1, 0, none⟩), .pointer (some ⟨b2, 0, none⟩), .pointer (some ⟨b3, 0, none⟩)] W fun ed W' => ed = .returned (.tuple #[.int .i64 x, .int .i64 e]) ∧ Below W.heap.size W W' := by
  obtain ⟨ad0, rfl, hc0⟩ := Kd.at_int hr0 (i : Int) (by omega) (by omega)
  simp only [Int.toNat_natCast] at hc0
  have HC := Aside0.mk h
  clear hr0 h
  go_enter Try.func135, Try.ntmps135
  go_wp2
  go_region_held3 (fun w' => w'.cell? ⟨b1, 0, none⟩ = some (.slice (some ad0) l0.length c0) ∧ w'.cell? ⟨b2, 0, none⟩ = some (.int .i64 a1) ∧ w'.cell? ⟨b3, 0, none⟩ = some (.int .i64 a2) ∧ w'.cell? (ad0.add i) = some (.int .i64 (rd l0 i)))
    (first | go_keep | (go_split_ands; exact ⟨pw_cell_below hb (by assumption), pw_cell_below hb (by assumption), pw_cell_below hb (by assumption), pw_cell_below hb (by assumption)⟩))
    ((go_at_call 131; (with_reducible refine (fix_Mul.calls (rd l0 i) a1 a2 x e _ HC.out).mono ?_); rintro ed W2 ⟨rfl, hb⟩))
  go_wp2
  go_ret2
  exact ⟨rfl, below_then (below_drew (Below.refl _ _)) (Nat.le_refl _) hb⟩
def vec_Scale.f (l0 : List Int) (a1 a2 : Int) : Option (List Int × Int) := if V64 l0 ∧ I64 a1 then some (scaleV l0 a1 a2) else none
theorem vec_Scale.of (l0 : List Int) (a1 a2 : Int)  (h_ : V64 l0 ∧ I64 a1) : vec_Scale.f l0 a1 a2 = some (scaleV l0 a1 a2) := if_pos h_
set_option maxHeartbeats 2000000 in
set_option maxRecDepth 100000 in
theorem vec_Scale.calls (A0 : Option Addr) (c0 : Nat) (l0 : List Int) (a1 : Int) (a2 : Int) (r1 : List Int) (r2 : Int) (w : World) (hr0 : Kd.C (Kd.int .i64) w A0 l0.length l0) (hc0 : l0.length ≤ c0) (h : vec_Scale.f l0 a1 a2 = some (r1, r2)) :
    Calls Try.prog 75 #[.slice A0 l0.length c0, .int .i64 a1, .int .i64 a2] w fun e w' => ∃ v0_ : Value, e = .returned (.tuple #[v0_, .int .i64 r2]) ∧ Kd.R (Kd.int .i64) 2 w' w.heap.size (fun _ => True) v0_ r1 ∧ Below w.heap.size w w' := by
  unfold vec_Scale.f at h
  split at h
  case isFalse => cases h
  rename_i hv
  have h := Option.some.inj h
  unfold scaleV at h
  have HR0 := Aside0.mk hr0
  have HC0 := Aside0.mk hc0
  clear hr0 hc0
  have HV := Aside0.mk hv
  clear hv
  try have hu22 := Try.underlying22
  try have hu2 := Try.underlying2
  try have hu3 := Try.underlying3
  have HP0 : Aside0 (vec_Check.f l0 = some (checkE l0)) := ⟨vec_Check.of l0⟩
  by_cases hp0 : checkE l0 = 0
  · rw [if_pos hp0] at h
    rw [hp0] at HP0
    have HP1 : Aside0 (vec_behind.f a2 = some (fracE a2)) := ⟨vec_behind.of a2⟩
    by_cases hp1 : fracE a2 = 0
    · rw [if_pos hp1] at h
      rw [hp1] at HP1
      have HN : Aside0 (l0.length ≤ 4096) := ⟨checkE_le hp0⟩
      have HH := Aside0.mk h
      clear h hp0 hp1
      have HX0 : Aside0 ((((w.alloc (Obj.cells #[Value.slice A0 l0.length c0] 22)).alloc (Obj.cells #[Value.int .i64 a1] 2)).alloc (Obj.cells #[Value.int .i64 a2] 3)).cell? ⟨w.heap.size, 0, none⟩ = some (.slice A0 l0.length c0)) := ⟨by simp [go_sem]⟩
      have HX1 : Aside0 ((((w.alloc (Obj.cells #[Value.slice A0 l0.length c0] 22)).alloc (Obj.cells #[Value.int .i64 a1] 2)).alloc (Obj.cells #[Value.int .i64 a2] 3)).cell? ⟨w.heap.size + 1, 0, none⟩ = some (.int .i64 a1)) := ⟨by simp [go_sem]⟩
      have HX2 : Aside0 ((((w.alloc (Obj.cells #[Value.slice A0 l0.length c0] 22)).alloc (Obj.cells #[Value.int .i64 a1] 2)).alloc (Obj.cells #[Value.int .i64 a2] 3)).cell? ⟨w.heap.size + 2, 0, none⟩ = some (.int .i64 a2)) := ⟨by simp [go_sem]⟩
      have HB : Aside0 (Below w.heap.size w (((w.alloc (Obj.cells #[Value.slice A0 l0.length c0] 22)).alloc (Obj.cells #[Value.int .i64 a1] 2)).alloc (Obj.cells #[Value.int .i64 a2] 3))) := ⟨zzA (zzA (zzA (Below.refl _ _) _) _) _⟩
      go_enter Try.func75, Try.ntmps75
      go_wp2_with (first | (go_at_call 110; (with_reducible refine (vec_Check.calls A0 c0 l0 0 _ (Kd.C_below HR0.out HB.out) HC0.out HP0.out).mono ?_); rintro ed W1 ⟨rfl, hd⟩; have hb := hd.below; clear hd; have HB := Aside0.mk (below_then HB.out HB.out.size hb); have HX0 := Aside0.mk (pw_cell_below hb HX0.out); have HX1 := Aside0.mk (pw_cell_below hb HX1.out); have HX2 := Aside0.mk (pw_cell_below hb HX2.out); have hx0 := HX0.out; have hx1 := HX1.out; have hx2 := HX2.out; clear hb) | (go_at_call 133; (with_reducible refine (vec_behind.calls a2 0 _ HP1.out).mono ?_); rintro ed W1 ⟨rfl, hd⟩; have hb := hd; clear hd; have HB := Aside0.mk (below_then HB.out HB.out.size hb); have HX0 := Aside0.mk (pw_cell_below hb HX0.out); have HX1 := Aside0.mk (pw_cell_below hb HX1.out); have HX2 := Aside0.mk (pw_cell_below hb HX2.out); have hx0 := HX0.out; have hx1 := HX1.out; have hx2 := HX2.out; clear hb) | (go_at_call 134; (with_reducible refine (vec_each.calls 135 _ (fun i : Nat => fix_Mul.f (rd l0 i) a1 a2) l0.length (by have := HN.out; omega) _ r1 r2 ?ent ?tells ?go).mono ?_); (case ent => exact enters_of Try.func135 rfl rfl); (case tells => intro i W x e hi hb hg; refine (vec_Scale_1.calls (w.heap.size) (w.heap.size + 1) (w.heap.size + 2) A0 c0 l0 a1 a2 i W x e (pw_cell_below hb HX0.out) (pw_cell_below hb HX1.out) (pw_cell_below hb HX2.out) (Kd.C_below (Kd.C_below HR0.out HB.out) hb) (by omega) hg).mono ?_; rintro ed W' ⟨rfl, hd⟩; exact ⟨rfl, hd⟩); (case go => exact (each_spec (ps := l0.map fun x => mulF x a1 a2) (List.length_map _) (fun j h => by rw [map_get _ j h]; exact fix_Mul.of _ _ _ ⟨HV.out.1.rd _, HV.out.2⟩)).trans (congrArg some HH.out)); rintro ed W2 ⟨v_, rfl, hR, hb⟩; have HO := Aside0.mk (Kd.R_lower hR HB.out.size); have HB2 := Aside0.mk (below_then HB.out HB.out.size hb); clear hR hb))
      go_ret2
      exact ⟨_, rfl, HO.out, HB2.out⟩
    · rw [if_neg hp1] at h
      cases h
      have HX0 : Aside0 ((((w.alloc (Obj.cells #[Value.slice A0 l0.length c0] 22)).alloc (Obj.cells #[Value.int .i64 a1] 2)).alloc (Obj.cells #[Value.int .i64 a2] 3)).cell? ⟨w.heap.size, 0, none⟩ = some (.slice A0 l0.length c0)) := ⟨by simp [go_sem]⟩
      have HX1 : Aside0 ((((w.alloc (Obj.cells #[Value.slice A0 l0.length c0] 22)).alloc (Obj.cells #[Value.int .i64 a1] 2)).alloc (Obj.cells #[Value.int .i64 a2] 3)).cell? ⟨w.heap.size + 1, 0, none⟩ = some (.int .i64 a1)) := ⟨by simp [go_sem]⟩
      have HX2 : Aside0 ((((w.alloc (Obj.cells #[Value.slice A0 l0.length c0] 22)).alloc (Obj.cells #[Value.int .i64 a1] 2)).alloc (Obj.cells #[Value.int .i64 a2] 3)).cell? ⟨w.heap.size + 2, 0, none⟩ = some (.int .i64 a2)) := ⟨by simp [go_sem]⟩
      have HB : Aside0 (Below w.heap.size w (((w.alloc (Obj.cells #[Value.slice A0 l0.length c0] 22)).alloc (Obj.cells #[Value.int .i64 a1] 2)).alloc (Obj.cells #[Value.int .i64 a2] 3))) := ⟨zzA (zzA (zzA (Below.refl _ _) _) _) _⟩
      have he0 : (fracE a2 == 0) = false := beq_eq_false_iff_ne.2 hp1
      have he1 : (fracE a2 != 0) = true := bne_iff_ne.2 hp1
      obtain ⟨e_, hE⟩ : ∃ e_ : Int, fracE a2 = e_ := ⟨_, rfl⟩
      rw [hE] at HP1 he0 he1
      simp only [hE]
      clear hE hp1
      go_enter Try.func75, Try.ntmps75
      go_wp2_with (first | (go_at_call 110; (with_reducible refine (vec_Check.calls A0 c0 l0 0 _ (Kd.C_below HR0.out HB.out) HC0.out HP0.out).mono ?_); rintro ed W1 ⟨rfl, hd⟩; have hb := hd.below; clear hd; have HB := Aside0.mk (below_then HB.out HB.out.size hb); have HX0 := Aside0.mk (pw_cell_below hb HX0.out); have HX1 := Aside0.mk (pw_cell_below hb HX1.out); have HX2 := Aside0.mk (pw_cell_below hb HX2.out); have hx0 := HX0.out; have hx1 := HX1.out; have hx2 := HX2.out; clear hb) | (go_at_call 133; (with_reducible refine (vec_behind.calls a2 e_ _ HP1.out).mono ?_); rintro ed W1 ⟨rfl, hd⟩; have hb := hd; clear hd; have HB := Aside0.mk (below_then HB.out HB.out.size hb); have HX0 := Aside0.mk (pw_cell_below hb HX0.out); have HX1 := Aside0.mk (pw_cell_below hb HX1.out); have HX2 := Aside0.mk (pw_cell_below hb HX2.out); have hx0 := HX0.out; have hx1 := HX1.out; have hx2 := HX2.out; clear hb))
      go_ret2
      exact ⟨_, rfl, Kd.R_nil _ _ _ _ _, HB.out⟩
  · rw [if_neg hp0] at h
    cases h
    have HX0 : Aside0 ((((w.alloc (Obj.cells #[Value.slice A0 l0.length c0] 22)).alloc (Obj.cells #[Value.int .i64 a1] 2)).alloc (Obj.cells #[Value.int .i64 a2] 3)).cell? ⟨w.heap.size, 0, none⟩ = some (.slice A0 l0.length c0)) := ⟨by simp [go_sem]⟩
    have HX1 : Aside0 ((((w.alloc (Obj.cells #[Value.slice A0 l0.length c0] 22)).alloc (Obj.cells #[Value.int .i64 a1] 2)).alloc (Obj.cells #[Value.int .i64 a2] 3)).cell? ⟨w.heap.size + 1, 0, none⟩ = some (.int .i64 a1)) := ⟨by simp [go_sem]⟩
    have HX2 : Aside0 ((((w.alloc (Obj.cells #[Value.slice A0 l0.length c0] 22)).alloc (Obj.cells #[Value.int .i64 a1] 2)).alloc (Obj.cells #[Value.int .i64 a2] 3)).cell? ⟨w.heap.size + 2, 0, none⟩ = some (.int .i64 a2)) := ⟨by simp [go_sem]⟩
    have HB : Aside0 (Below w.heap.size w (((w.alloc (Obj.cells #[Value.slice A0 l0.length c0] 22)).alloc (Obj.cells #[Value.int .i64 a1] 2)).alloc (Obj.cells #[Value.int .i64 a2] 3))) := ⟨zzA (zzA (zzA (Below.refl _ _) _) _) _⟩
    have he0 : (checkE l0 == 0) = false := beq_eq_false_iff_ne.2 hp0
    have he1 : (checkE l0 != 0) = true := bne_iff_ne.2 hp0
    obtain ⟨e_, hE⟩ : ∃ e_ : Int, checkE l0 = e_ := ⟨_, rfl⟩
    rw [hE] at HP0 he0 he1
    simp only [hE]
    clear hE hp0
    go_enter Try.func75, Try.ntmps75
    go_wp2_with (first | (go_at_call 110; (with_reducible refine (vec_Check.calls A0 c0 l0 e_ _ (Kd.C_below HR0.out HB.out) HC0.out HP0.out).mono ?_); rintro ed W1 ⟨rfl, hd⟩; have hb := hd.below; clear hd; have HB := Aside0.mk (below_then HB.out HB.out.size hb); have HX0 := Aside0.mk (pw_cell_below hb HX0.out); have HX1 := Aside0.mk (pw_cell_below hb HX1.out); have HX2 := Aside0.mk (pw_cell_below hb HX2.out); have hx0 := HX0.out; have hx1 := HX1.out; have hx2 := HX2.out; clear hb))
    go_ret2
    exact ⟨_, rfl, Kd.R_nil _ _ _ _ _, HB.out⟩


end Go.Proofs.Ytfbdalnjijdknaa.HS
