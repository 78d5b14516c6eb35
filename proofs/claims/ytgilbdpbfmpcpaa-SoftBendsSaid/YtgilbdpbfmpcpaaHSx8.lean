/- What Go functions do, each as a plain Lean function with the same answers, and the proof of it, in every world: printed by the session's driver over the kit's print, with texts by hand. -/
import Derived.Test.YtgilbdpbfmpcpaaHSx0
import Derived.Test.YtgilbdpbfmpcpaaHSx1
import Derived.Test.YtgilbdpbfmpcpaaHSx5
import Derived.Test.YtgilbdpbfmpcpaaMini
namespace Go.Proofs.Ytgilbdpbfmpcpaa.HS
open Go.RowKit Go.Proofs.YtgilbdpbfmpcpaaW.PrintWords Go.Proofs.YtgilbdpbfmpcpaaW.PrintLast Go.Proofs.YtgilbdpbfmpcpaaW.PrintMore
attribute [local go_sem] max2_int min2_int max_two min_two max_three min_three max_four min_four   -- for this text's walks alone
open Go.Proofs.Ytgilbdpbfmpcpaa.Sp
attribute [local go_sem] Go.Proofs.Ytgilbdpbfmpcpaa.Sp.u64_not
set_option linter.unusedVariables false
set_option linter.unusedSimpArgs false

/-! ### thrumref14_FewP: function 6 -/
def thrumref14_FewP.l0 : Nat → List Int → List (S26) → List (S26) → Int → Int → Option (Bool)
 | 0, _, _, _, _, _ => none
 | k + 1, x0, x1, x7, x8, x9 => if x9 < x8 then (if 0 ≤ x9 then (if x9 < (x7.length : Int) then (if (((rd_T26 x7 x9).f0).length : Int) > 100 then (some false) else (thrumref14_FewP.l0 k x0 x1 x7 x8 (wrap64 (x9 + 1)))) else (none)) else (none)) else (if (x0.length : Int) ≤ 500 then (some (decide ((x1.length : Int) ≤ 100))) else (some false))
def thrumref14_FewP.f (k : Nat) (l0 : List Int) (l1 : List (S26)) : Option (Bool) := thrumref14_FewP.l0 k l0 l1 l1 (l1.length : Int) 0
theorem thrumref14_FewP.mono_l : ∀ k, (∀ y0 y1 y2 y3 y4, LeO (thrumref14_FewP.l0 k y0 y1 y2 y3 y4) (thrumref14_FewP.l0 (k + 1) y0 y1 y2 y3 y4))
 | 0 => fun _ _ _ _ _ r h => by simp [thrumref14_FewP.l0] at h
 | k + 1 => by
  have ih0 := thrumref14_FewP.mono_l k
  ·
   intro y0 y1 y2 y3 y4
   unfold thrumref14_FewP.l0
   repeat' first
   | (with_reducible exact ih0 _ _ _ _ _)
   | (with_reducible exact LeO.refl _)
   | (with_reducible exact LeO.none _)
   | (with_reducible refine LeO.ite ?_ ?_)
   | (with_reducible refine LeO.bind ?_ (fun _ => ?_))
theorem thrumref14_FewP.mono : ∀ a0 a1 k, LeO (thrumref14_FewP.f k a0 a1) (thrumref14_FewP.f (k + 1) a0 a1) := by
 intro a0 a1 k
 have ih0 := thrumref14_FewP.mono_l k
 unfold thrumref14_FewP.f
 repeat' first
   | (with_reducible exact ih0 _ _ _ _ _)
   | (with_reducible exact LeO.refl _)
   | (with_reducible exact LeO.none _)
   | (with_reducible refine LeO.ite ?_ ?_)
   | (with_reducible refine LeO.bind ?_ (fun _ => ?_))
set_option maxHeartbeats 8000000 in
set_option maxRecDepth 100000 in
theorem thrumref14_FewP.calls (k : Nat) (A0 : Option Addr) (c0 : Nat) (l0 : List Int) (A1 : Option Addr) (c1 : Nat) (l1 : List (S26)) (r : Bool) (w : World) (hr0 : Kd.C (Kd.int .i64) w A0 l0.length l0) (hc0 : l0.length ≤ c0) (hr1 : Kd.C k26 w A1 l1.length l1) (hc1 : l1.length ≤ c1) (h : thrumref14_FewP.f k l0 l1 = some r) :
  Calls Try.prog 6 #[.slice A0 l0.length c0, .slice A1 l1.length c1] w fun e w' => e = .returned (.bool r) ∧ Below w.heap.size w w' := by
 have hu26 := Try.underlying26
 have HR0 := ZM hr0
 have HC0 := ZM hc0
 clear hr0 hc0
 have HR1 := ZM hr1
 have HC1 := ZM hc1
 clear hr1 hc1
 have HB := ZM (Below.refl w.heap.size w)
 have H : (thrumref14_FewP.l0 k l0 l1 l1 (l1.length : Int) 0) = some r := h
 clear h
 have H' := ZM H
 clear H
 go_enter Try.func6, Try.ntmps6
 go_wp2
 go_loopg [9] k (fun kq v9 w' => ∃ (x9_1 : Int), v9 = .int .i64 x9_1 ∧ Aside0 (thrumref14_FewP.l0 kq l0 l1 l1 (l1.length : Int) x9_1 = some r) ∧ Aside0 (kq ≤ k) ∧ Aside0 (Below w.heap.size w w'))
 case atStart => exact ⟨(0), Z4, H', ⟨Nat.le_refl _⟩, ⟨by repeat (first | (with_reducible first | exact HB.out | apply zzA | apply zzN | apply zzD) | exact HB.out)⟩⟩
 case round =>
  clear H'
  try clear c1
  try clear p2
  obtain ⟨x9_1, rfl, HA, HK1, HB⟩ := hrel
  cases gk with
  | zero => exact absurd HA.out (by simp [thrumref14_FewP.l0])
  | succ k1 =>
   have H := HA.out
   clear HA
   simp only [thrumref14_FewP.l0] at H
   by_cases c3 : x9_1 < (l1.length : Int)
   case neg =>
    rw [if_neg c3] at H
    have c3b0 : decide (x9_1 < (l1.length : Int)) = false := decide_eq_false c3
    clear c3
    by_cases c11 : (l0.length : Int) ≤ 500
    case neg =>
     rw [if_neg c11] at H
     have c11b0 : decide ((l0.length : Int) ≤ 500) = false := decide_eq_false c11
     have c11b1 : decide (l0.length ≤ 500) = false := decide_eq_false (by omega)
     clear c11
     obtain rfl := Option.some.inj H
     go_wp2
     go_ret
     exact ⟨by first | rfl | (simp [errW_none, errW_some] <;> rfl) | (simp [*, errW_none, errW_some] <;> rfl), by repeat (first | (with_reducible first | exact HB.out | apply zzA | apply zzN | apply zzD) | exact HB.out)⟩
    rw [if_pos c11] at H
    have c11b0 : decide ((l0.length : Int) ≤ 500) = true := decide_eq_true c11
    have c11b1 : decide (l0.length ≤ 500) = true := decide_eq_true (by omega)
    clear c11
    obtain rfl := Option.some.inj H
    go_wp2
    go_ret
    exact ⟨by first | rfl | (simp [errW_none, errW_some] <;> rfl) | (simp [*, errW_none, errW_some] <;> rfl), by repeat (first | (with_reducible first | exact HB.out | apply zzA | apply zzN | apply zzD) | exact HB.out)⟩
   rw [if_pos c3] at H
   have c3b0 : decide (x9_1 < (l1.length : Int)) = true := decide_eq_true c3
   clear c3
   by_cases c4 : 0 ≤ x9_1
   case neg =>
    rw [if_neg c4] at H
    exact absurd H (by simp)
   rw [if_pos c4] at H
   have c4b0 : decide (0 ≤ x9_1) = true := decide_eq_true c4
   clear c4
   by_cases c5 : x9_1 < (l1.length : Int)
   case neg =>
    rw [if_neg c5] at H
    exact absurd H (by simp)
   rw [if_pos c5] at H
   have c5b0 : decide (x9_1 < (l1.length : Int)) = true := decide_eq_true c5
   clear c5
   by_cases c6 : (((rd_T26 l1 x9_1).f0).length : Int) > 100
   ·
    rw [if_pos c6] at H
    have c6b0 : decide (100 < (((rd_T26 l1 x9_1).f0).length : Int)) = true := decide_eq_true c6
    have c6b1 : decide (100 < ((rd_T26 l1 x9_1).f0).length) = true := decide_eq_true (by omega)
    clear c6
    obtain rfl := Option.some.inj H
    have p253 : 0 ≤ (x9_1 : Int) := of_decide_eq_true Z3
    have q253 : x9_1 < (l1.length : Int) := of_decide_eq_true Z3
    obtain ⟨ad253, A253_0, c253_0, e253, hx253_0, hx253_1, hl253_0, hi253_0⟩ := at_T26 HR1.out x9_1 p253 q253
    cases e253
    replace hx253_0 := (HB.out.cell (World.block_lt_of_cell? w _ hx253_0)).trans hx253_0
    replace hx253_1 := (HB.out.cell (World.block_lt_of_cell? w _ hx253_1)).trans hx253_1
    have HR253_0 := ZM hi253_0
    have HC253_0 := ZM hl253_0
    clear hi253_0 hl253_0
    replace p253 := eq_true p253
    replace q253 := eq_true q253
    go_wp2_with (first | ((with_reducible refine gate_dst (N := 6) rfl ?_); (try (refine gate_guard (by rfl) ?_; dsimp only)); refine box_event ?hg (N := 6) ?hd (cs := #[.slice none 0 0, .int .i64 0]) (t := 26) ?hr ?_; (case hd => rfl); (case hg => rfl); (case hr => exact Z9); intro gb254 hg w7 hbox hb; have BK254 := ZM (hbox); have GW254 := ZM ((by rw [hg]; exact (zzS Z1) : w.heap.size ≤ gb254)); have GE254 := ZM ((by rw [hg]; exact (zzS Z1) : w.heap.size ≤ gb254)); replace HB := ZM (zzT Z1 hb); clear hb hbox hg; obtain ⟨hcz8_0, hcz8_1, hfz8_0, hfz8_1⟩ := Y2f BK254))
    go_ret
    exact ⟨by first | rfl | (simp [errW_none, errW_some] <;> rfl) | (simp [*, errW_none, errW_some] <;> rfl), by repeat (first | (with_reducible first | exact HB.out | apply zzA | apply zzN | apply zzD | refine below_set ?_ GE254.out) | exact HB.out)⟩
   rw [if_neg c6] at H
   have c6b0 : decide (100 < (((rd_T26 l1 x9_1).f0).length : Int)) = false := decide_eq_false c6
   have c6b1 : decide (100 < ((rd_T26 l1 x9_1).f0).length) = false := decide_eq_false (by omega)
   clear c6
   have H' := ZM H
   clear H
   have p253 : 0 ≤ (x9_1 : Int) := of_decide_eq_true Z3
   have q253 : x9_1 < (l1.length : Int) := of_decide_eq_true Z3
   obtain ⟨ad253, A253_0, c253_0, e253, hx253_0, hx253_1, hl253_0, hi253_0⟩ := at_T26 HR1.out x9_1 p253 q253
   cases e253
   replace hx253_0 := (HB.out.cell (World.block_lt_of_cell? w _ hx253_0)).trans hx253_0
   replace hx253_1 := (HB.out.cell (World.block_lt_of_cell? w _ hx253_1)).trans hx253_1
   have HR253_0 := ZM hi253_0
   have HC253_0 := ZM hl253_0
   clear hi253_0 hl253_0
   replace p253 := eq_true p253
   replace q253 := eq_true q253
   go_wp2_with (first | ((with_reducible refine gate_dst (N := 6) rfl ?_); (try (refine gate_guard (by rfl) ?_; dsimp only)); refine box_event ?hg (N := 6) ?hd (cs := #[.slice none 0 0, .int .i64 0]) (t := 26) ?hr ?_; (case hd => rfl); (case hg => rfl); (case hr => exact Z9); intro gb254 hg w9 hbox hb; have BK254 := ZM (hbox); have GW254 := ZM ((by rw [hg]; exact (zzS Z1) : w.heap.size ≤ gb254)); have GE254 := ZM ((by rw [hg]; exact (zzS Z1) : w.heap.size ≤ gb254)); replace HB := ZM (zzT Z1 hb); clear hb hbox hg; obtain ⟨hcz10_0, hcz10_1, hfz10_0, hfz10_1⟩ := Y2f BK254))
   go_roundg k1
   case measure => have := HK1.out; omega
   case rel => exact ⟨(wrap64 (x9_1 + 1)), Z4, H', ⟨by have := HK1.out; omega⟩, ⟨by repeat (first | (with_reducible first | exact HB.out | apply zzA | apply zzN | apply zzD | refine below_set ?_ GE254.out) | exact HB.out)⟩⟩
-- behind linear_Dim.of's words
theorem thrumref14_FewP.loop (x0 : List Int) (x1 : List S26) (hb : x1.length ≤ 9223372036854775807) : ∀ (d i : Nat), d + i = x1.length →
    thrumref14_FewP.l0 (d + 1) x0 x1 x1 (x1.length : Int) (i : Int) = some (decide ((∀ s ∈ x1.drop i, s.f0.length ≤ 100) ∧ x0.length ≤ 500 ∧ x1.length ≤ 100)) := by
  intro d
  induction d with
  | zero =>
    intro i hd
    rw [thrumref14_FewP.l0, if_neg (by omega), List.drop_eq_nil_of_le (by omega)]
    by_cases c : (x0.length : Int) ≤ 500
    · rw [if_pos c]; congr 1; exact decide_eq_decide.2 ⟨fun h => ⟨by simp, by omega, by omega⟩, fun h => by omega⟩
    · rw [if_neg c, decide_eq_false (fun h => c (by omega))]
  | succ d ih =>
    intro i hd
    have hi : i < x1.length := by omega
    rw [thrumref14_FewP.l0, if_pos (by omega), if_pos (by omega), if_pos (by omega), rd_sm hi, List.drop_eq_getElem_cons hi]
    by_cases c : (x1[i].f0.length : Int) > 100
    · rw [if_pos c, decide_eq_false (fun h => by have := h.1 _ (List.mem_cons.2 (.inl rfl)); omega)]
    · rw [if_neg c, wrap64_of (by unfold I64; omega), show (i : Int) + 1 = ((i + 1 : Nat) : Int) by omega, ih (i + 1) (by omega)]
      congr 1
      refine decide_eq_decide.2 ⟨fun h => ⟨fun s hs => by rcases List.mem_cons.1 hs with e | e; (rw [e]; omega); (exact h.1 s e), h.2⟩, fun h => ⟨fun s hs => h.1 s (List.mem_cons.2 (.inr hs)), h.2⟩⟩
def thrumref14_Few.f (l0 : List Int) (l1 : List S26) : Option Bool := some (decide ((∀ s ∈ l1, s.f0.length ≤ 100) ∧ l0.length ≤ 500 ∧ l1.length ≤ 100))
theorem thrumref14_Few.calls (A0 : Option Addr) (c0 : Nat) (l0 : List Int) (A1 : Option Addr) (c1 : Nat) (l1 : List (S26)) (r : Bool) (w : World) (hr0 : Kd.C (Kd.int .i64) w A0 l0.length l0) (hc0 : l0.length ≤ c0) (hr1 : Kd.C k26 w A1 l1.length l1) (hc1 : l1.length ≤ c1) (h : thrumref14_Few.f l0 l1 = some r) :
    Calls Try.prog 6 #[.slice A0 l0.length c0, .slice A1 l1.length c1] w fun e w' => e = .returned (.bool r) ∧ Below w.heap.size w w' := by
  have hm := Kd.C_max hr1
  refine thrumref14_FewP.calls (l1.length + 1) A0 c0 l0 A1 c1 l1 r w hr0 hc0 hr1 hc1 (Eq.trans ?_ h)
  exact thrumref14_FewP.loop l0 l1 hm l1.length 0 (by omega)


/-! ### thrumref15_DimP: function 36 -/
def thrumref15_DimP.f (a0 : Int) (a1 : Int) : Option (Int × Int) := if a0 < 1 then (some (0, 1)) else (if a0 > 16 then (some (0, 1)) else (if a1 < 2 then (some (0, 1)) else (if a1 > 8 then (some (0, 1)) else (some (wrap64 (a1 * (wrap64 (a0 + 1))), 0)))))
set_option maxHeartbeats 8000000 in
set_option maxRecDepth 100000 in
theorem thrumref15_DimP.calls (a0 : Int) (a1 : Int) (r1 : Int) (r2 : Int) (w : World) (h : thrumref15_DimP.f a0 a1 = some (r1, r2)) :
  Calls Try.prog 36 #[.int .i64 a0, .int .i64 a1] w fun e w' => e = .returned (.tuple #[.int .i64 r1, .int .i64 r2]) ∧ Drawn0 w w' := by
 have H : (if a0 < 1 then (some (0, 1)) else (if a0 > 16 then (some (0, 1)) else (if a1 < 2 then (some (0, 1)) else (if a1 > 8 then (some (0, 1)) else (some (wrap64 (a1 * (wrap64 (a0 + 1))), 0)))))) = some (r1, r2) := h
 clear h
 by_cases c3 : a0 < 1
 ·
  rw [if_pos c3] at H
  have c3b0 : decide (a0 < 1) = true := decide_eq_true c3
  clear c3
  simp only [Option.some.injEq, Prod.mk.injEq] at H
  obtain ⟨rfl, rfl⟩ := H
  go_enter Try.func36, Try.ntmps36
  go_wp2
  go_ret2
  exact ⟨by first | rfl | (simp; done) | (simp [*]; done), by repeat (first | exact ddR _ | apply ddS)⟩
 rw [if_neg c3] at H
 have c3b0 : decide (a0 < 1) = false := decide_eq_false c3
 clear c3
 by_cases c4 : a0 > 16
 ·
  rw [if_pos c4] at H
  have c4b0 : decide (16 < a0) = true := decide_eq_true c4
  clear c4
  simp only [Option.some.injEq, Prod.mk.injEq] at H
  obtain ⟨rfl, rfl⟩ := H
  go_enter Try.func36, Try.ntmps36
  go_wp2
  go_ret2
  exact ⟨by first | rfl | (simp; done) | (simp [*]; done), by repeat (first | exact ddR _ | apply ddS)⟩
 rw [if_neg c4] at H
 have c4b0 : decide (16 < a0) = false := decide_eq_false c4
 clear c4
 by_cases c5 : a1 < 2
 ·
  rw [if_pos c5] at H
  have c5b0 : decide (a1 < 2) = true := decide_eq_true c5
  clear c5
  simp only [Option.some.injEq, Prod.mk.injEq] at H
  obtain ⟨rfl, rfl⟩ := H
  go_enter Try.func36, Try.ntmps36
  go_wp2
  go_ret2
  exact ⟨by first | rfl | (simp; done) | (simp [*]; done), by repeat (first | exact ddR _ | apply ddS)⟩
 rw [if_neg c5] at H
 have c5b0 : decide (a1 < 2) = false := decide_eq_false c5
 clear c5
 by_cases c6 : a1 > 8
 case neg =>
  rw [if_neg c6] at H
  have c6b0 : decide (8 < a1) = false := decide_eq_false c6
  clear c6
  simp only [Option.some.injEq, Prod.mk.injEq] at H
  obtain ⟨rfl, rfl⟩ := H
  go_enter Try.func36, Try.ntmps36
  go_wp2
  go_ret2
  exact ⟨by first | rfl | (simp; done) | (simp [*]; done), by repeat (first | exact ddR _ | apply ddS)⟩
 rw [if_pos c6] at H
 have c6b0 : decide (8 < a1) = true := decide_eq_true c6
 clear c6
 simp only [Option.some.injEq, Prod.mk.injEq] at H
 obtain ⟨rfl, rfl⟩ := H
 go_enter Try.func36, Try.ntmps36
 go_wp2
 go_ret2
 exact ⟨by first | rfl | (simp; done) | (simp [*]; done), by repeat (first | exact ddR _ | apply ddS)⟩
def thrumref15_Dim.f (a0 a1 : Int) : Option (Int × Int) := some (dimS a0 a1)
theorem thrumref15_DimP.is (a0 a1 : Int) : thrumref15_DimP.f a0 a1 = some (dimS a0 a1) := by
  unfold thrumref15_DimP.f dimS badOut
  by_cases c1 : a0 < 1
  · rw [if_pos c1, if_pos (show a0 < 1 ∨ a0 > 16 ∨ a1 < 2 ∨ a1 > 8 from .inl c1)]
  · rw [if_neg c1]
    by_cases c2 : a0 > 16
    · rw [if_pos c2, if_pos (show a0 < 1 ∨ a0 > 16 ∨ a1 < 2 ∨ a1 > 8 from .inr (.inl c2))]
    · rw [if_neg c2]
      by_cases c3 : a1 < 2
      · rw [if_pos c3, if_pos (show a0 < 1 ∨ a0 > 16 ∨ a1 < 2 ∨ a1 > 8 from .inr (.inr (.inl c3)))]
      · rw [if_neg c3]
        by_cases c4 : a1 > 8
        · rw [if_pos c4, if_pos (show a0 < 1 ∨ a0 > 16 ∨ a1 < 2 ∨ a1 > 8 from .inr (.inr (.inr c4)))]
        · rw [if_neg c4, if_neg (show ¬ (a0 < 1 ∨ a0 > 16 ∨ a1 < 2 ∨ a1 > 8) by omega)]
          have h1 : 0 ≤ (a0 + 1) * a1 := Int.mul_nonneg (by omega) (by omega)
          have h2 : (a0 + 1) * a1 ≤ 17 * 8 := Int.mul_le_mul (by omega) (by omega) (by omega) (by omega)
          rw [wrap64_of (x := a0 + 1) (by unfold I64; omega), Int.mul_comm a1, wrap64_of (by unfold I64; omega)]
theorem thrumref15_Dim.calls (a0 : Int) (a1 : Int) (r1 : Int) (r2 : Int) (w : World) (h : thrumref15_Dim.f a0 a1 = some (r1, r2)) :
    Calls Try.prog 36 #[.int .i64 a0, .int .i64 a1] w fun e w' => e = .returned (.tuple #[.int .i64 r1, .int .i64 r2]) ∧ Drawn0 w w' := by
  unfold thrumref15_Dim.f at h
  exact thrumref15_DimP.calls a0 a1 r1 r2 w ((thrumref15_DimP.is a0 a1).trans h)


/-! ### thrumref15_CheckP: function 15 -/
mutual
def thrumref15_CheckP.l0 : Nat → Int → Int → List (S26) → List (S26) → Int → Int → Option (Int)
 | 0, _, _, _, _, _, _ => none
 | k + 1, x0, x1, x3, x28, x29, x30 => if x30 < x29 then (if 0 ≤ x30 then (if x30 < (x28.length : Int) then (if (((rd_T26 x28 x30).f0).length : Int) = x0 then (thrumref15_CheckP.l0 k x0 x1 x3 x28 x29 (wrap64 (x30 + 1))) else (some 4)) else (none)) else (none)) else (if (x3.length : Int) = 0 then (thrumref15_CheckP.j1 k x1 x3 true) else (thrumref15_CheckP.j1 k x1 x3 (decide ((x3.length : Int) > 64))))
def thrumref15_CheckP.j1 : Nat → Int → List (S26) → Bool → Option (Int)
 | 0, _, _, _ => none
 | k + 1, x1, x3, x47 => if x47 = true then (some 1) else (thrumref15_CheckP.l1 k x1 x3 (x3.length : Int) 0)
def thrumref15_CheckP.l1 : Nat → Int → List (S26) → Int → Int → Option (Int)
 | 0, _, _, _, _ => none
 | k + 1, x1, x48, x49, x50 => if x50 < x49 then (if 0 ≤ x50 then (if x50 < (x48.length : Int) then (if ((rd_T26 x48 x50).f1) < 0 then (some 1) else (if ((rd_T26 x48 x50).f1) ≥ x1 then (some 1) else (thrumref15_CheckP.l1 k x1 x48 x49 (wrap64 (x50 + 1))))) else (none)) else (none)) else (some 0)
end
def thrumref15_CheckP.f (k : Nat) (a0 : Int) (a1 : Int) (l2 : List Int) (l3 : List (S26)) : Option (Int) := (thrumref15_Dim.f a0 a1).bind fun bt255 => (if bt255.2 = 0 then (if (l2.length : Int) = bt255.1 then (thrumref15_CheckP.l0 k a0 a1 l3 l3 (l3.length : Int) 0) else (some 4)) else (some bt255.2))
theorem thrumref15_CheckP.mono_l : ∀ k, (∀ y0 y1 y2 y3 y4 y5, LeO (thrumref15_CheckP.l0 k y0 y1 y2 y3 y4 y5) (thrumref15_CheckP.l0 (k + 1) y0 y1 y2 y3 y4 y5)) ∧ (∀ y0 y1 y2, LeO (thrumref15_CheckP.j1 k y0 y1 y2) (thrumref15_CheckP.j1 (k + 1) y0 y1 y2)) ∧ (∀ y0 y1 y2 y3, LeO (thrumref15_CheckP.l1 k y0 y1 y2 y3) (thrumref15_CheckP.l1 (k + 1) y0 y1 y2 y3))
 | 0 => ⟨fun _ _ _ _ _ _ r h => by simp [thrumref15_CheckP.l0] at h, fun _ _ _ r h => by simp [thrumref15_CheckP.j1] at h, fun _ _ _ _ r h => by simp [thrumref15_CheckP.l1] at h⟩
 | k + 1 => by
  obtain ⟨ih0, ih1, ih2⟩ := thrumref15_CheckP.mono_l k
  refine ⟨?_, ?_, ?_⟩
  ·
   intro y0 y1 y2 y3 y4 y5
   unfold thrumref15_CheckP.l0
   repeat' first
   | (with_reducible exact ih0 _ _ _ _ _ _)
   | (with_reducible exact ih1 _ _ _)
   | (with_reducible exact ih2 _ _ _ _)
   | (with_reducible exact LeO.refl _)
   | (with_reducible exact LeO.none _)
   | (with_reducible refine LeO.ite ?_ ?_)
   | (with_reducible refine LeO.bind ?_ (fun _ => ?_))
  ·
   intro y0 y1 y2
   unfold thrumref15_CheckP.j1
   repeat' first
   | (with_reducible exact ih0 _ _ _ _ _ _)
   | (with_reducible exact ih1 _ _ _)
   | (with_reducible exact ih2 _ _ _ _)
   | (with_reducible exact LeO.refl _)
   | (with_reducible exact LeO.none _)
   | (with_reducible refine LeO.ite ?_ ?_)
   | (with_reducible refine LeO.bind ?_ (fun _ => ?_))
  ·
   intro y0 y1 y2 y3
   unfold thrumref15_CheckP.l1
   repeat' first
   | (with_reducible exact ih0 _ _ _ _ _ _)
   | (with_reducible exact ih1 _ _ _)
   | (with_reducible exact ih2 _ _ _ _)
   | (with_reducible exact LeO.refl _)
   | (with_reducible exact LeO.none _)
   | (with_reducible refine LeO.ite ?_ ?_)
   | (with_reducible refine LeO.bind ?_ (fun _ => ?_))
theorem thrumref15_CheckP.mono : ∀ a0 a1 a2 a3 k, LeO (thrumref15_CheckP.f k a0 a1 a2 a3) (thrumref15_CheckP.f (k + 1) a0 a1 a2 a3) := by
 intro a0 a1 a2 a3 k
 obtain ⟨ih0, ih1, ih2⟩ := thrumref15_CheckP.mono_l k
 unfold thrumref15_CheckP.f
 repeat' first
   | (with_reducible exact ih0 _ _ _ _ _ _)
   | (with_reducible exact ih1 _ _ _)
   | (with_reducible exact ih2 _ _ _ _)
   | (with_reducible exact LeO.refl _)
   | (with_reducible exact LeO.none _)
   | (with_reducible refine LeO.ite ?_ ?_)
   | (with_reducible refine LeO.bind ?_ (fun _ => ?_))
set_option maxHeartbeats 8000000 in
set_option maxRecDepth 100000 in
theorem thrumref15_CheckP.calls (k : Nat) (a0 : Int) (a1 : Int) (A2 : Option Addr) (c2 : Nat) (l2 : List Int) (A3 : Option Addr) (c3 : Nat) (l3 : List (S26)) (r : Int) (w : World) (hr2 : Kd.C (Kd.int .i64) w A2 l2.length l2) (hc2 : l2.length ≤ c2) (hr3 : Kd.C k26 w A3 l3.length l3) (hc3 : l3.length ≤ c3) (h : thrumref15_CheckP.f k a0 a1 l2 l3 = some r) :
  Calls Try.prog 15 #[.int .i64 a0, .int .i64 a1, .slice A2 l2.length c2, .slice A3 l3.length c3] w fun e w' => e = .returned (.int .i64 r) ∧ Below w.heap.size w w' := by
 have hu26 := Try.underlying26
 have HR2 := ZM hr2
 have HC2 := ZM hc2
 clear hr2 hc2
 have HR3 := ZM hr3
 have HC3 := ZM hc3
 clear hr3 hc3
 have HB := ZM (Below.refl w.heap.size w)
 have H : ((thrumref15_Dim.f a0 a1).bind fun bt255 => (if bt255.2 = 0 then (if (l2.length : Int) = bt255.1 then (thrumref15_CheckP.l0 k a0 a1 l3 l3 (l3.length : Int) 0) else (some 4)) else (some bt255.2))) = some r := h
 clear h
 replace H := Option.bind_eq_some_iff.mp H
 obtain ⟨⟨t255, t256⟩, A50, H⟩ := H
 replace H : (if t256 = 0 then (if (l2.length : Int) = t255 then (thrumref15_CheckP.l0 k a0 a1 l3 l3 (l3.length : Int) 0) else (some 4)) else (some t256)) = some r := H
 have A5 := ZM A50
 clear A50
 by_cases c6 : t256 = 0
 case neg =>
  rw [if_neg c6] at H
  have c6b0 : (t256 == 0) = false := beq_eq_false_iff_ne.mpr c6
  have c6b1 : (t256 != 0) = true := bne_iff_ne.mpr c6
  obtain rfl := Option.some.inj H
  go_enter Try.func15, Try.ntmps15
  go_wp2_with (first | ((with_reducible refine gate_callee (f := 36) rfl ?_); refine goesL_ (some 18) rfl rfl Try.func36 (by kernel_rfl) rfl #[.int .i64 a0, .int .i64 a1] rfl Z2 ?_; (with_reducible refine (thrumref15_Dim.calls a0 a1 t255 t256 _ A5.out).mono ?_); rintro e w' ⟨rfl, ⟨nd, rfl⟩⟩; refine ⟨_, rfl, ?_⟩))
  go_ret
  exact ⟨by first | rfl | (simp [errW_none, errW_some] <;> rfl) | (simp [*, errW_none, errW_some] <;> rfl), by repeat (first | (with_reducible first | exact HB.out | apply zzA | apply zzN | apply zzD) | exact HB.out)⟩
 rw [if_pos c6] at H
 have c6b0 : (t256 == 0) = true := beq_iff_eq.mpr c6
 have c6b1 : (t256 != 0) = false := bne_eq_false_iff_eq.mpr c6
 clear c6
 by_cases c7 : (l2.length : Int) = t255
 case neg =>
  rw [if_neg c7] at H
  have c7b0 : ((l2.length : Int) == t255) = false := beq_eq_false_iff_ne.mpr c7
  have c7b1 : ((l2.length : Int) != t255) = true := bne_iff_ne.mpr c7
  obtain rfl := Option.some.inj H
  go_enter Try.func15, Try.ntmps15
  go_wp2_with (first | ((with_reducible refine gate_callee (f := 36) rfl ?_); refine goesL_ (some 18) rfl rfl Try.func36 (by kernel_rfl) rfl #[.int .i64 a0, .int .i64 a1] rfl Z2 ?_; (with_reducible refine (thrumref15_Dim.calls a0 a1 t255 t256 _ A5.out).mono ?_); rintro e w' ⟨rfl, ⟨nd, rfl⟩⟩; refine ⟨_, rfl, ?_⟩))
  go_ret
  exact ⟨by first | rfl | (simp [errW_none, errW_some] <;> rfl) | (simp [*, errW_none, errW_some] <;> rfl), by repeat (first | (with_reducible first | exact HB.out | apply zzA | apply zzN | apply zzD) | exact HB.out)⟩
 rw [if_pos c7] at H
 have c7b0 : ((l2.length : Int) == t255) = true := beq_iff_eq.mpr c7
 have c7b1 : ((l2.length : Int) != t255) = false := bne_eq_false_iff_eq.mpr c7
 clear c7
 have H' := ZM H
 clear H
 go_enter Try.func15, Try.ntmps15
 go_wp2_with (first | ((with_reducible refine gate_callee (f := 36) rfl ?_); refine goesL_ (some 18) rfl rfl Try.func36 (by kernel_rfl) rfl #[.int .i64 a0, .int .i64 a1] rfl Z2 ?_; (with_reducible refine (thrumref15_Dim.calls a0 a1 t255 t256 _ A5.out).mono ?_); rintro e w' ⟨rfl, ⟨nd, rfl⟩⟩; refine ⟨_, rfl, ?_⟩))
 go_loopg [30] k (fun kq v30 w' => ∃ (x30_1 : Int), v30 = .int .i64 x30_1 ∧ Aside0 (thrumref15_CheckP.l0 kq a0 a1 l3 l3 (l3.length : Int) x30_1 = some r) ∧ Aside0 (kq ≤ k) ∧ Aside0 (Below w.heap.size w w'))
 case atStart => exact ⟨(0), Z4, H', ⟨Nat.le_refl _⟩, ⟨by repeat (first | (with_reducible first | exact HB.out | apply zzA | apply zzN | apply zzD) | exact HB.out)⟩⟩
 case round =>
  clear H'
  try clear c1
  try clear c2
  try clear p2
  try clear c3
  try clear c6
  try clear c6b0
  try clear c6b1
  try clear c7
  try clear c7b0
  try clear c7b1
  obtain ⟨x30_1, rfl, HA, HK1, HB⟩ := hrel
  cases gk with
  | zero => exact absurd HA.out (by simp [thrumref15_CheckP.l0])
  | succ k1 =>
   have H := HA.out
   clear HA
   simp only [thrumref15_CheckP.l0] at H
   by_cases c8 : x30_1 < (l3.length : Int)
   ·
    rw [if_pos c8] at H
    have c8b0 : decide (x30_1 < (l3.length : Int)) = true := decide_eq_true c8
    clear c8
    by_cases c9 : 0 ≤ x30_1
    case neg =>
     rw [if_neg c9] at H
     exact absurd H (by simp)
    rw [if_pos c9] at H
    have c9b0 : decide (0 ≤ x30_1) = true := decide_eq_true c9
    clear c9
    by_cases c10 : x30_1 < (l3.length : Int)
    case neg =>
     rw [if_neg c10] at H
     exact absurd H (by simp)
    rw [if_pos c10] at H
    have c10b0 : decide (x30_1 < (l3.length : Int)) = true := decide_eq_true c10
    clear c10
    by_cases c11 : (((rd_T26 l3 x30_1).f0).length : Int) = a0
    case neg =>
     rw [if_neg c11] at H
     have c11b0 : ((((rd_T26 l3 x30_1).f0).length : Int) == a0) = false := beq_eq_false_iff_ne.mpr c11
     have c11b1 : ((((rd_T26 l3 x30_1).f0).length : Int) != a0) = true := bne_iff_ne.mpr c11
     obtain rfl := Option.some.inj H
     have p257 : 0 ≤ (x30_1 : Int) := of_decide_eq_true Z3
     have q257 : x30_1 < (l3.length : Int) := of_decide_eq_true Z3
     obtain ⟨ad257, A257_0, c257_0, e257, hx257_0, hx257_1, hl257_0, hi257_0⟩ := at_T26 HR3.out x30_1 p257 q257
     cases e257
     replace hx257_0 := (HB.out.cell (World.block_lt_of_cell? w _ hx257_0)).trans hx257_0
     replace hx257_1 := (HB.out.cell (World.block_lt_of_cell? w _ hx257_1)).trans hx257_1
     have HR257_0 := ZM hi257_0
     have HC257_0 := ZM hl257_0
     clear hi257_0 hl257_0
     replace p257 := eq_true p257
     replace q257 := eq_true q257
     go_wp2_with (first | ((with_reducible refine gate_dst (N := 12) rfl ?_); (try (refine gate_guard (by rfl) ?_; dsimp only)); refine box_event ?hg (N := 12) ?hd (cs := #[.slice none 0 0, .int .i64 0]) (t := 26) ?hr ?_; (case hd => rfl); (case hg => rfl); (case hr => exact Z9); intro gb258 hg w14 hbox hb; have BK258 := ZM (hbox); have GW258 := ZM ((by rw [hg]; exact (zzS Z1) : w.heap.size ≤ gb258)); have GE258 := ZM ((by rw [hg]; exact (zzS Z1) : w.heap.size ≤ gb258)); replace HB := ZM (zzT Z1 hb); clear hb hbox hg; obtain ⟨hcz15_0, hcz15_1, hfz15_0, hfz15_1⟩ := Y2f BK258))
     go_ret
     exact ⟨by first | rfl | (simp [errW_none, errW_some] <;> rfl) | (simp [*, errW_none, errW_some] <;> rfl), by repeat (first | (with_reducible first | exact HB.out | apply zzA | apply zzN | apply zzD | refine below_set ?_ GE258.out) | exact HB.out)⟩
    rw [if_pos c11] at H
    have c11b0 : ((((rd_T26 l3 x30_1).f0).length : Int) == a0) = true := beq_iff_eq.mpr c11
    have c11b1 : ((((rd_T26 l3 x30_1).f0).length : Int) != a0) = false := bne_eq_false_iff_eq.mpr c11
    clear c11
    have H' := ZM H
    clear H
    have p257 : 0 ≤ (x30_1 : Int) := of_decide_eq_true Z3
    have q257 : x30_1 < (l3.length : Int) := of_decide_eq_true Z3
    obtain ⟨ad257, A257_0, c257_0, e257, hx257_0, hx257_1, hl257_0, hi257_0⟩ := at_T26 HR3.out x30_1 p257 q257
    cases e257
    replace hx257_0 := (HB.out.cell (World.block_lt_of_cell? w _ hx257_0)).trans hx257_0
    replace hx257_1 := (HB.out.cell (World.block_lt_of_cell? w _ hx257_1)).trans hx257_1
    have HR257_0 := ZM hi257_0
    have HC257_0 := ZM hl257_0
    clear hi257_0 hl257_0
    replace p257 := eq_true p257
    replace q257 := eq_true q257
    go_wp2_with (first | ((with_reducible refine gate_dst (N := 12) rfl ?_); (try (refine gate_guard (by rfl) ?_; dsimp only)); refine box_event ?hg (N := 12) ?hd (cs := #[.slice none 0 0, .int .i64 0]) (t := 26) ?hr ?_; (case hd => rfl); (case hg => rfl); (case hr => exact Z9); intro gb258 hg w12 hbox hb; have BK258 := ZM (hbox); have GW258 := ZM ((by rw [hg]; exact (zzS Z1) : w.heap.size ≤ gb258)); have GE258 := ZM ((by rw [hg]; exact (zzS Z1) : w.heap.size ≤ gb258)); replace HB := ZM (zzT Z1 hb); clear hb hbox hg; obtain ⟨hcz13_0, hcz13_1, hfz13_0, hfz13_1⟩ := Y2f BK258))
    go_roundg k1
    case measure => have := HK1.out; omega
    case rel => exact ⟨(wrap64 (x30_1 + 1)), Z4, H', ⟨by have := HK1.out; omega⟩, ⟨by repeat (first | (with_reducible first | exact HB.out | apply zzA | apply zzN | apply zzD | refine below_set ?_ GE258.out) | exact HB.out)⟩⟩
   rw [if_neg c8] at H
   have c8b0 : decide (x30_1 < (l3.length : Int)) = false := decide_eq_false c8
   clear c8
   have HC16 := ZM H
   clear H
   go_upto_region 12 with (fail)
   go_cut [47] (fun v47 wc => ∃ (kq : Nat) (x47_15 : Bool), v47 = .bool x47_15 ∧ Aside0 (thrumref15_CheckP.j1 kq a1 l3 x47_15 = some r) ∧ Aside0 (kq ≤ k1) ∧ Aside0 (Below w.heap.size w wc))
   case first =>
    have H := HC16.out
    clear HC16
    by_cases c17 : (l3.length : Int) = 0
    case neg =>
     rw [if_neg c17] at H
     have c17b0 : ((l3.length : Int) == 0) = false := beq_eq_false_iff_ne.mpr c17
     have c17b1 : ((l3.length : Int) != 0) = true := bne_iff_ne.mpr c17
     have c17b2 : ¬ (l3 = []) := fun h_ => c17 (by rw [h_]; rfl)
     (first | rw [c17b0] | (simp only [i64_w, i32_w]; rw [c17b0]) | skip)
     have H' := ZM H
     clear H
     go_wp2
     go_meet
     case rel => exact ⟨_, (decide ((l3.length : Int) > 64)), Z4, H', ⟨by have := HK1.out; first | omega | exact Nat.le_refl _⟩, ⟨by repeat (first | (with_reducible first | exact HB.out | apply zzA | apply zzN | apply zzD) | exact HB.out)⟩⟩
    rw [if_pos c17] at H
    have c17b0 : ((l3.length : Int) == 0) = true := beq_iff_eq.mpr c17
    have c17b1 : ((l3.length : Int) != 0) = false := bne_eq_false_iff_eq.mpr c17
    clear c17
    (first | rw [c17b0] | (simp only [i64_w, i32_w]; rw [c17b0]) | skip)
    have H' := ZM H
    clear H
    go_wp2
    go_meet
    case rel => exact ⟨_, (true), Z4, H', ⟨by have := HK1.out; first | omega | exact Nat.le_refl _⟩, ⟨by repeat (first | (with_reducible first | exact HB.out | apply zzA | apply zzN | apply zzD) | exact HB.out)⟩⟩
   clear HC16
   try clear c1
   try clear c2
   try clear p2
   try clear q2
   try clear hx2
   try clear c3
   try clear c6
   try clear c6b0
   try clear c6b1
   try clear p6
   try clear c7
   try clear c7b0
   try clear c7b1
   try clear c8
   try clear c8b0
   try clear c9
   try clear c9b0
   try clear c10
   try clear c10b0
   try clear c11
   try clear c11b0
   try clear c11b1
   try clear c15
   try clear c17
   try clear c17b0
   try clear c17b1
   try clear c17b2
   try clear hcz13_0
   try clear hcz13_1
   try clear hcz15_0
   try clear hcz15_1
   try clear hfz13_0
   try clear hfz13_1
   try clear hfz15_0
   try clear hfz15_1
   try clear hx257_0
   try clear hx257_1
   try clear p2
   try clear p257
   try clear q257
   obtain ⟨kq, x47_15, rfl, HA, HJ15, HB⟩ := hcut
   cases kq with
   | zero => exact absurd HA.out (by simp [thrumref15_CheckP.j1])
   | succ kj15 =>
    have H := HA.out
    clear HA
    simp only [thrumref15_CheckP.j1] at H
    by_cases c18 : x47_15 = true
    ·
     subst c18
     have H1 : (some 1) = some r := by rw [if_pos rfl] at H; exact H
     clear H
     have H := H1
     clear H1
     obtain rfl := Option.some.inj H
     go_wp2
     go_ret
     exact ⟨by first | rfl | (simp [errW_none, errW_some] <;> rfl) | (simp [*, errW_none, errW_some] <;> rfl), by repeat (first | (with_reducible first | exact HB.out | apply zzA | apply zzN | apply zzD) | exact HB.out)⟩
    replace c18 := Bool.eq_false_iff.mpr c18
    subst c18
    have H1 : (thrumref15_CheckP.l1 kj15 a1 l3 (l3.length : Int) 0) = some r := by rw [if_neg (show ¬ (false = true) by decide)] at H; exact H
    clear H
    have H := H1
    clear H1
    have H' := ZM H
    clear H
    go_wp2
    go_loopg [50] kj15 (fun kq v50 w' => ∃ (x50_3 : Int), v50 = .int .i64 x50_3 ∧ Aside0 (thrumref15_CheckP.l1 kq a1 l3 (l3.length : Int) x50_3 = some r) ∧ Aside0 (kq ≤ kj15) ∧ Aside0 (Below w.heap.size w w'))
    case atStart => exact ⟨(0), Z4, H', ⟨Nat.le_refl _⟩, ⟨by repeat (first | (with_reducible first | exact HB.out | apply zzA | apply zzN | apply zzD) | exact HB.out)⟩⟩
    case round =>
     clear H'
     try clear c1
     try clear c2
     try clear p2
     try clear q2
     try clear hx2
     try clear c3
     try clear c6
     try clear c6b0
     try clear c6b1
     try clear p6
     try clear c7
     try clear c7b0
     try clear c7b1
     try clear c8
     try clear c8b0
     try clear c9
     try clear c9b0
     try clear c10
     try clear c10b0
     try clear c11
     try clear c11b0
     try clear c11b1
     try clear c15
     try clear c17
     try clear c17b0
     try clear c17b1
     try clear c17b2
     try clear c18
     try clear hcz13_0
     try clear hcz13_1
     try clear hcz15_0
     try clear hcz15_1
     try clear hfz13_0
     try clear hfz13_1
     try clear hfz15_0
     try clear hfz15_1
     try clear hx257_0
     try clear hx257_1
     try clear p2
     try clear p257
     try clear p6
     try clear q2
     try clear q257
     obtain ⟨x50_3, rfl, HA, HK3, HB⟩ := hrel
     cases gk with
     | zero => exact absurd HA.out (by simp [thrumref15_CheckP.l1])
     | succ k3 =>
      have H := HA.out
      clear HA
      simp only [thrumref15_CheckP.l1] at H
      by_cases c19 : x50_3 < (l3.length : Int)
      case neg =>
       rw [if_neg c19] at H
       have c19b0 : decide (x50_3 < (l3.length : Int)) = false := decide_eq_false c19
       clear c19
       obtain rfl := Option.some.inj H
       go_wp2
       go_ret
       exact ⟨by first | rfl | (simp [errW_none, errW_some] <;> rfl) | (simp [*, errW_none, errW_some] <;> rfl), by repeat (first | (with_reducible first | exact HB.out | apply zzA | apply zzN | apply zzD) | exact HB.out)⟩
      rw [if_pos c19] at H
      have c19b0 : decide (x50_3 < (l3.length : Int)) = true := decide_eq_true c19
      clear c19
      by_cases c20 : 0 ≤ x50_3
      case neg =>
       rw [if_neg c20] at H
       exact absurd H (by simp)
      rw [if_pos c20] at H
      have c20b0 : decide (0 ≤ x50_3) = true := decide_eq_true c20
      clear c20
      by_cases c21 : x50_3 < (l3.length : Int)
      case neg =>
       rw [if_neg c21] at H
       exact absurd H (by simp)
      rw [if_pos c21] at H
      have c21b0 : decide (x50_3 < (l3.length : Int)) = true := decide_eq_true c21
      clear c21
      by_cases c22 : ((rd_T26 l3 x50_3).f1) < 0
      ·
       rw [if_pos c22] at H
       have c22b0 : decide (((rd_T26 l3 x50_3).f1) < 0) = true := decide_eq_true c22
       clear c22
       obtain rfl := Option.some.inj H
       have p259 : 0 ≤ (x50_3 : Int) := of_decide_eq_true Z3
       have q259 : x50_3 < (l3.length : Int) := of_decide_eq_true Z3
       obtain ⟨ad259, A259_0, c259_0, e259, hx259_0, hx259_1, hl259_0, hi259_0⟩ := at_T26 HR3.out x50_3 p259 q259
       cases e259
       replace hx259_0 := (HB.out.cell (World.block_lt_of_cell? w _ hx259_0)).trans hx259_0
       replace hx259_1 := (HB.out.cell (World.block_lt_of_cell? w _ hx259_1)).trans hx259_1
       have HR259_0 := ZM hi259_0
       have HC259_0 := ZM hl259_0
       clear hi259_0 hl259_0
       replace p259 := eq_true p259
       replace q259 := eq_true q259
       go_wp2_with (first | ((with_reducible refine gate_dst (N := 14) rfl ?_); (try (refine gate_guard (by rfl) ?_; dsimp only)); refine box_event ?hg (N := 14) ?hd (cs := #[.slice none 0 0, .int .i64 0]) (t := 26) ?hr ?_; (case hd => rfl); (case hg => rfl); (case hr => exact Z9); intro gb260 hg w23 hbox hb; have BK260 := ZM (hbox); have GW260 := ZM ((by rw [hg]; exact (zzS Z1) : w.heap.size ≤ gb260)); have GE260 := ZM ((by rw [hg]; exact (zzS Z1) : w.heap.size ≤ gb260)); replace HB := ZM (zzT Z1 hb); clear hb hbox hg; obtain ⟨hcz24_0, hcz24_1, hfz24_0, hfz24_1⟩ := Y2f BK260))
       go_ret
       exact ⟨by first | rfl | (simp [errW_none, errW_some] <;> rfl) | (simp [*, errW_none, errW_some] <;> rfl), by repeat (first | (with_reducible first | exact HB.out | apply zzA | apply zzN | apply zzD | refine below_set ?_ GE260.out) | exact HB.out)⟩
      rw [if_neg c22] at H
      have c22b0 : decide (((rd_T26 l3 x50_3).f1) < 0) = false := decide_eq_false c22
      clear c22
      by_cases c25 : ((rd_T26 l3 x50_3).f1) ≥ a1
      ·
       rw [if_pos c25] at H
       have c25b0 : decide (a1 ≤ ((rd_T26 l3 x50_3).f1)) = true := decide_eq_true c25
       clear c25
       obtain rfl := Option.some.inj H
       have p259 : 0 ≤ (x50_3 : Int) := of_decide_eq_true Z3
       have q259 : x50_3 < (l3.length : Int) := of_decide_eq_true Z3
       obtain ⟨ad259, A259_0, c259_0, e259, hx259_0, hx259_1, hl259_0, hi259_0⟩ := at_T26 HR3.out x50_3 p259 q259
       cases e259
       replace hx259_0 := (HB.out.cell (World.block_lt_of_cell? w _ hx259_0)).trans hx259_0
       replace hx259_1 := (HB.out.cell (World.block_lt_of_cell? w _ hx259_1)).trans hx259_1
       have HR259_0 := ZM hi259_0
       have HC259_0 := ZM hl259_0
       clear hi259_0 hl259_0
       replace p259 := eq_true p259
       replace q259 := eq_true q259
       go_wp2_with (first | ((with_reducible refine gate_dst (N := 14) rfl ?_); (try (refine gate_guard (by rfl) ?_; dsimp only)); refine box_event ?hg (N := 14) ?hd (cs := #[.slice none 0 0, .int .i64 0]) (t := 26) ?hr ?_; (case hd => rfl); (case hg => rfl); (case hr => exact Z9); intro gb260 hg w26 hbox hb; have BK260 := ZM (hbox); have GW260 := ZM ((by rw [hg]; exact (zzS Z1) : w.heap.size ≤ gb260)); have GE260 := ZM ((by rw [hg]; exact (zzS Z1) : w.heap.size ≤ gb260)); replace HB := ZM (zzT Z1 hb); clear hb hbox hg; obtain ⟨hcz27_0, hcz27_1, hfz27_0, hfz27_1⟩ := Y2f BK260))
       go_ret
       exact ⟨by first | rfl | (simp [errW_none, errW_some] <;> rfl) | (simp [*, errW_none, errW_some] <;> rfl), by repeat (first | (with_reducible first | exact HB.out | apply zzA | apply zzN | apply zzD | refine below_set ?_ GE260.out) | exact HB.out)⟩
      rw [if_neg c25] at H
      have c25b0 : decide (a1 ≤ ((rd_T26 l3 x50_3).f1)) = false := decide_eq_false c25
      clear c25
      have H' := ZM H
      clear H
      have p259 : 0 ≤ (x50_3 : Int) := of_decide_eq_true Z3
      have q259 : x50_3 < (l3.length : Int) := of_decide_eq_true Z3
      obtain ⟨ad259, A259_0, c259_0, e259, hx259_0, hx259_1, hl259_0, hi259_0⟩ := at_T26 HR3.out x50_3 p259 q259
      cases e259
      replace hx259_0 := (HB.out.cell (World.block_lt_of_cell? w _ hx259_0)).trans hx259_0
      replace hx259_1 := (HB.out.cell (World.block_lt_of_cell? w _ hx259_1)).trans hx259_1
      have HR259_0 := ZM hi259_0
      have HC259_0 := ZM hl259_0
      clear hi259_0 hl259_0
      replace p259 := eq_true p259
      replace q259 := eq_true q259
      go_wp2_with (first | ((with_reducible refine gate_dst (N := 14) rfl ?_); (try (refine gate_guard (by rfl) ?_; dsimp only)); refine box_event ?hg (N := 14) ?hd (cs := #[.slice none 0 0, .int .i64 0]) (t := 26) ?hr ?_; (case hd => rfl); (case hg => rfl); (case hr => exact Z9); intro gb260 hg w28 hbox hb; have BK260 := ZM (hbox); have GW260 := ZM ((by rw [hg]; exact (zzS Z1) : w.heap.size ≤ gb260)); have GE260 := ZM ((by rw [hg]; exact (zzS Z1) : w.heap.size ≤ gb260)); replace HB := ZM (zzT Z1 hb); clear hb hbox hg; obtain ⟨hcz29_0, hcz29_1, hfz29_0, hfz29_1⟩ := Y2f BK260))
      go_roundg k3
      case measure => have := HK1.out; have := HJ15.out; have := HK3.out; omega
      case rel => exact ⟨(wrap64 (x50_3 + 1)), Z4, H', ⟨by have := HK1.out; have := HJ15.out; have := HK3.out; omega⟩, ⟨by repeat (first | (with_reducible first | exact HB.out | apply zzA | apply zzN | apply zzD | refine below_set ?_ GE260.out) | exact HB.out)⟩⟩
def thrumref15_Check.f (a0 a1 : Int) (l2 : List Int) (l3 : List S26) : Option Int := some (checkS a0 a1 l2 (l3.map sm))
theorem thrumref15_CheckP.loop1 (o : Int) (l : List S26) (hb : l.length ≤ 9223372036854775807) : ∀ (d i : Nat), d + i = l.length →
    thrumref15_CheckP.l1 (d + 1) o l (l.length : Int) (i : Int) = some (if ((l.drop i).any fun s => decide (s.f1 < 0 ∨ s.f1 ≥ o)) = true then 1 else 0) := by
  intro d
  induction d with
  | zero =>
    intro i hd
    rw [thrumref15_CheckP.l1, if_neg (by omega), List.drop_eq_nil_of_le (by omega)]
    rfl
  | succ d ih =>
    intro i hd
    have hi : i < l.length := by omega
    rw [thrumref15_CheckP.l1, if_pos (by omega), if_pos (by omega), if_pos (by omega), rd_sm hi, List.drop_eq_getElem_cons hi, List.any_cons]
    by_cases c1 : l[i].f1 < 0
    · rw [if_pos c1, decide_eq_true (.inl c1 : l[i].f1 < 0 ∨ l[i].f1 ≥ o), Bool.true_or, if_pos rfl]
    · by_cases c2 : l[i].f1 ≥ o
      · rw [if_neg c1, if_pos c2, decide_eq_true (.inr c2 : l[i].f1 < 0 ∨ l[i].f1 ≥ o), Bool.true_or, if_pos rfl]
      · rw [if_neg c1, if_neg c2, wrap64_of (by unfold I64; omega), show (i : Int) + 1 = ((i + 1 : Nat) : Int) by omega, ih (i + 1) (by omega), decide_eq_false (show ¬ (l[i].f1 < 0 ∨ l[i].f1 ≥ o) from fun h => h.elim c1 c2), Bool.false_or]
theorem thrumref15_CheckP.loop0 (a o : Int) (l : List S26) (hb : l.length ≤ 9223372036854775807) : ∀ (d i : Nat), d + i = l.length →
    thrumref15_CheckP.l0 (d + 1 + (l.length + 2)) a o l l (l.length : Int) (i : Int) = some (if ((l.drop i).any fun s => (s.f0.length : Int) != a) = true then 4 else if l.length = 0 ∨ l.length > 64 ∨ (l.any fun s => decide (s.f1 < 0 ∨ s.f1 ≥ o)) = true then 1 else 0) := by
  intro d
  induction d with
  | zero =>
    intro i hd
    rw [show 0 + 1 + (l.length + 2) = (l.length + 1 + 1) + 1 by omega, thrumref15_CheckP.l0, if_neg (by omega), List.drop_eq_nil_of_le (by omega), if_neg (show ¬ (([] : List S26).any fun s => (s.f0.length : Int) != a) = true from fun h => by cases h)]
    by_cases c : (l.length : Int) = 0
    · rw [if_pos c, thrumref15_CheckP.j1, if_pos rfl, if_pos (.inl (by omega))]
    · rw [if_neg c, thrumref15_CheckP.j1]
      by_cases c2 : (l.length : Int) > 64
      · rw [if_pos (decide_eq_true c2), if_pos (.inr (.inl (by omega)))]
      · have h1 := thrumref15_CheckP.loop1 o l hb l.length 0 (by omega)
        rw [show ((0 : Nat) : Int) = 0 from rfl, List.drop_zero] at h1
        rw [if_neg (by simpa using c2), h1]
        by_cases c3 : (l.any fun s => decide (s.f1 < 0 ∨ s.f1 ≥ o)) = true
        · rw [if_pos c3, if_pos (.inr (.inr c3))]
        · rw [if_neg c3, if_neg (fun h => h.elim (fun h => c (by omega)) (fun h => h.elim (fun h => c2 (by omega)) c3))]
  | succ d ih =>
    intro i hd
    have hi : i < l.length := by omega
    rw [show d + 1 + 1 + (l.length + 2) = (d + 1 + (l.length + 2)) + 1 by omega, thrumref15_CheckP.l0, if_pos (by omega), if_pos (by omega), if_pos (by omega), rd_sm hi, List.drop_eq_getElem_cons hi, List.any_cons]
    by_cases c : (l[i].f0.length : Int) = a
    · rw [if_pos c, wrap64_of (by unfold I64; omega), show (i : Int) + 1 = ((i + 1 : Nat) : Int) by omega, ih (i + 1) (by omega), show ((l[i].f0.length : Int) != a) = false from bne_eq_false_iff_eq.2 c, Bool.false_or]
    · rw [if_neg c, show ((l[i].f0.length : Int) != a) = true from bne_iff_ne.2 c, Bool.true_or, if_pos rfl]
theorem thrumref15_CheckP.is (a0 a1 : Int) (l2 : List Int) (l3 : List S26) (hb : l3.length ≤ 9223372036854775807) : thrumref15_CheckP.f (l3.length + 1 + (l3.length + 2)) a0 a1 l2 l3 = some (checkS a0 a1 l2 (l3.map sm)) := by
  unfold thrumref15_CheckP.f thrumref15_Dim.f
  rw [Option.bind_some, checkS_any]
  by_cases c : (dimS a0 a1).2 = 0
  · rw [if_pos c, if_neg (not_not_intro c)]
    by_cases c2 : (l2.length : Int) = (dimS a0 a1).1
    · have h0 := thrumref15_CheckP.loop0 a0 a1 l3 hb l3.length 0 (by omega)
      rw [show ((0 : Nat) : Int) = 0 from rfl, List.drop_zero] at h0
      rw [if_pos c2, h0]
      by_cases cA : (l3.any fun s => (s.f0.length : Int) != a0) = true
      · rw [if_pos cA, if_pos (.inr cA)]
      · rw [if_neg cA, if_neg (show ¬ ((l2.length : Int) ≠ (dimS a0 a1).1 ∨ (l3.any fun s => (s.f0.length : Int) != a0) = true) from fun h => h.elim (fun h => h c2) cA)]
    · rw [if_neg c2, if_pos (.inl c2)]
  · rw [if_neg c, if_pos c, dimS_bad c]
theorem thrumref15_Check.calls (a0 : Int) (a1 : Int) (A2 : Option Addr) (c2 : Nat) (l2 : List Int) (A3 : Option Addr) (c3 : Nat) (l3 : List (S26)) (r : Int) (w : World) (hr2 : Kd.C (Kd.int .i64) w A2 l2.length l2) (hc2 : l2.length ≤ c2) (hr3 : Kd.C k26 w A3 l3.length l3) (hc3 : l3.length ≤ c3) (h : thrumref15_Check.f a0 a1 l2 l3 = some r) :
    Calls Try.prog 15 #[.int .i64 a0, .int .i64 a1, .slice A2 l2.length c2, .slice A3 l3.length c3] w fun e w' => e = .returned (.int .i64 r) ∧ Below w.heap.size w w' := by
  unfold thrumref15_Check.f at h
  exact thrumref15_CheckP.calls (l3.length + 1 + (l3.length + 2)) a0 a1 A2 c2 l2 A3 c3 l3 r w hr2 hc2 hr3 hc3 ((thrumref15_CheckP.is a0 a1 l2 l3 (Kd.C_max hr3)).trans h)


end Go.Proofs.Ytgilbdpbfmpcpaa.HS
