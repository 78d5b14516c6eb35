/- What Go functions do, each as a plain Lean function with the same answers, and the proof of it, in every world: printed by the session's driver over the kit's print, with texts by hand. -/
import Derived.Test.YtllicjinmlkcfaaHCx0
namespace Go.Proofs.Ytllicjinmlkcfaa.HC
open Go.RowKit Go.Proofs.YtllicjinmlkcfaaW.PrintWords Go.Proofs.YtllicjinmlkcfaaW.PrintLast Go.Proofs.YtllicjinmlkcfaaW.PrintMore
attribute [local go_sem] max2_int min2_int max_two min_two max_three min_three max_four min_four   -- for this text's walks alone
open Go.Proofs.Ytllicjinmlkcfaa.Sp
attribute [local go_sem] Go.Proofs.Ytllicjinmlkcfaa.Sp.u64_not
set_option linter.unusedVariables false
set_option linter.unusedSimpArgs false

/-! ### sign_fit: function 122 -/
def sign_fit.l0 : Nat → List (List Bool) → Int → List (List Bool) → Int → Int → Option (Int)
  | 0, _, _, _, _, _ => none
  | k + 1, x0, x2, x5, x6, x7 => if x7 < x6 then (if 0 ≤ x7 then (if x7 < (x5.length : Int) then (if ((rd_L3 x5 x7).length : Int) > 4096 then (some 3) else (if 0 < (x0.length : Int) then (if ((rd_L3 x5 x7).length : Int) = ((rd_L3 x0 0).length : Int) then (sign_fit.l0 k x0 x2 x5 x6 (wrap64 (x7 + 1))) else (sign_fit.l0 k x0 4 x5 x6 (wrap64 (x7 + 1)))) else (none))) else (none)) else (none)) else (some x2)
def sign_fit.f (k : Nat) (l0 : List (List Bool)) : Option (Int) := sign_fit.l0 k l0 0 l0 (l0.length : Int) 0
theorem sign_fit.mono_l : ∀ k, (∀ y0 y1 y2 y3 y4, LeO (sign_fit.l0 k y0 y1 y2 y3 y4) (sign_fit.l0 (k + 1) y0 y1 y2 y3 y4))
  | 0 => fun _ _ _ _ _ r h => by simp [sign_fit.l0] at h
  | k + 1 => by
    have ih0 := sign_fit.mono_l k
    · intro y0 y1 y2 y3 y4
      unfold sign_fit.l0
      repeat' first
      | (with_reducible exact ih0 _ _ _ _ _)
      | (with_reducible exact LeO.refl _)
      | (with_reducible exact LeO.none _)
      | (with_reducible refine LeO.ite ?_ ?_)
      | (with_reducible refine LeO.bind ?_ (fun _ => ?_))
      | exact ih0 _ _ _ _ _
      | exact LeO.none _
      | refine LeO.ite ?_ ?_
      | refine LeO.bind ?_ (fun _ => ?_)
theorem sign_fit.mono : ∀ a0 k, LeO (sign_fit.f k a0) (sign_fit.f (k + 1) a0) := by
  intro a0 k
  have ih0 := sign_fit.mono_l k
  unfold sign_fit.f
  repeat' first
      | (with_reducible exact ih0 _ _ _ _ _)
      | (with_reducible exact LeO.refl _)
      | (with_reducible exact LeO.none _)
      | (with_reducible refine LeO.ite ?_ ?_)
      | (with_reducible refine LeO.bind ?_ (fun _ => ?_))
      | exact ih0 _ _ _ _ _
      | exact LeO.none _
      | refine LeO.ite ?_ ?_
      | refine LeO.bind ?_ (fun _ => ?_)
set_option maxHeartbeats 8000000 in
set_option maxRecDepth 100000 in
theorem sign_fit.calls (k : Nat) (A0 : Option Addr) (c0 : Nat) (l0 : List (List Bool)) (r : Int) (w : World) (hr0 : Kd.C (Kd.slice 4 Kd.bool) w A0 l0.length l0) (hc0 : l0.length ≤ c0) (h : sign_fit.f k l0 = some r) :
    Calls Try.prog 122 #[.slice A0 l0.length c0] w fun e w' => e = .returned (.int .i64 r) ∧ Drawn0 w w' := by
  have HR0 := Aside0.mk hr0
  have HC0 := Aside0.mk hc0
  clear hr0 hc0
  have H : (sign_fit.l0 k l0 0 l0 (l0.length : Int) 0) = some r := h
  clear h
  have H' := Aside0.mk H
  clear H
  go_enter Try.func122, Try.ntmps122
  go_wp2
  go_loopg [2, 7] k (fun kq v2 v7 w' => ∃ (x2_1 : Int) (x7_1 : Int), v2 = .int .i64 x2_1 ∧ v7 = .int .i64 x7_1 ∧ Aside0 (sign_fit.l0 kq l0 x2_1 l0 (l0.length : Int) x7_1 = some r) ∧ Aside0 (kq ≤ k) ∧ Drawn0 w w')
  case atStart => exact ⟨(0), (0), (by first | rfl | (simp; done) | (simp [*]; done)), (by first | rfl | (simp; done) | (simp [*]; done)), H', ⟨Nat.le_refl _⟩, by repeat (first | exact Drawn0.refl _ | apply Drawn0.step)⟩
  case round =>
    clear H'
    try clear c1
    obtain ⟨x2_1, x7_1, rfl, rfl, HA, HK1, ⟨m1, rfl⟩⟩ := hrel
    cases gk with
    | zero => exact absurd HA.out (by simp [sign_fit.l0])
    | succ k1 =>
      have H := HA.out
      clear HA
      simp only [sign_fit.l0] at H
      by_cases c2 : x7_1 < (l0.length : Int)
      · rw [if_pos c2] at H
        have c2b0 : decide (x7_1 < (l0.length : Int)) = true := decide_eq_true c2
        clear c2
        by_cases c3 : 0 ≤ x7_1
        · rw [if_pos c3] at H
          have c3b0 : decide (0 ≤ x7_1) = true := decide_eq_true c3
          clear c3
          by_cases c4 : x7_1 < (l0.length : Int)
          · rw [if_pos c4] at H
            have c4b0 : decide (x7_1 < (l0.length : Int)) = true := decide_eq_true c4
            clear c4
            by_cases c5 : ((rd_L3 l0 x7_1).length : Int) > 4096
            · rw [if_pos c5] at H
              have c5b0 : decide (4096 < ((rd_L3 l0 x7_1).length : Int)) = true := decide_eq_true c5
              have c5b1 : decide (4096 < (rd_L3 l0 x7_1).length) = true := decide_eq_true (by omega)
              clear c5
              obtain rfl := Option.some.inj H
              have p468 : 0 ≤ (x7_1 : Int) := of_decide_eq_true (by first | (with_reducible assumption) | assumption)
              have q468 : x7_1 < (l0.length : Int) := of_decide_eq_true (by first | (with_reducible assumption) | assumption)
              obtain ⟨ad468, A468_0, c468_0, e468, hx468_0, hl468_0, hi468_0⟩ := at_L3 HR0.out x7_1 p468 q468
              cases e468
              have HR468_0 := Aside0.mk hi468_0
              have HC468_0 := Aside0.mk hl468_0
              clear hi468_0 hl468_0
              replace p468 := eq_true p468
              replace q468 := eq_true q468
              go_wp2
              go_ret
              exact ⟨by first | rfl | (simp; done) | (simp [*]; done), by repeat (first | exact Drawn0.refl _ | apply Drawn0.step)⟩
            · rw [if_neg c5] at H
              have c5b0 : decide (4096 < ((rd_L3 l0 x7_1).length : Int)) = false := decide_eq_false c5
              have c5b1 : decide (4096 < (rd_L3 l0 x7_1).length) = false := decide_eq_false (by omega)
              clear c5
              by_cases c6 : 0 < (l0.length : Int)
              · rw [if_pos c6] at H
                have c6b0 : decide (0 < (l0.length : Int)) = true := decide_eq_true c6
                have c6b1 : decide (0 < l0.length) = true := decide_eq_true (by omega)
                clear c6
                by_cases c7 : ((rd_L3 l0 x7_1).length : Int) = ((rd_L3 l0 0).length : Int)
                · rw [if_pos c7] at H
                  have c7b0 : (((rd_L3 l0 x7_1).length : Int) == ((rd_L3 l0 0).length : Int)) = true := beq_iff_eq.mpr c7
                  have c7b1 : (((rd_L3 l0 x7_1).length : Int) != ((rd_L3 l0 0).length : Int)) = false := bne_eq_false_iff_eq.mpr c7
                  have c7b2 : ((rd_L3 l0 x7_1).length == (rd_L3 l0 0).length) = true := by first | simpa using c7 | (simp at c7 ⊢; omega)
                  clear c7
                  have H' := Aside0.mk H
                  clear H
                  have p468 : 0 ≤ (x7_1 : Int) := of_decide_eq_true (by first | (with_reducible assumption) | assumption)
                  have q468 : x7_1 < (l0.length : Int) := of_decide_eq_true (by first | (with_reducible assumption) | assumption)
                  obtain ⟨ad468, A468_0, c468_0, e468, hx468_0, hl468_0, hi468_0⟩ := at_L3 HR0.out x7_1 p468 q468
                  cases e468
                  have HR468_0 := Aside0.mk hi468_0
                  have HC468_0 := Aside0.mk hl468_0
                  clear hi468_0 hl468_0
                  replace p468 := eq_true p468
                  replace q468 := eq_true q468
                  have p469 : 0 ≤ (0 : Int) := (by omega)
                  have q469 : 0 < (l0.length : Int) := of_decide_eq_true (by first | (with_reducible assumption) | assumption)
                  obtain ⟨ad469, A469_0, c469_0, e469, hx469_0, hl469_0, hi469_0⟩ := at_L3 HR0.out 0 p469 q469
                  obtain rfl : ad468 = ad469 := (by injection e469)
                  have qi469 : (0 < l0.length) = True := eq_true (by omega)
                  (try rw [show ((0 : Int)).toNat = 0 from rfl] at hx469_0)
                  (try rw [Addr.add_zero'] at hx469_0)
                  have HR469_0 := Aside0.mk hi469_0
                  have HC469_0 := Aside0.mk hl469_0
                  clear hi469_0 hl469_0
                  replace p469 := eq_true p469
                  replace q469 := eq_true q469
                  go_wp2
                  go_roundg k1
                  case measure => have := HK1.out; omega
                  case rel => exact ⟨(x2_1), (wrap64 (x7_1 + 1)), (by first | rfl | (simp; done) | (simp [*]; done)), (by first | rfl | (simp; done) | (simp [*]; done)), H', ⟨by have := HK1.out; omega⟩, by repeat (first | exact Drawn0.refl _ | apply Drawn0.step)⟩
                · rw [if_neg c7] at H
                  have c7b0 : (((rd_L3 l0 x7_1).length : Int) == ((rd_L3 l0 0).length : Int)) = false := beq_eq_false_iff_ne.mpr c7
                  have c7b1 : (((rd_L3 l0 x7_1).length : Int) != ((rd_L3 l0 0).length : Int)) = true := bne_iff_ne.mpr c7
                  have c7b2 : ((rd_L3 l0 x7_1).length == (rd_L3 l0 0).length) = false := by first | simpa using c7 | (simp at c7 ⊢; omega)
                  have H' := Aside0.mk H
                  clear H
                  have p468 : 0 ≤ (x7_1 : Int) := of_decide_eq_true (by first | (with_reducible assumption) | assumption)
                  have q468 : x7_1 < (l0.length : Int) := of_decide_eq_true (by first | (with_reducible assumption) | assumption)
                  obtain ⟨ad468, A468_0, c468_0, e468, hx468_0, hl468_0, hi468_0⟩ := at_L3 HR0.out x7_1 p468 q468
                  cases e468
                  have HR468_0 := Aside0.mk hi468_0
                  have HC468_0 := Aside0.mk hl468_0
                  clear hi468_0 hl468_0
                  replace p468 := eq_true p468
                  replace q468 := eq_true q468
                  have p469 : 0 ≤ (0 : Int) := (by omega)
                  have q469 : 0 < (l0.length : Int) := of_decide_eq_true (by first | (with_reducible assumption) | assumption)
                  obtain ⟨ad469, A469_0, c469_0, e469, hx469_0, hl469_0, hi469_0⟩ := at_L3 HR0.out 0 p469 q469
                  obtain rfl : ad468 = ad469 := (by injection e469)
                  have qi469 : (0 < l0.length) = True := eq_true (by omega)
                  (try rw [show ((0 : Int)).toNat = 0 from rfl] at hx469_0)
                  (try rw [Addr.add_zero'] at hx469_0)
                  have HR469_0 := Aside0.mk hi469_0
                  have HC469_0 := Aside0.mk hl469_0
                  clear hi469_0 hl469_0
                  replace p469 := eq_true p469
                  replace q469 := eq_true q469
                  go_wp2
                  go_roundg k1
                  case measure => have := HK1.out; omega
                  case rel => exact ⟨(4), (wrap64 (x7_1 + 1)), (by first | rfl | (simp; done) | (simp [*]; done)), (by first | rfl | (simp; done) | (simp [*]; done)), H', ⟨by have := HK1.out; omega⟩, by repeat (first | exact Drawn0.refl _ | apply Drawn0.step)⟩
              · rw [if_neg c6] at H
                exact absurd H (by simp)
          · rw [if_neg c4] at H
            exact absurd H (by simp)
        · rw [if_neg c3] at H
          exact absurd H (by simp)
      · rw [if_neg c2] at H
        have c2b0 : decide (x7_1 < (l0.length : Int)) = false := decide_eq_false c2
        clear c2
        obtain rfl := Option.some.inj H
        go_wp2
        go_ret
        exact ⟨by first | rfl | (simp; done) | (simp [*]; done), by repeat (first | exact Drawn0.refl _ | apply Drawn0.step)⟩

/-! ### sign_each_int_bool: function 123 -/
set_option maxHeartbeats 2000000 in
set_option maxRecDepth 100000 in
theorem sign_each_int_bool.gen (K : Nat) (caps : Array Value) (g : Int → Bool) (A0 : Option Addr) (c0 : Nat) (l0 : List Int) (w : World) (hl : l0.length < 17592186044416)
    (hent : ∀ (args : Array Value) (w : World), (callFunc K args).run Try.prog w = .ok (.enter K args) w)
    (hr0 : Kd.C (Kd.int .i64) w A0 l0.length l0)
    (H : TellsF Try.prog K caps l0.length (fun i => Value.int .i64 (l0.getD i default)) (fun i => Value.bool (g (l0.getD i default))) w) :
    Calls Try.prog 123 #[.slice A0 l0.length c0, .func (.func K) #[] caps] w fun e w' => ∃ v0_ : Value, e = .returned v0_ ∧ Kd.R Kd.bool 4 w' w.heap.size (fun _ => True) v0_ (l0.map g) ∧ Below w.heap.size w w' := by
  have hmk := run_make_room (P := Try.prog) 49 4 (.bool false) 1 Try.underlying49 info4 rfl .i64 .i64 l0.length (by omega) (by omega)
  have HH := Aside0.mk H
  have HR := Aside0.mk hr0
  have HL := Aside0.mk hl
  clear H hr0 hl
  go_enter Try.func123, Try.ntmps123
  go_wp2_with fail
  go_loopw [5, 13] (fun v i W => ∃ (k : Nat), i = .int .i64 k ∧ Aside0 (k ≤ l0.length) ∧ Aside0 (Kd.R Kd.bool 4 W w.heap.size (fun _ => True) v ((l0.take k).map g)) ∧ Aside0 (Below w.heap.size w W)) (fun _ i _ => l0.length - (intOf i).toNat)
  case atStart => exact ⟨0, rfl, ⟨Nat.zero_le _⟩, ⟨by have ho := own_room w w.heap.size 4 (madeCells #[.bool false] l0.length) l0.length (Nat.le_refl _) (by have := HL.out; simp only [maxLen]; omega) (size_madeCells _ _); exact Kd.R_of_own (enc := Value.bool) (h1 := fun _ => rfl) (xs := ([] : List Bool)) ho (fun _ _ => trivial)⟩, ⟨below_alloc (Below.refl _ _) _⟩⟩
  case round =>
    obtain ⟨k, rfl, ⟨hk⟩, HO, HB⟩ := hrel
    by_cases hlt : k < l0.length
    · obtain ⟨ad, rfl, hc⟩ := Kd.at_int (Kd.C_below HR.out HB.out) (k : Int) (by omega) (by omega)
      simp only [Int.toNat_natCast] at hc
      rw [show rd l0 (k : Int) = l0.getD k default from rfl] at hc
      obtain ⟨x, hx⟩ : ∃ x, l0.getD k default = x := ⟨_, rfl⟩
      have hcl := HH.out k wr hlt HB.out
      simp only [hx] at hcl hc
      have HC := Aside0.mk hcl
      have ht : (l0.take (k + 1)).map g = (l0.take k).map g ++ [g x] := by
        rw [List.take_add_one, List.getElem?_eq_getElem hlt, ← hx, List.getD_eq_getElem?_getD, List.getElem?_eq_getElem hlt, List.map_append]; rfl
      have HT := Aside0.mk ht
      have hkl : ((l0.take k).map g).length = k := by simp; omega
      have HKL := Aside0.mk hkl
      clear ht hk hkl hcl
      go_wp2_with (first
        | (go_at_fn K; refine HC.out.mono ?_; rintro ed W1 ⟨rfl, hb⟩; have HO1 := Aside0.mk (Kd.R_below HO.out hb); have HB1 := Aside0.mk (below_then HB.out HB.out.size hb); clear hb)
        | ((with_reducible refine gate_builtin (b := .append) (xs := #[.tmp 17, .tmp 21]) rfl ?_); at_builtin; refine Kd.R_append Kd.bool (w0 := w) w.heap.size rfl (.tmp 17) (.tmp 21) 49 4 (.bool false) 1 rfl Try.underlying49 info4 rfl (by decide) (by omega) u5 ((l0.take k).map g) (g x) [Value.bool (g x)] (fun _ => True) (fun _ => False) rfl rfl ?aP (fun _ hk => hk.elim) ?aF ?aO ?aB ?aS ?aL ?_; (case aP => exact rfl); (case aB => exact HB1.out); (case aF => exact (fun _ _ => trivial)); (case aO => exact HO1.out); (case aS => exact HB1.out.size); (case aL => have := HKL.out; have := HL.out; omega); intro v1 w2 ho hb hg hat; rw [← HT.out] at ho; have HO2 := Aside0.mk ho; have HB2 := Aside0.mk hb; clear ho hb hg hat))
      have hL := HL.out
      exact ⟨⟨k + 1, by rw [wrap64_of (show I64 ((k : Int) + 1) by unfold I64; omega)]; rfl, ⟨hlt⟩, HO2, HB2⟩, by rw [wrap64_of (show I64 ((k : Int) + 1) by unfold I64; omega)]; simp [intOf]; omega⟩
    · have hkn : k = l0.length := by omega
      subst hkn
      have HO2 := HO.out
      rw [List.take_length] at HO2
      have HO3 := Aside0.mk HO2
      clear HO2 HO hk
      go_wp2
      go_ret
      exact ⟨_, rfl, HO3.out, HB.out⟩
theorem sign_each_int_bool_1.calls (x : Int) (w : World) : Calls Try.prog 124 #[.int .i64 x] w fun e w' => e = .returned (.bool (decide (0 < x))) ∧ Drawn0 w w' := by
  go_enter Try.func124, Try.ntmps124
  go_wp2
  go_ret
  exact ⟨rfl, ⟨0, rfl⟩⟩
def sign_each_int_bool.f (l0 : List Int) (a1 : Nat) : Option (List Bool) := if a1 = 124 ∧ l0.length < 17592186044416 then some (l0.map fun x => decide (0 < x)) else none
theorem sign_each_int_bool.of (l0 : List Int) (a1 : Nat)  (h_ : a1 = 124 ∧ l0.length < 17592186044416) : sign_each_int_bool.f l0 a1 = some (l0.map fun x => decide (0 < x)) := if_pos h_
theorem sign_each_int_bool.calls (A0 : Option Addr) (c0 : Nat) (l0 : List Int) (a1 : Nat) (r : List Bool) (w : World) (hr0 : Kd.C (Kd.int .i64) w A0 l0.length l0) (hc0 : l0.length ≤ c0) (h : sign_each_int_bool.f l0 a1 = some r) :
    Calls Try.prog 123 #[.slice A0 l0.length c0, .func (.func a1) #[] #[]] w fun e w' => ∃ v0_ : Value, e = .returned (v0_) ∧ Kd.R Kd.bool 4 w' w.heap.size (fun _ => True) v0_ r ∧ Below w.heap.size w w' := by
  unfold sign_each_int_bool.f at h
  split at h
  case isFalse => cases h
  rename_i hv
  obtain ⟨rfl, hl⟩ := hv
  cases h
  refine sign_each_int_bool.gen _ #[] (fun x => decide (0 < x)) A0 c0 l0 w hl (enters_of Try.func124 rfl rfl) hr0 ?_
  intro i W hi hb
  refine (sign_each_int_bool_1.calls (l0.getD i default) W).mono ?_
  rintro e w' ⟨rfl, hd⟩
  exact ⟨rfl, hd.below⟩


-- NOT PRINTED: function 124 (sign_Votes_1)

end Go.Proofs.Ytllicjinmlkcfaa.HC
