/- What Go functions do, each as a plain Lean function with the same answers, and the proof of it, in every world: printed by the session's driver over the kit's print, with texts by hand. -/
import Derived.Test.YtalamamjodihaaaHPx0
namespace Go.Proofs.Ytalamamjodihaaa.HP
open Go.RowKit Go.Proofs.YtalamamjodihaaaW.PrintWords Go.Proofs.YtalamamjodihaaaW.PrintLast Go.Proofs.YtalamamjodihaaaW.PrintMore
attribute [local go_sem] max2_int min2_int max_two min_two max_three min_three max_four min_four   -- for this text's walks alone
open Go.Proofs.Ytalamamjodihaaa.Sp
attribute [local go_sem] Go.Proofs.Ytalamamjodihaaa.Sp.u64_not
set_option linter.unusedVariables false
set_option linter.unusedSimpArgs false

/-! ### thrumlaw16_MlpTurns_1: function 29 -/
def thrumlaw16_MlpTurns_1.f (l0 : List Int) : Option (List Int) := if 0 ≤ (wrap64 (Int.tdiv (wrap64 ((l0.length : Int) - 3)) 2)) then (if (wrap64 (Int.tdiv (wrap64 ((l0.length : Int) - 3)) 2)) ≤ (wrap64 (2 * (wrap64 (Int.tdiv (wrap64 ((l0.length : Int) - 3)) 2)))) then (if (wrap64 (2 * (wrap64 (Int.tdiv (wrap64 ((l0.length : Int) - 3)) 2)))) ≤ (l0.length : Int) then (if ([] : List Int).length + ((l0.take ((wrap64 (2 * (wrap64 (Int.tdiv (wrap64 ((l0.length : Int) - 3)) 2)))) : Int).toNat).drop ((wrap64 (Int.tdiv (wrap64 ((l0.length : Int) - 3)) 2)) : Int).toNat).length < 17592186044416 then ((some (([] : List Int) ++ ((l0.take ((wrap64 (2 * (wrap64 (Int.tdiv (wrap64 ((l0.length : Int) - 3)) 2)))) : Int).toNat).drop ((wrap64 (Int.tdiv (wrap64 ((l0.length : Int) - 3)) 2)) : Int).toNat) : List Int)).bind fun y180 => (if (wrap64 (Int.tdiv (wrap64 ((l0.length : Int) - 3)) 2)) ≤ (l0.length : Int) then (if y180.length + (l0.take ((wrap64 (Int.tdiv (wrap64 ((l0.length : Int) - 3)) 2)) : Int).toNat).length < 17592186044416 then ((some (y180 ++ (l0.take ((wrap64 (Int.tdiv (wrap64 ((l0.length : Int) - 3)) 2)) : Int).toNat) : List Int)).bind fun y184 => (if 0 ≤ (wrap64 ((wrap64 (2 * (wrap64 (Int.tdiv (wrap64 ((l0.length : Int) - 3)) 2)))) + 1)) then (if (wrap64 ((wrap64 (2 * (wrap64 (Int.tdiv (wrap64 ((l0.length : Int) - 3)) 2)))) + 1)) < (l0.length : Int) then (if 0 ≤ (wrap64 (2 * (wrap64 (Int.tdiv (wrap64 ((l0.length : Int) - 3)) 2)))) then (if (wrap64 (2 * (wrap64 (Int.tdiv (wrap64 ((l0.length : Int) - 3)) 2)))) < (l0.length : Int) then (if 0 ≤ (wrap64 ((wrap64 (2 * (wrap64 (Int.tdiv (wrap64 ((l0.length : Int) - 3)) 2)))) + 2)) then (if (wrap64 ((wrap64 (2 * (wrap64 (Int.tdiv (wrap64 ((l0.length : Int) - 3)) 2)))) + 2)) < (l0.length : Int) then ((some (([rd l0 (wrap64 ((wrap64 (2 * (wrap64 (Int.tdiv (wrap64 ((l0.length : Int) - 3)) 2)))) + 1)), rd l0 (wrap64 (2 * (wrap64 (Int.tdiv (wrap64 ((l0.length : Int) - 3)) 2)))), rd l0 (wrap64 ((wrap64 (2 * (wrap64 (Int.tdiv (wrap64 ((l0.length : Int) - 3)) 2)))) + 2))] : List Int) : List Int)).bind fun y190 => (if y184.length + y190.length < 17592186044416 then (some (y184 ++ y190)) else (none))) else (none)) else (none)) else (none)) else (none)) else (none)) else (none))) else (none)) else (none))) else (none)) else (none)) else (none)) else (none)
def thrumlaw16_MlpTurns_1.T2 : Bool × List (List Nat × List Nat) := (true, [([], []), ([], []), ([], []), ([2], [2]), ([0, 1, 3], [0, 1, 3]), ([4], [4]), ([], []), ([], []), ([6, 7], [6, 7]), ([5, 8, 5], [5, 8]), ([9, 9, 0, 1, 2, 3, 4, 5, 6, 7, 8, 9], [9])])
def thrumlaw16_MlpTurns_1.B2 : List Nat := [0, 0, 0, 4, 15, 31, 0, 0, 192, 511, 1023]
theorem thrumlaw16_MlpTurns_1.tab2 : rtab .any (opsOf Try.f29 2) = thrumlaw16_MlpTurns_1.T2 := by kernel_rfl
theorem thrumlaw16_MlpTurns_1.bits2 : waitsOk thrumlaw16_MlpTurns_1.T2.2 thrumlaw16_MlpTurns_1.B2 = true := by kernel_rfl
def thrumlaw16_MlpTurns_1.T3 : Bool × List (List Nat × List Nat) := (true, [([], []), ([], []), ([], []), ([2], [2]), ([3], [3]), ([1, 4], [1, 4]), ([5], [5]), ([], []), ([], []), ([8], [8]), ([7, 9], [7, 9]), ([10], [10]), ([], []), ([], []), ([13], [13]), ([14], [14]), ([12, 15], [12, 15]), ([16], [16]), ([6, 11, 17], [6, 11, 17]), ([0, 18], [0, 18]), ([19, 19, 0, 1, 2, 3, 4, 5, 6, 7, 8, 9, 10, 11, 12, 13, 14, 15, 16, 17, 18, 19], [19])])
def thrumlaw16_MlpTurns_1.B3 : List Nat := [0, 0, 0, 4, 12, 30, 62, 0, 0, 256, 896, 1920, 0, 0, 8192, 24576, 61440, 126976, 262142, 524287, 1048575]
theorem thrumlaw16_MlpTurns_1.tab3 : rtab .any (opsOf Try.f29 3) = thrumlaw16_MlpTurns_1.T3 := by kernel_rfl
theorem thrumlaw16_MlpTurns_1.bits3 : waitsOk thrumlaw16_MlpTurns_1.T3.2 thrumlaw16_MlpTurns_1.B3 = true := by kernel_rfl
set_option maxHeartbeats 80000000 in
set_option maxRecDepth 100000 in
theorem thrumlaw16_MlpTurns_1.calls (A0 : Option Addr) (c0 : Nat) (l0 : List Int) (r : List Int) (w : World) (hr0 : Kd.C (Kd.int .i64) w A0 l0.length l0) (hc0 : l0.length ≤ c0) (h : thrumlaw16_MlpTurns_1.f l0 = some r) :
  Calls Try.prog 29 #[.slice A0 l0.length c0] w fun e w' => ∃ v0_ : Value, e = .returned (v0_) ∧ Kd.R (Kd.int .i64) 2 w' w.heap.size (fun _ => True) v0_ r ∧ Below w.heap.size w w' := by
 have HR0 := Aside0.mk hr0
 have HC0 := Aside0.mk hc0
 clear hr0 hc0
 have HB := Aside0.mk (Below.refl w.heap.size w)
 have H : (if 0 ≤ (wrap64 (Int.tdiv (wrap64 ((l0.length : Int) - 3)) 2)) then (if (wrap64 (Int.tdiv (wrap64 ((l0.length : Int) - 3)) 2)) ≤ (wrap64 (2 * (wrap64 (Int.tdiv (wrap64 ((l0.length : Int) - 3)) 2)))) then (if (wrap64 (2 * (wrap64 (Int.tdiv (wrap64 ((l0.length : Int) - 3)) 2)))) ≤ (l0.length : Int) then (if ([] : List Int).length + ((l0.take ((wrap64 (2 * (wrap64 (Int.tdiv (wrap64 ((l0.length : Int) - 3)) 2)))) : Int).toNat).drop ((wrap64 (Int.tdiv (wrap64 ((l0.length : Int) - 3)) 2)) : Int).toNat).length < 17592186044416 then ((some (([] : List Int) ++ ((l0.take ((wrap64 (2 * (wrap64 (Int.tdiv (wrap64 ((l0.length : Int) - 3)) 2)))) : Int).toNat).drop ((wrap64 (Int.tdiv (wrap64 ((l0.length : Int) - 3)) 2)) : Int).toNat) : List Int)).bind fun y180 => (if (wrap64 (Int.tdiv (wrap64 ((l0.length : Int) - 3)) 2)) ≤ (l0.length : Int) then (if y180.length + (l0.take ((wrap64 (Int.tdiv (wrap64 ((l0.length : Int) - 3)) 2)) : Int).toNat).length < 17592186044416 then ((some (y180 ++ (l0.take ((wrap64 (Int.tdiv (wrap64 ((l0.length : Int) - 3)) 2)) : Int).toNat) : List Int)).bind fun y184 => (if 0 ≤ (wrap64 ((wrap64 (2 * (wrap64 (Int.tdiv (wrap64 ((l0.length : Int) - 3)) 2)))) + 1)) then (if (wrap64 ((wrap64 (2 * (wrap64 (Int.tdiv (wrap64 ((l0.length : Int) - 3)) 2)))) + 1)) < (l0.length : Int) then (if 0 ≤ (wrap64 (2 * (wrap64 (Int.tdiv (wrap64 ((l0.length : Int) - 3)) 2)))) then (if (wrap64 (2 * (wrap64 (Int.tdiv (wrap64 ((l0.length : Int) - 3)) 2)))) < (l0.length : Int) then (if 0 ≤ (wrap64 ((wrap64 (2 * (wrap64 (Int.tdiv (wrap64 ((l0.length : Int) - 3)) 2)))) + 2)) then (if (wrap64 ((wrap64 (2 * (wrap64 (Int.tdiv (wrap64 ((l0.length : Int) - 3)) 2)))) + 2)) < (l0.length : Int) then ((some (([rd l0 (wrap64 ((wrap64 (2 * (wrap64 (Int.tdiv (wrap64 ((l0.length : Int) - 3)) 2)))) + 1)), rd l0 (wrap64 (2 * (wrap64 (Int.tdiv (wrap64 ((l0.length : Int) - 3)) 2)))), rd l0 (wrap64 ((wrap64 (2 * (wrap64 (Int.tdiv (wrap64 ((l0.length : Int) - 3)) 2)))) + 2))] : List Int) : List Int)).bind fun y190 => (if y184.length + y190.length < 17592186044416 then (some (y184 ++ y190)) else (none))) else (none)) else (none)) else (none)) else (none)) else (none)) else (none))) else (none)) else (none))) else (none)) else (none)) else (none)) else (none)) = some r := h
 clear h
 obtain ⟨ji2, hji2⟩ : ∃ j_ : Int, (wrap64 (Int.tdiv (wrap64 ((l0.length : Int) - 3)) 2)) = j_ := ⟨_, rfl⟩
 replace H : (if 0 ≤ (ji2) then (if (ji2) ≤ (wrap64 (2 * (ji2))) then (if (wrap64 (2 * (ji2))) ≤ (l0.length : Int) then (if ([] : List Int).length + ((l0.take ((wrap64 (2 * (ji2))) : Int).toNat).drop ((ji2) : Int).toNat).length < 17592186044416 then ((some (([] : List Int) ++ ((l0.take ((wrap64 (2 * (ji2))) : Int).toNat).drop ((ji2) : Int).toNat) : List Int)).bind fun y180 => (if (ji2) ≤ (l0.length : Int) then (if y180.length + (l0.take ((ji2) : Int).toNat).length < 17592186044416 then ((some (y180 ++ (l0.take ((ji2) : Int).toNat) : List Int)).bind fun y184 => (if 0 ≤ (wrap64 ((wrap64 (2 * (ji2))) + 1)) then (if (wrap64 ((wrap64 (2 * (ji2))) + 1)) < (l0.length : Int) then (if 0 ≤ (wrap64 (2 * (ji2))) then (if (wrap64 (2 * (ji2))) < (l0.length : Int) then (if 0 ≤ (wrap64 ((wrap64 (2 * (ji2))) + 2)) then (if (wrap64 ((wrap64 (2 * (ji2))) + 2)) < (l0.length : Int) then ((some (([rd l0 (wrap64 ((wrap64 (2 * (ji2))) + 1)), rd l0 (wrap64 (2 * (ji2))), rd l0 (wrap64 ((wrap64 (2 * (ji2))) + 2))] : List Int) : List Int)).bind fun y190 => (if y184.length + y190.length < 17592186044416 then (some (y184 ++ y190)) else (none))) else (none)) else (none)) else (none)) else (none)) else (none)) else (none))) else (none)) else (none))) else (none)) else (none)) else (none)) else (none)) = some r := by first | (rw [hji2] at H; exact H) | (simp only [hji2] at H ⊢; exact H)
 have hji2w : (IntKind.i64.wrap (Int.tdiv (wrap64 ((l0.length : Int) - 3)) 2)) = ji2 := (i64_w _).trans hji2
 obtain ⟨ji13, hji13⟩ : ∃ j_ : Int, (wrap64 (2 * (ji2))) = j_ := ⟨_, rfl⟩
 rw [hji13] at H
 have hji13w : (IntKind.i64.wrap (2 * (ji2))) = ji13 := (i64_w _).trans hji13
 by_cases c3 : 0 ≤ (ji2)
 ·
  rw [if_pos c3] at H
  have c3b0 := eq_true c3
  have c3b1 : decide (0 ≤ (ji2)) = true := decide_eq_true c3
  clear c3
  by_cases c4 : (ji2) ≤ (ji13)
  ·
   rw [if_pos c4] at H
   have c4b0 := eq_true c4
   have c4b1 : decide ((ji2) ≤ (ji13)) = true := decide_eq_true c4
   clear c4
   by_cases c5 : (ji13) ≤ (l0.length : Int)
   ·
    rw [if_pos c5] at H
    have c5b0 := eq_true c5
    have c5b1 : decide ((ji13) ≤ (l0.length : Int)) = true := decide_eq_true c5
    clear c5
    by_cases c6 : ([] : List Int).length + ((l0.take ((ji13) : Int).toNat).drop ((ji2) : Int).toNat).length < 17592186044416
    ·
     rw [if_pos c6] at H
     have LMc6 := Aside0.mk c6
     clear c6
     obtain ⟨y180, hy180⟩ : ∃ y_ : List Int, y_ = (([] : List Int) ++ ((l0.take ((ji13) : Int).toNat).drop ((ji2) : Int).toNat)) := ⟨_, rfl⟩
     replace H : (if (ji2) ≤ (l0.length : Int) then (if y180.length + (l0.take ((ji2) : Int).toNat).length < 17592186044416 then ((some (y180 ++ (l0.take ((ji2) : Int).toNat) : List Int)).bind fun y184 => (if 0 ≤ (wrap64 ((ji13) + 1)) then (if (wrap64 ((ji13) + 1)) < (l0.length : Int) then (if 0 ≤ (ji13) then (if (ji13) < (l0.length : Int) then (if 0 ≤ (wrap64 ((ji13) + 2)) then (if (wrap64 ((ji13) + 2)) < (l0.length : Int) then ((some (([rd l0 (wrap64 ((ji13) + 1)), rd l0 (ji13), rd l0 (wrap64 ((ji13) + 2))] : List Int) : List Int)).bind fun y190 => (if y184.length + y190.length < 17592186044416 then (some (y184 ++ y190)) else (none))) else (none)) else (none)) else (none)) else (none)) else (none)) else (none))) else (none)) else (none)) = some r := by first | (rw [hy180]; with_reducible exact H) | (have H2_ := (Option.bind_some _ _).symm.trans H; rw [hy180]; with_reducible exact H2_) | (have H2_ := (Option.bind_some _ _).symm.trans H; with_reducible exact H2_) | with_reducible exact H | (rw [hy180]; exact H) | exact H
     have Ny180 := Aside0.mk hy180
     clear hy180
     have c7b0 := eq_true (of_decide_eq_true (by first | (with_reducible assumption) | assumption) : 0 ≤ (ji2))
     by_cases c8 : (ji2) ≤ (l0.length : Int)
     ·
      rw [if_pos c8] at H
      have c8b0 := eq_true c8
      have c8b1 : decide ((ji2) ≤ (l0.length : Int)) = true := decide_eq_true c8
      clear c8
      by_cases c9 : y180.length + (l0.take ((ji2) : Int).toNat).length < 17592186044416
      ·
       rw [if_pos c9] at H
       have LMc9 := Aside0.mk c9
       clear c9
       obtain ⟨y184, hy184⟩ : ∃ y_ : List Int, y_ = (y180 ++ (l0.take ((ji2) : Int).toNat)) := ⟨_, rfl⟩
       replace H : (if 0 ≤ (wrap64 ((ji13) + 1)) then (if (wrap64 ((ji13) + 1)) < (l0.length : Int) then (if 0 ≤ (ji13) then (if (ji13) < (l0.length : Int) then (if 0 ≤ (wrap64 ((ji13) + 2)) then (if (wrap64 ((ji13) + 2)) < (l0.length : Int) then ((some (([rd l0 (wrap64 ((ji13) + 1)), rd l0 (ji13), rd l0 (wrap64 ((ji13) + 2))] : List Int) : List Int)).bind fun y190 => (if y184.length + y190.length < 17592186044416 then (some (y184 ++ y190)) else (none))) else (none)) else (none)) else (none)) else (none)) else (none)) else (none)) = some r := by first | (rw [hy184]; with_reducible exact H) | (have H2_ := (Option.bind_some _ _).symm.trans H; rw [hy184]; with_reducible exact H2_) | (have H2_ := (Option.bind_some _ _).symm.trans H; with_reducible exact H2_) | with_reducible exact H | (rw [hy184]; exact H) | exact H
       have Ny184 := Aside0.mk hy184
       clear hy184
       obtain ⟨ji10, hji10⟩ : ∃ j_ : Int, (wrap64 ((ji13) + 1)) = j_ := ⟨_, rfl⟩
       replace H : (if 0 ≤ (ji10) then (if (ji10) < (l0.length : Int) then (if 0 ≤ (ji13) then (if (ji13) < (l0.length : Int) then (if 0 ≤ (wrap64 ((ji13) + 2)) then (if (wrap64 ((ji13) + 2)) < (l0.length : Int) then ((some (([rd l0 (ji10), rd l0 (ji13), rd l0 (wrap64 ((ji13) + 2))] : List Int) : List Int)).bind fun y190 => (if y184.length + y190.length < 17592186044416 then (some (y184 ++ y190)) else (none))) else (none)) else (none)) else (none)) else (none)) else (none)) else (none)) = some r := by first | (rw [hji10] at H; exact H) | (simp only [hji10] at H ⊢; exact H)
       have hji10w : (IntKind.i64.wrap ((ji13) + 1)) = ji10 := (i64_w _).trans hji10
       by_cases c11 : 0 ≤ (ji10)
       ·
        rw [if_pos c11] at H
        have c11b0 : decide (0 ≤ (ji10)) = true := decide_eq_true c11
        clear c11
        by_cases c12 : (ji10) < (l0.length : Int)
        ·
         rw [if_pos c12] at H
         have c12b0 : decide ((ji10) < (l0.length : Int)) = true := decide_eq_true c12
         clear c12
         by_cases c14 : 0 ≤ (ji13)
         ·
          rw [if_pos c14] at H
          have c14b0 : decide (0 ≤ (ji13)) = true := decide_eq_true c14
          clear c14
          by_cases c15 : (ji13) < (l0.length : Int)
          ·
           rw [if_pos c15] at H
           have c15b0 : decide ((ji13) < (l0.length : Int)) = true := decide_eq_true c15
           clear c15
           obtain ⟨ji16, hji16⟩ : ∃ j_ : Int, (wrap64 ((ji13) + 2)) = j_ := ⟨_, rfl⟩
           replace H : (if 0 ≤ (ji16) then (if (ji16) < (l0.length : Int) then ((some (([rd l0 (ji10), rd l0 (ji13), rd l0 (ji16)] : List Int) : List Int)).bind fun y190 => (if y184.length + y190.length < 17592186044416 then (some (y184 ++ y190)) else (none))) else (none)) else (none)) = some r := by first | (rw [hji16] at H; exact H) | (simp only [hji16] at H ⊢; exact H)
           have hji16w : (IntKind.i64.wrap ((ji13) + 2)) = ji16 := (i64_w _).trans hji16
           by_cases c17 : 0 ≤ (ji16)
           ·
            rw [if_pos c17] at H
            have c17b0 : decide (0 ≤ (ji16)) = true := decide_eq_true c17
            clear c17
            by_cases c18 : (ji16) < (l0.length : Int)
            ·
             rw [if_pos c18] at H
             have c18b0 : decide ((ji16) < (l0.length : Int)) = true := decide_eq_true c18
             clear c18
             obtain ⟨y190, hy190⟩ : ∃ y_ : List Int, y_ = (([rd l0 (ji10), rd l0 (ji13), rd l0 (ji16)] : List Int)) := ⟨_, rfl⟩
             replace H : (if y184.length + y190.length < 17592186044416 then (some (y184 ++ y190)) else (none)) = some r := by first | (rw [hy190]; with_reducible exact H) | (have H2_ := (Option.bind_some _ _).symm.trans H; rw [hy190]; with_reducible exact H2_) | (have H2_ := (Option.bind_some _ _).symm.trans H; with_reducible exact H2_) | with_reducible exact H | (rw [hy190]; exact H) | exact H
             have Ny190 := Aside0.mk hy190
             clear hy190
             by_cases c19 : y184.length + y190.length < 17592186044416
             ·
              rw [if_pos c19] at H
              have LMc19 := Aside0.mk c19
              clear c19
              obtain ⟨y193, hy193⟩ : ∃ y_ : List Int, y_ = (y184 ++ y190) := ⟨_, rfl⟩
              replace H : (some y193) = some r := by first | (rw [hy193]; with_reducible exact H) | (have H2_ := (Option.bind_some _ _).symm.trans H; rw [hy193]; with_reducible exact H2_) | (have H2_ := (Option.bind_some _ _).symm.trans H; with_reducible exact H2_) | with_reducible exact H | (rw [hy193]; exact H) | exact H
              have Ny193 := Aside0.mk hy193
              clear hy193
              obtain rfl := Option.some.inj H
              go_enter Try.func29, Try.ntmps29
              try go_wp2
              have n0_ := Aside0.mk (zzD HB.out)
              clear HB
              have HB := n0_
              clear n0_
              obtain ⟨i021, hi021, _, hsz21, _⟩ := info_parts info2
              obtain ⟨A21, hcut21, hA21, hC21⟩ := print_mid_of (P := Try.prog) (Value.int .i64) 0 22 2 .i64 .i64 Try.underlying22 hi021 hsz21 A0 c0 l0 (ji2) (ji13) (of_decide_eq_true (by first | (with_reducible assumption) | assumption)) (by first | omega | exact of_decide_eq_true (by first | (with_reducible assumption) | assumption)) (of_decide_eq_true (by first | (with_reducible assumption) | assumption)) HC0.out
              have HR179 := Aside0.mk (Kd.C_of_reads (h1 := fun _ => rfl) (hA21 _ (Kd.reads_of_C HR0.out)))
              have HC179 := Aside0.mk hC21
              clear hA21 hC21 hi021 hsz21
              obtain ⟨i022, hi022, _, hsz22, _⟩ := info_parts info2
              obtain ⟨hcut22, hA22, hC22⟩ := print_take_of (P := Try.prog) (Value.int .i64) 0 22 2 .i64 Try.underlying22 hi022 hsz22 A0 c0 l0 (ji2) (of_decide_eq_true (by first | (with_reducible assumption) | assumption)) (of_decide_eq_true (by first | (with_reducible assumption) | assumption)) HC0.out
              have HR183 := Aside0.mk (Kd.C_of_reads (h1 := fun _ => rfl) (hA22 _ (Kd.reads_of_C HR0.out)))
              have HC183 := Aside0.mk hC22
              clear hA22 hC22 hi022 hsz22
              refine start_ (n := 11) (S := fun w' => True) (ds := []) #[false, false, false, false, false, false, false, false, false, false, false] (by kernel_rfl) rfl rfl trivial (fun hHeld => ?_); refine with_tabW thrumlaw16_MlpTurns_1.tab2 thrumlaw16_MlpTurns_1.bits2 (fun HT_ HW_ => ?_)
              generalize w.drew = w20 at HB HR179 HR183 hHeld ⊢
              refine pure_ (i := 0) (N := some 9) (v := ?_) (a' := ?_) #[true, false, false, false, false, false, false, false, false, false, false] rfl rfl (any_of HT_.out (by kernel_rfl)) (fun _ _ _ h => h) (Or.inl ⟨by rfl, ?_⟩) ?_ ?_
              rotate_left
              ·
               intro w'
               go_simp
               with_reducible rfl
              rotate_left
              ·
               simp only [Act.put, List.setIfInBounds_toArray, List.set_cons_zero, List.set_cons_succ, i64_w, i32_w]
               rfl
              refine pure_ (i := 1) (N := some 10) (v := ?_) (a' := ?_) #[true, true, false, false, false, false, false, false, false, false, false] rfl rfl (any_of HT_.out (by kernel_rfl)) (fun _ _ _ h => h) (Or.inl ⟨by rfl, ?_⟩) ?_ ?_
              rotate_left
              ·
               intro w'
               go_simp
               with_reducible rfl
              rotate_left
              ·
               simp only [Act.put, List.setIfInBounds_toArray, List.set_cons_zero, List.set_cons_succ, i64_w, i32_w]
               rfl
              refine pure_ (i := 2) (N := some 11) (v := ?_) (a' := ?_) #[true, true, true, false, false, false, false, false, false, false, false] rfl rfl (any_of HT_.out (by kernel_rfl)) (fun _ _ _ h => h) (Or.inl ⟨by rfl, ?_⟩) ?_ ?_
              rotate_left
              ·
               intro w'
               go_simp
               with_reducible rfl
              rotate_left
              ·
               simp only [Act.put, List.setIfInBounds_toArray, List.set_cons_zero, List.set_cons_succ, i64_w, i32_w]
               rfl
              refine pure_ (i := 3) (N := some 12) (v := ?_) (a' := ?_) #[true, true, true, true, false, false, false, false, false, false, false] rfl rfl (any_of HT_.out (by kernel_rfl)) (fun _ _ _ h => h) (Or.inl ⟨by rfl, ?_⟩) ?_ ?_
              rotate_left
              ·
               intro w'
               go_simp
               with_reducible rfl
              rotate_left
              ·
               simp only [Act.put, List.setIfInBounds_toArray, List.set_cons_zero, List.set_cons_succ, i64_w, i32_w]
               rfl
              refine pure_ (i := 4) (N := some 13) (v := ?_) (a' := ?_) #[true, true, true, true, true, false, false, false, false, false, false] rfl rfl (any_of HT_.out (by kernel_rfl)) (fun _ _ _ h => h) (Or.inl ⟨by rfl, ?_⟩) ?_ ?_
              rotate_left
              ·
               intro w'
               go_simp
               with_reducible rfl
              rotate_left
              ·
               simp only [Act.put, List.setIfInBounds_toArray, List.set_cons_zero, List.set_cons_succ, i64_w, i32_w]
               rfl
              refine pure_ (i := 6) (N := some 15) (v := ?_) (a' := ?_) #[true, true, true, true, true, false, true, false, false, false, false] rfl rfl (any_of HT_.out (by kernel_rfl)) (fun _ _ _ h => h) (Or.inl ⟨by rfl, ?_⟩) ?_ ?_
              rotate_left
              ·
               intro w'
               go_simp
               with_reducible rfl
              rotate_left
              ·
               simp only [Act.put, List.setIfInBounds_toArray, List.set_cons_zero, List.set_cons_succ, i64_w, i32_w]
               rfl
              refine pure_ (i := 7) (N := some 16) (v := ?_) (a' := ?_) #[true, true, true, true, true, false, true, true, false, false, false] rfl rfl (any_of HT_.out (by kernel_rfl)) (fun _ _ _ h => h) (Or.inl ⟨by rfl, ?_⟩) ?_ ?_
              rotate_left
              ·
               intro w'
               go_simp
               with_reducible rfl
              rotate_left
              ·
               simp only [Act.put, List.setIfInBounds_toArray, List.set_cons_zero, List.set_cons_succ, i64_w, i32_w]
               rfl
              refine pure_ (i := 8) (N := some 17) (v := ?_) (a' := ?_) #[true, true, true, true, true, false, true, true, true, false, false] rfl rfl (any_of HT_.out (by kernel_rfl)) (fun _ _ _ h => h) (Or.inl ⟨by rfl, ?_⟩) ?_ ?_
              rotate_left
              ·
               intro w'
               go_simp
               with_reducible rfl
              rotate_left
              ·
               simp only [Act.put, List.setIfInBounds_toArray, List.set_cons_zero, List.set_cons_succ, i64_w, i32_w]
               rfl
              refine one_ (i := 5) (N := some 14) #[true, true, true, true, true, true, true, true, true, false, false] rfl rfl (one_of HT_.out (by kernel_rfl)) (by decide) (fun K hK => ?_)
              refine Kd.R_append_rows_step (Kd.int .i64) (w0 := w) w.heap.size (by rfl) (.const (.slice none 0 0)) (.tmp 13) 22 2 (.int .i64 0) 8 rfl Try.underlying22 info2 rfl (by decide) (by omega) (.slice none 0 0) ([] : List Int) ((l0.take ((ji13) : Int).toNat).drop ((ji2) : Int).toNat) _ _ _ (fun _ => True) (fun _ => False) rfl rfl ?aO ?aR (fun _ _ h => h) (fun _ h => h.elim) ?aF ?aB ?aS ?aL ?_
              (case aR => first | (have e_ := (show ((l0.take ((ji13) : Int).toNat).drop ((ji2) : Int).toNat).length = ((ji13).toNat - (ji2).toNat) from (by rw [List.length_drop, List.length_take]; have h_ : ((ji13) : Int) ≤ (l0.length : Int) := of_decide_eq_true (by first | (with_reducible assumption) | assumption); omega)); have t_ := HR179.out; generalize ((l0.take ((ji13) : Int).toNat).drop ((ji2) : Int).toNat) = xs_ at e_ t_ ⊢; rw [e_] at t_; repeat (first | exact (Kd.C_below t_ HB.out) | (with_reducible refine ccA ?_ _) | (with_reducible refine ccN ?_ _) | (with_reducible refine ccD ?_)); done) | (rw [← show ((l0.take ((ji13) : Int).toNat).drop ((ji2) : Int).toNat).length = ((ji13).toNat - (ji2).toNat) from (by rw [List.length_drop, List.length_take]; have h_ : ((ji13) : Int) ≤ (l0.length : Int) := of_decide_eq_true (by first | (with_reducible assumption) | assumption); omega)]; repeat (first | exact (Kd.C_below HR179.out HB.out) | (with_reducible refine ccA ?_ _) | (with_reducible refine ccN ?_ _) | (with_reducible refine ccD ?_))))
              (case aB => exact (by repeat (first | (with_reducible first | exact HB.out | apply zzA | apply zzN | apply zzD) | exact HB.out)))
              (case aF => exact (fun _ _ => trivial))
              (case aO => exact ((Kd.R_nil _ _ _ _ (fun _ => True))))
              (case aS => exact (zzS (by repeat (first | (with_reducible first | exact HB.out | apply zzA | apply zzN | apply zzD) | exact HB.out))))
              (case aL => have := LMc6.out; have hlx_ := (show ((l0.take ((ji13) : Int).toNat).drop ((ji2) : Int).toNat).length = ((ji13).toNat - (ji2).toNat) from (by rw [List.length_drop, List.length_take]; have h_ : ((ji13) : Int) ≤ (l0.length : Int) := of_decide_eq_true (by first | (with_reducible assumption) | assumption); omega)); omega)
              intro v181 w23 ho hb hg hat
              rw [← Ny180.out] at ho
              have n0_ := Aside0.mk (hb)
              have n1_ := Aside0.mk (ho)
              clear HB
              have HB := n0_
              have HO182 := n1_
              clear n0_ n1_
              clear ho hb hg hat
              refine hK.out _ _ trivial (fun hHeld => ?_)
              clear hK K
              refine norm_ (a' := ?_) ?_ ?_
              rotate_left
              ·
               show Act.put _ (some 14) _ = _
               simp only [Act.put, List.setIfInBounds_toArray, List.set_cons_zero, List.set_cons_succ, i64_w, i32_w]
               rfl
              refine one_ (i := 9) (N := some 18) #[true, true, true, true, true, true, true, true, true, true, false] rfl rfl (one_of HT_.out (by kernel_rfl)) (by decide) (fun K hK => ?_)
              refine Kd.R_append_rows_step (Kd.int .i64) (w0 := w) w.heap.size (by rfl) (.tmp 14) (.tmp 17) 22 2 (.int .i64 0) 8 rfl Try.underlying22 info2 rfl (by decide) (by omega) v181 y180 (l0.take ((ji2) : Int).toNat) _ _ _ (fun _ => True) (fun _ => False) rfl rfl ?aO ?aR (fun _ _ h => h) (fun _ h => h.elim) ?aF ?aB ?aS ?aL ?_
              (case aR => first | (have e_ := (show (l0.take ((ji2) : Int).toNat).length = (ji2).toNat from (by rw [List.length_take]; have h_ : ((ji2) : Int) ≤ (l0.length : Int) := of_decide_eq_true (by first | (with_reducible assumption) | assumption); omega)); have t_ := HR183.out; generalize (l0.take ((ji2) : Int).toNat) = xs_ at e_ t_ ⊢; rw [e_] at t_; repeat (first | exact (Kd.C_below t_ HB.out) | (with_reducible refine ccA ?_ _) | (with_reducible refine ccN ?_ _) | (with_reducible refine ccD ?_)); done) | (rw [← show (l0.take ((ji2) : Int).toNat).length = (ji2).toNat from (by rw [List.length_take]; have h_ : ((ji2) : Int) ≤ (l0.length : Int) := of_decide_eq_true (by first | (with_reducible assumption) | assumption); omega)]; repeat (first | exact (Kd.C_below HR183.out HB.out) | (with_reducible refine ccA ?_ _) | (with_reducible refine ccN ?_ _) | (with_reducible refine ccD ?_))))
              (case aB => exact (by repeat (first | (with_reducible first | exact HB.out | apply zzA | apply zzN | apply zzD) | exact HB.out)))
              (case aF => exact (fun _ _ => trivial))
              (case aO => exact (by (with_reducible repeat (first | apply rrA | apply rrN | apply rrD)); exact HO182.out))
              (case aS => exact (zzS (by repeat (first | (with_reducible first | exact HB.out | apply zzA | apply zzN | apply zzD) | exact HB.out))))
              (case aL => have := LMc9.out; have hlx_ := (show (l0.take ((ji2) : Int).toNat).length = (ji2).toNat from (by rw [List.length_take]; have h_ : ((ji2) : Int) ≤ (l0.length : Int) := of_decide_eq_true (by first | (with_reducible assumption) | assumption); omega)); omega)
              intro v185 w24 ho hb hg hat
              rw [← Ny184.out] at ho
              have n0_ := Aside0.mk (hb)
              have n1_ := Aside0.mk (ho)
              clear HB
              clear HO182
              have HB := n0_
              have HO186 := n1_
              clear n0_ n1_
              clear ho hb hg hat
              refine hK.out _ _ trivial (fun hHeld => ?_)
              clear hK K
              refine norm_ (a' := ?_) ?_ ?_
              rotate_left
              ·
               show Act.put _ (some 18) _ = _
               simp only [Act.put, List.setIfInBounds_toArray, List.set_cons_zero, List.set_cons_succ, i64_w, i32_w]
               rfl
              refine pure_ (i := 10) (N := some 4) (v := ?_) (a' := ?_) #[true, true, true, true, true, true, true, true, true, true, true] rfl rfl (any_of HT_.out (by kernel_rfl)) (fun _ _ _ h => h) (Or.inl ⟨by rfl, ?_⟩) ?_ ?_
              rotate_left
              ·
               intro w'
               go_simp
               with_reducible rfl
              rotate_left
              ·
               simp only [Act.put, List.setIfInBounds_toArray, List.set_cons_zero, List.set_cons_succ, i64_w, i32_w]
               rfl
              refine done_ (done_of HT_.out (by kernel_rfl)) ?_
              try go_wp2
              have n0_ := Aside0.mk (rrD HO186.out)
              have n1_ := Aside0.mk (zzD HB.out)
              clear HO186
              clear HB
              have HO186 := n0_
              have HB := n1_
              clear n0_ n1_
              have p187 : 0 ≤ ((ji10) : Int) := of_decide_eq_true (by first | (with_reducible assumption) | assumption)
              have q187 : (ji10) < (l0.length : Int) := of_decide_eq_true (by first | (with_reducible assumption) | assumption)
              obtain ⟨ad187, e187, hx187_0⟩ := Kd.at_int HR0.out (ji10) p187 q187
              have hw187_0 := hx187_0
              cases e187
              replace hx187_0 := (HB.out.cell (World.block_lt_of_cell? w _ hx187_0)).trans hx187_0
              replace p187 := eq_true p187
              replace q187 := eq_true q187
              have p188 : 0 ≤ ((ji13) : Int) := of_decide_eq_true (by first | (with_reducible assumption) | assumption)
              have q188 : (ji13) < (l0.length : Int) := of_decide_eq_true (by first | (with_reducible assumption) | assumption)
              obtain ⟨ad188, e188, hx188_0⟩ := Kd.at_int HR0.out (ji13) p188 q188
              have hw188_0 := hx188_0
              obtain rfl : ad187 = ad188 := (by injection e188)
              replace hx188_0 := (HB.out.cell (World.block_lt_of_cell? w _ hx188_0)).trans hx188_0
              replace p188 := eq_true p188
              replace q188 := eq_true q188
              have p189 : 0 ≤ ((ji16) : Int) := of_decide_eq_true (by first | (with_reducible assumption) | assumption)
              have q189 : (ji16) < (l0.length : Int) := of_decide_eq_true (by first | (with_reducible assumption) | assumption)
              obtain ⟨ad189, e189, hx189_0⟩ := Kd.at_int HR0.out (ji16) p189 q189
              have hw189_0 := hx189_0
              obtain rfl : ad187 = ad189 := (by injection e189)
              replace hx189_0 := (HB.out.cell (World.block_lt_of_cell? w _ hx189_0)).trans hx189_0
              replace p189 := eq_true p189
              replace q189 := eq_true q189
              refine start_ (n := 21) (S := fun w' => w'.cell? (ad187.add ((ji10)).toNat) = some (.int .i64 (rd l0 (ji10))) ∧ w'.cell? (ad187.add ((ji13)).toNat) = some (.int .i64 (rd l0 (ji13))) ∧ w'.cell? (ad187.add ((ji16)).toNat) = some (.int .i64 (rd l0 (ji16)))) (ds := []) #[false, false, false, false, false, false, false, false, false, false, false, false, false, false, false, false, false, false, false, false, false] (by kernel_rfl) rfl rfl ⟨((HB.out.cell (World.block_lt_of_cell? w _ hw187_0)).trans hw187_0), ((HB.out.cell (World.block_lt_of_cell? w _ hw188_0)).trans hw188_0), ((HB.out.cell (World.block_lt_of_cell? w _ hw189_0)).trans hw189_0)⟩ (fun hHeld => ?_); refine with_tabW thrumlaw16_MlpTurns_1.tab3 thrumlaw16_MlpTurns_1.bits3 (fun HT_ HW_ => ?_)
              generalize w24.drew = w25 at HO186 HB hx187_0 hx188_0 hx189_0 hHeld ⊢
              refine pure_ (i := 0) (N := some 19) (v := ?_) (a' := ?_) #[true, false, false, false, false, false, false, false, false, false, false, false, false, false, false, false, false, false, false, false, false] rfl rfl (any_of HT_.out (by kernel_rfl)) (fun _ _ _ h => h) (Or.inl ⟨by rfl, ?_⟩) ?_ ?_
              rotate_left
              ·
               intro w'
               go_simp
               with_reducible rfl
              rotate_left
              ·
               simp only [Act.put, List.setIfInBounds_toArray, List.set_cons_zero, List.set_cons_succ, i64_w, i32_w]
               rfl
              refine pure_ (i := 1) (N := some 20) (v := ?_) (a' := ?_) #[true, true, false, false, false, false, false, false, false, false, false, false, false, false, false, false, false, false, false, false, false] rfl rfl (any_of HT_.out (by kernel_rfl)) (fun _ _ _ h => h) (Or.inl ⟨by rfl, ?_⟩) ?_ ?_
              rotate_left
              ·
               intro w'
               go_simp
               with_reducible rfl
              rotate_left
              ·
               simp only [Act.put, List.setIfInBounds_toArray, List.set_cons_zero, List.set_cons_succ, i64_w, i32_w]
               rfl
              refine pure_ (i := 2) (N := some 21) (v := ?_) (a' := ?_) #[true, true, true, false, false, false, false, false, false, false, false, false, false, false, false, false, false, false, false, false, false] rfl rfl (any_of HT_.out (by kernel_rfl)) (fun _ _ _ h => h) (Or.inl ⟨by rfl, ?_⟩) ?_ ?_
              rotate_left
              ·
               intro w'
               go_simp
               with_reducible rfl
              rotate_left
              ·
               simp only [Act.put, List.setIfInBounds_toArray, List.set_cons_zero, List.set_cons_succ, i64_w, i32_w]
               rfl
              refine pure_ (i := 3) (N := some 22) (v := ?_) (a' := ?_) #[true, true, true, true, false, false, false, false, false, false, false, false, false, false, false, false, false, false, false, false, false] rfl rfl (any_of HT_.out (by kernel_rfl)) (fun _ _ _ h => h) (Or.inl ⟨by rfl, ?_⟩) ?_ ?_
              rotate_left
              ·
               intro w'
               go_simp
               with_reducible rfl
              rotate_left
              ·
               simp only [Act.put, List.setIfInBounds_toArray, List.set_cons_zero, List.set_cons_succ, i64_w, i32_w]
               rfl
              refine pure_ (i := 4) (N := some 23) (v := ?_) (a' := ?_) #[true, true, true, true, true, false, false, false, false, false, false, false, false, false, false, false, false, false, false, false, false] rfl rfl (any_of HT_.out (by kernel_rfl)) (fun _ _ _ h => h) (Or.inl ⟨by rfl, ?_⟩) ?_ ?_
              rotate_left
              ·
               intro w'
               go_simp
               with_reducible rfl
              rotate_left
              ·
               simp only [Act.put, List.setIfInBounds_toArray, List.set_cons_zero, List.set_cons_succ, i64_w, i32_w]
               rfl
              refine pure_ (i := 5) (N := some 24) (v := ?_) (a' := ?_) #[true, true, true, true, true, true, false, false, false, false, false, false, false, false, false, false, false, false, false, false, false] rfl rfl (any_of HT_.out (by kernel_rfl)) (fun _ _ _ h => h) (Or.inl ⟨by rfl, ?_⟩) ?_ ?_
              rotate_left
              ·
               intro w'
               go_simp
               with_reducible rfl
              rotate_left
              ·
               simp only [Act.put, List.setIfInBounds_toArray, List.set_cons_zero, List.set_cons_succ, i64_w, i32_w]
               rfl
              refine pure_ (i := 7) (N := some 26) (v := ?_) (a' := ?_) #[true, true, true, true, true, true, false, true, false, false, false, false, false, false, false, false, false, false, false, false, false] rfl rfl (any_of HT_.out (by kernel_rfl)) (fun _ _ _ h => h) (Or.inl ⟨by rfl, ?_⟩) ?_ ?_
              rotate_left
              ·
               intro w'
               go_simp
               with_reducible rfl
              rotate_left
              ·
               simp only [Act.put, List.setIfInBounds_toArray, List.set_cons_zero, List.set_cons_succ, i64_w, i32_w]
               rfl
              refine pure_ (i := 8) (N := some 27) (v := ?_) (a' := ?_) #[true, true, true, true, true, true, false, true, true, false, false, false, false, false, false, false, false, false, false, false, false] rfl rfl (any_of HT_.out (by kernel_rfl)) (fun _ _ _ h => h) (Or.inl ⟨by rfl, ?_⟩) ?_ ?_
              rotate_left
              ·
               intro w'
               go_simp
               with_reducible rfl
              rotate_left
              ·
               simp only [Act.put, List.setIfInBounds_toArray, List.set_cons_zero, List.set_cons_succ, i64_w, i32_w]
               rfl
              refine pure_ (i := 9) (N := some 28) (v := ?_) (a' := ?_) #[true, true, true, true, true, true, false, true, true, true, false, false, false, false, false, false, false, false, false, false, false] rfl rfl (any_of HT_.out (by kernel_rfl)) (fun _ _ _ h => h) (Or.inl ⟨by rfl, ?_⟩) ?_ ?_
              rotate_left
              ·
               intro w'
               go_simp
               with_reducible rfl
              rotate_left
              ·
               simp only [Act.put, List.setIfInBounds_toArray, List.set_cons_zero, List.set_cons_succ, i64_w, i32_w]
               rfl
              refine pure_ (i := 10) (N := some 29) (v := ?_) (a' := ?_) #[true, true, true, true, true, true, false, true, true, true, true, false, false, false, false, false, false, false, false, false, false] rfl rfl (any_of HT_.out (by kernel_rfl)) (fun _ _ _ h => h) (Or.inl ⟨by rfl, ?_⟩) ?_ ?_
              rotate_left
              ·
               intro w'
               go_simp
               with_reducible rfl
              rotate_left
              ·
               simp only [Act.put, List.setIfInBounds_toArray, List.set_cons_zero, List.set_cons_succ, i64_w, i32_w]
               rfl
              refine pure_ (i := 12) (N := some 31) (v := ?_) (a' := ?_) #[true, true, true, true, true, true, false, true, true, true, true, false, true, false, false, false, false, false, false, false, false] rfl rfl (any_of HT_.out (by kernel_rfl)) (fun _ _ _ h => h) (Or.inl ⟨by rfl, ?_⟩) ?_ ?_
              rotate_left
              ·
               intro w'
               go_simp
               with_reducible rfl
              rotate_left
              ·
               simp only [Act.put, List.setIfInBounds_toArray, List.set_cons_zero, List.set_cons_succ, i64_w, i32_w]
               rfl
              refine pure_ (i := 13) (N := some 32) (v := ?_) (a' := ?_) #[true, true, true, true, true, true, false, true, true, true, true, false, true, true, false, false, false, false, false, false, false] rfl rfl (any_of HT_.out (by kernel_rfl)) (fun _ _ _ h => h) (Or.inl ⟨by rfl, ?_⟩) ?_ ?_
              rotate_left
              ·
               intro w'
               go_simp
               with_reducible rfl
              rotate_left
              ·
               simp only [Act.put, List.setIfInBounds_toArray, List.set_cons_zero, List.set_cons_succ, i64_w, i32_w]
               rfl
              refine pure_ (i := 14) (N := some 33) (v := ?_) (a' := ?_) #[true, true, true, true, true, true, false, true, true, true, true, false, true, true, true, false, false, false, false, false, false] rfl rfl (any_of HT_.out (by kernel_rfl)) (fun _ _ _ h => h) (Or.inl ⟨by rfl, ?_⟩) ?_ ?_
              rotate_left
              ·
               intro w'
               go_simp
               with_reducible rfl
              rotate_left
              ·
               simp only [Act.put, List.setIfInBounds_toArray, List.set_cons_zero, List.set_cons_succ, i64_w, i32_w]
               rfl
              refine pure_ (i := 15) (N := some 34) (v := ?_) (a' := ?_) #[true, true, true, true, true, true, false, true, true, true, true, false, true, true, true, true, false, false, false, false, false] rfl rfl (any_of HT_.out (by kernel_rfl)) (fun _ _ _ h => h) (Or.inl ⟨by rfl, ?_⟩) ?_ ?_
              rotate_left
              ·
               intro w'
               go_simp
               with_reducible rfl
              rotate_left
              ·
               simp only [Act.put, List.setIfInBounds_toArray, List.set_cons_zero, List.set_cons_succ, i64_w, i32_w]
               rfl
              refine pure_ (i := 16) (N := some 35) (v := ?_) (a' := ?_) #[true, true, true, true, true, true, false, true, true, true, true, false, true, true, true, true, true, false, false, false, false] rfl rfl (any_of HT_.out (by kernel_rfl)) (fun _ _ _ h => h) (Or.inl ⟨by rfl, ?_⟩) ?_ ?_
              rotate_left
              ·
               intro w'
               go_simp
               with_reducible rfl
              rotate_left
              ·
               simp only [Act.put, List.setIfInBounds_toArray, List.set_cons_zero, List.set_cons_succ, i64_w, i32_w]
               rfl
              refine take_ (i := 6) (N := some 25) (v := ?_) (a' := ?_) #[true, true, true, true, true, true, true, true, true, true, true, false, true, true, true, true, true, false, false, false, false] rfl rfl (take_ofW HT_.out HW_.out (by kernel_rfl)) (fun _ _ _ h => h) (Or.inl ⟨by rfl, ?_⟩) hHeld ?_ ?_
              rotate_left
              ·
               rintro w' ⟨s0, s1, s2⟩
               go_simp
               with_reducible rfl
              rotate_left
              ·
               simp only [Act.put, List.setIfInBounds_toArray, List.set_cons_zero, List.set_cons_succ, i64_w, i32_w]
               rfl
              refine take_ (i := 11) (N := some 30) (v := ?_) (a' := ?_) #[true, true, true, true, true, true, true, true, true, true, true, true, true, true, true, true, true, false, false, false, false] rfl rfl (take_ofW HT_.out HW_.out (by kernel_rfl)) (fun _ _ _ h => h) (Or.inl ⟨by rfl, ?_⟩) hHeld ?_ ?_
              rotate_left
              ·
               rintro w' ⟨s0, s1, s2⟩
               go_simp
               with_reducible rfl
              rotate_left
              ·
               simp only [Act.put, List.setIfInBounds_toArray, List.set_cons_zero, List.set_cons_succ, i64_w, i32_w]
               rfl
              refine take_ (i := 17) (N := some 36) (v := ?_) (a' := ?_) #[true, true, true, true, true, true, true, true, true, true, true, true, true, true, true, true, true, true, false, false, false] rfl rfl (take_ofW HT_.out HW_.out (by kernel_rfl)) (fun _ _ _ h => h) (Or.inl ⟨by rfl, ?_⟩) hHeld ?_ ?_
              rotate_left
              ·
               rintro w' ⟨s0, s1, s2⟩
               go_simp
               with_reducible rfl
              rotate_left
              ·
               simp only [Act.put, List.setIfInBounds_toArray, List.set_cons_zero, List.set_cons_succ, i64_w, i32_w]
               rfl
              refine one_ (i := 18) (N := some 37) #[true, true, true, true, true, true, true, true, true, true, true, true, true, true, true, true, true, true, true, false, false] rfl rfl (one_of HT_.out (by kernel_rfl)) (by decide) (fun K hK => ?_)
              refine Kd.R_lit_step (Kd.int .i64) _ 2 ?hg (N := 37) ?hd (xs := ([rd l0 (ji10), rd l0 (ji13), rd l0 (ji16)] : List Int)) (inner := [.int .i64 (rd l0 (ji10)), .int .i64 (rd l0 (ji13)), .int .i64 (rd l0 (ji16))]) (ok := fun _ => True) (okp := fun _ => True) ?hr ?hp (fun _ hk => hk) trivial (Below.refl _ _) (Nat.le_refl _) (by simp) ?_; (case hd => rfl); (case hg => rfl); (case hr => first | (go_simp; done) | (go_simp; rfl)); (case hp => exact (Reps.one (show Kd.M (Kd.int .i64) _ _ _ (rd l0 (ji10)) [.int .i64 (rd l0 (ji10))] from rfl) (Reps.one (show Kd.M (Kd.int .i64) _ _ _ (rd l0 (ji13)) [.int .i64 (rd l0 (ji13))] from rfl) (Reps.one (show Kd.M (Kd.int .i64) _ _ _ (rd l0 (ji16)) [.int .i64 (rd l0 (ji16))] from rfl) (Reps.none _ _)))))
              intro v191 w26 ho27 hb hg_ hnew_
              clear hg_ hnew_
              (first | rw [← Ny190.out] at ho27 | (simp only [Int.reduceToNat] at ho27; rw [← Ny190.out] at ho27))
              have n0_ := Aside0.mk (Kd.R_elder' (by (with_reducible repeat (first | apply rrA | apply rrN | apply rrD)); exact HO186.out) (Kd.R_base ho27) hb)
              have n1_ := Aside0.mk (Kd.R_lower (Kd.R_new' ho27 (Kd.R_lt (by (with_reducible repeat (first | apply rrA | apply rrN | apply rrD)); exact HO186.out))) (zzS (by repeat (first | (with_reducible first | exact HB.out | apply zzA | apply zzN | apply zzD) | exact HB.out))))
              have n2_ := Aside0.mk (zzT (by repeat (first | (with_reducible first | exact HB.out | apply zzA | apply zzN | apply zzD) | exact HB.out)) hb)
              clear HO186
              clear HB
              have HO186 := n0_
              have HO192 := n1_
              have HB := n2_
              clear n0_ n1_ n2_
              clear hb ho27
              obtain ⟨Ao29, co29, eo29⟩ := Kd.R_slice HO192.out
              (first | subst eo29 | (injection eo29 with f1_ f2_ f3_; have f4_ := f1_.symm; have f5_ := f3_.symm; clear f1_ f2_ f3_; subst f4_; subst f5_))
              refine hK.out _ _ ⟨((HB.out.cell (World.block_lt_of_cell? w _ hw187_0)).trans hw187_0), ((HB.out.cell (World.block_lt_of_cell? w _ hw188_0)).trans hw188_0), ((HB.out.cell (World.block_lt_of_cell? w _ hw189_0)).trans hw189_0)⟩ (fun hHeld => ?_)
              clear hK K
              refine norm_ (a' := ?_) ?_ ?_
              rotate_left
              ·
               show Act.put _ (some 37) _ = _
               simp only [Act.put, List.setIfInBounds_toArray, List.set_cons_zero, List.set_cons_succ, i64_w, i32_w]
               rfl
              refine one_ (i := 19) (N := some 38) #[true, true, true, true, true, true, true, true, true, true, true, true, true, true, true, true, true, true, true, true, false] rfl rfl (one_of HT_.out (by kernel_rfl)) (by decide) (fun K hK => ?_)
              refine Kd.R_append_rows_step (Kd.int .i64) (w0 := w) w.heap.size (by rfl) (.tmp 19) (.tmp 37) 22 2 (.int .i64 0) 8 rfl Try.underlying22 info2 rfl (by decide) (by omega) v185 y184 y190 _ _ _ (fun k_ => some k_ ≠ (.slice Ao29 y190.length co29 : Value).ownBlock) (fun _ => False) rfl rfl ?aO ?aR (fun _ _ h => h) (fun _ h => h.elim) ?aF ?aB ?aS ?aL ?_
              (case aR => repeat (first | exact (Kd.R_reads' HO192.out).2.2 | (with_reducible refine ccA ?_ _) | (with_reducible refine ccN ?_ _) | (with_reducible refine ccD ?_)))
              (case aB => exact (by repeat (first | (with_reducible first | exact HB.out | apply zzA | apply zzN | apply zzD) | exact HB.out)))
              (case aF => exact (fun k_ hk => Kd.fresh' (Kd.R_lt (by (with_reducible repeat (first | apply rrA | apply rrN | apply rrD)); exact HO192.out)) k_ hk))
              (case aO => exact (by (with_reducible repeat (first | apply rrA | apply rrN | apply rrD)); exact Kd.R_mono HO186.out (fun _ hk => hk.2)))
              (case aS => exact (zzS (by repeat (first | (with_reducible first | exact HB.out | apply zzA | apply zzN | apply zzD) | exact HB.out))))
              (case aL => have := LMc19.out; omega)
              intro v194 w28 ho hb hg hat
              rw [← Ny193.out] at ho
              have n0_ := Aside0.mk (Kd.R_after (ok := (fun _ => True)) (by (with_reducible repeat (first | apply rrA | apply rrN | apply rrD)); exact HO192.out) hg hat)
              have n1_ := Aside0.mk (hb)
              have n2_ := Aside0.mk (ho)
              clear HO192
              clear HB
              clear HO186
              have HO192 := n0_
              have HB := n1_
              have HO195 := n2_
              clear n0_ n1_ n2_
              clear ho hb hg hat
              refine hK.out _ _ ⟨((HB.out.cell (World.block_lt_of_cell? w _ hw187_0)).trans hw187_0), ((HB.out.cell (World.block_lt_of_cell? w _ hw188_0)).trans hw188_0), ((HB.out.cell (World.block_lt_of_cell? w _ hw189_0)).trans hw189_0)⟩ (fun hHeld => ?_)
              clear hK K
              refine norm_ (a' := ?_) ?_ ?_
              rotate_left
              ·
               show Act.put _ (some 38) _ = _
               simp only [Act.put, List.setIfInBounds_toArray, List.set_cons_zero, List.set_cons_succ, i64_w, i32_w]
               rfl
              refine pure_ (i := 20) (N := some 2) (v := ?_) (a' := ?_) #[true, true, true, true, true, true, true, true, true, true, true, true, true, true, true, true, true, true, true, true, true] rfl rfl (any_of HT_.out (by kernel_rfl)) (fun _ _ _ h => h) (Or.inl ⟨by rfl, ?_⟩) ?_ ?_
              rotate_left
              ·
               intro w'
               go_simp
               with_reducible rfl
              rotate_left
              ·
               simp only [Act.put, List.setIfInBounds_toArray, List.set_cons_zero, List.set_cons_succ, i64_w, i32_w]
               rfl
              refine done_ (done_of HT_.out (by kernel_rfl)) ?_
              try go_wp2
              go_ret
              exact ⟨_, by first | rfl | (simp [errW_none, errW_some] <;> rfl) | (simp only [← hji2, ← hji10, ← hji13, ← hji16]; first | rfl | (simp [errW_none, errW_some] <;> rfl)) | (simp [*, errW_none, errW_some] <;> rfl), by (with_reducible repeat (first | apply rrA | apply rrN | apply rrD)); exact Kd.R_mono HO195.out (fun _ hk => trivial), by repeat (first | (with_reducible first | exact HB.out | apply zzA | apply zzN | apply zzD) | exact HB.out)⟩
             ·
              rw [if_neg c19] at H
              exact absurd H (by simp)
            ·
             rw [if_neg c18] at H
             exact absurd H (by simp)
           ·
            rw [if_neg c17] at H
            exact absurd H (by simp)
          ·
           rw [if_neg c15] at H
           exact absurd H (by simp)
         ·
          rw [if_neg c14] at H
          exact absurd H (by simp)
        ·
         rw [if_neg c12] at H
         exact absurd H (by simp)
       ·
        rw [if_neg c11] at H
        exact absurd H (by simp)
      ·
       rw [if_neg c9] at H
       exact absurd H (by simp)
     ·
      rw [if_neg c8] at H
      exact absurd H (by simp)
    ·
     rw [if_neg c6] at H
     exact absurd H (by simp)
   ·
    rw [if_neg c5] at H
    exact absurd H (by simp)
  ·
   rw [if_neg c4] at H
   exact absurd H (by simp)
 ·
  rw [if_neg c3] at H
  exact absurd H (by simp)



















































































































































































































































































































































































































































































































































































































































































































































































































































































































































































































































end Go.Proofs.Ytalamamjodihaaa.HP
