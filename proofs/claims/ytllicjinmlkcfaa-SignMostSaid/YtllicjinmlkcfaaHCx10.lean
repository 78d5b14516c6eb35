/- What Go functions do, each as a plain Lean function with the same answers, and the proof of it, in every world: printed by the session's driver over the kit's print, with texts by hand. -/
import Derived.Test.YtllicjinmlkcfaaHCx0
import Derived.Test.YtllicjinmlkcfaaHCx2
import Derived.Test.YtllicjinmlkcfaaHCx9
namespace Go.Proofs.Ytllicjinmlkcfaa.HC
open Go.RowKit Go.Proofs.YtllicjinmlkcfaaW.PrintWords Go.Proofs.YtllicjinmlkcfaaW.PrintLast Go.Proofs.YtllicjinmlkcfaaW.PrintMore
attribute [local go_sem] max2_int min2_int max_two min_two max_three min_three max_four min_four   -- for this text's walks alone
open Go.Proofs.Ytllicjinmlkcfaa.Sp
attribute [local go_sem] Go.Proofs.Ytllicjinmlkcfaa.Sp.u64_not
set_option linter.unusedVariables false
set_option linter.unusedSimpArgs false

/-! ### thrumlaw11_few: function 46 -/
def thrumlaw11_few.l0 : Nat → List (List Bool) → Int → List (List Bool) → Int → Int → Option (Bool)
  | 0, _, _, _, _, _ => none
  | k + 1, x1, x5, x10, x11, x12 => if x12 < x11 then (if 0 ≤ x12 then (if x12 < (x10.length : Int) then (thrumlaw11_few.l0 k x1 (mx x5 ((rd_L3 x10 x12).length : Int)) x10 x11 (wrap64 (x12 + 1))) else (none)) else (none)) else (if x5 ≤ 5000 then (some (decide ((x1.length : Int) ≤ 30))) else (some false))
def thrumlaw11_few.f (k : Nat) (l0 : List Int) (l1 : List (List Bool)) : Option (Bool) := thrumlaw11_few.l0 k l1 (l0.length : Int) l1 (l1.length : Int) 0
theorem thrumlaw11_few.mono_l : ∀ k, (∀ y0 y1 y2 y3 y4, LeO (thrumlaw11_few.l0 k y0 y1 y2 y3 y4) (thrumlaw11_few.l0 (k + 1) y0 y1 y2 y3 y4))
  | 0 => fun _ _ _ _ _ r h => by simp [thrumlaw11_few.l0] at h
  | k + 1 => by
    have ih0 := thrumlaw11_few.mono_l k
    · intro y0 y1 y2 y3 y4
      unfold thrumlaw11_few.l0
      repeat' first
      | (with_reducible exact ih0 _ _ _ _ _)
      | (with_reducible exact LeO.refl _)
      | (with_reducible exact LeO.none _)
      | (with_reducible refine LeO.ite ?_ ?_)
      | (with_reducible refine LeO.bind ?_ (fun _ => ?_))
      | exact ih0 _ _ _ _ _
      | exact LeO.none _
      | refine LeO.ite ?_ ?_
      | refine LeO.bind ?_ (fun _ => ?_)
theorem thrumlaw11_few.mono : ∀ a0 a1 k, LeO (thrumlaw11_few.f k a0 a1) (thrumlaw11_few.f (k + 1) a0 a1) := by
  intro a0 a1 k
  have ih0 := thrumlaw11_few.mono_l k
  unfold thrumlaw11_few.f
  repeat' first
      | (with_reducible exact ih0 _ _ _ _ _)
      | (with_reducible exact LeO.refl _)
      | (with_reducible exact LeO.none _)
      | (with_reducible refine LeO.ite ?_ ?_)
      | (with_reducible refine LeO.bind ?_ (fun _ => ?_))
      | exact ih0 _ _ _ _ _
      | exact LeO.none _
      | refine LeO.ite ?_ ?_
      | refine LeO.bind ?_ (fun _ => ?_)
set_option maxHeartbeats 8000000 in
set_option maxRecDepth 100000 in
theorem thrumlaw11_few.calls (k : Nat) (A0 : Option Addr) (c0 : Nat) (l0 : List Int) (A1 : Option Addr) (c1 : Nat) (l1 : List (List Bool)) (r : Bool) (w : World) (hr0 : Kd.C (Kd.int .i64) w A0 l0.length l0) (hc0 : l0.length ≤ c0) (hr1 : Kd.C (Kd.slice 4 Kd.bool) w A1 l1.length l1) (hc1 : l1.length ≤ c1) (h : thrumlaw11_few.f k l0 l1 = some r) :
    Calls Try.prog 46 #[.slice A0 l0.length c0, .slice A1 l1.length c1] w fun e w' => e = .returned (.bool r) ∧ Below w.heap.size w w' := by
  have HR0 := Aside0.mk hr0
  have HC0 := Aside0.mk hc0
  clear hr0 hc0
  have HR1 := Aside0.mk hr1
  have HC1 := Aside0.mk hc1
  clear hr1 hc1
  have HB := Aside0.mk (Below.refl w.heap.size w)
  have H : (thrumlaw11_few.l0 k l1 (l0.length : Int) l1 (l1.length : Int) 0) = some r := h
  clear h
  have H' := Aside0.mk H
  clear H
  go_enter Try.func46, Try.ntmps46
  go_wp2
  go_loopg [5, 12] k (fun kq v5 v12 w' => ∃ (x5_1 : Int) (x12_1 : Int), v5 = .int .i64 x5_1 ∧ v12 = .int .i64 x12_1 ∧ Aside0 (thrumlaw11_few.l0 kq l1 x5_1 l1 (l1.length : Int) x12_1 = some r) ∧ Aside0 (kq ≤ k) ∧ Aside0 (Below w.heap.size w w'))
  case atStart => exact ⟨((l0.length : Int)), (0), (by first | rfl | (simp; done) | (simp [*]; done)), (by first | rfl | (simp; done) | (simp [*]; done)), H', ⟨Nat.le_refl _⟩, ⟨by repeat (first | (with_reducible first | exact HB.out | apply below_alloc | apply pw_below_drewN | apply below_drew1) | exact HB.out)⟩⟩
  case round =>
    clear H'
    try clear c1
    try clear p2
    obtain ⟨x5_1, x12_1, rfl, rfl, HA, HK1, HB⟩ := hrel
    cases gk with
    | zero => exact absurd HA.out (by simp [thrumlaw11_few.l0])
    | succ k1 =>
      have H := HA.out
      clear HA
      simp only [thrumlaw11_few.l0] at H
      by_cases c3 : x12_1 < (l1.length : Int)
      · rw [if_pos c3] at H
        have c3b0 : decide (x12_1 < (l1.length : Int)) = true := decide_eq_true c3
        clear c3
        by_cases c4 : 0 ≤ x12_1
        · rw [if_pos c4] at H
          have c4b0 : decide (0 ≤ x12_1) = true := decide_eq_true c4
          clear c4
          by_cases c5 : x12_1 < (l1.length : Int)
          · rw [if_pos c5] at H
            have c5b0 : decide (x12_1 < (l1.length : Int)) = true := decide_eq_true c5
            clear c5
            obtain ⟨ji6, hji6⟩ : ∃ j_ : Int, (mx x5_1 ((rd_L3 l1 x12_1).length : Int)) = j_ := ⟨_, rfl⟩
            replace H : (thrumlaw11_few.l0 k1 l1 ji6 l1 (l1.length : Int) (wrap64 (x12_1 + 1))) = some r := by first | (rw [hji6] at H; exact H) | (simp only [hji6] at H ⊢; exact H)
            have hji6_ : (if x5_1 < ((rd_L3 l1 x12_1).length : Int) then ((rd_L3 l1 x12_1).length : Int) else x5_1) = ji6 := hji6
            have H' := Aside0.mk H
            clear H
            have p159 : 0 ≤ (x12_1 : Int) := of_decide_eq_true (by first | (with_reducible assumption) | assumption)
            have q159 : x12_1 < (l1.length : Int) := of_decide_eq_true (by first | (with_reducible assumption) | assumption)
            obtain ⟨ad159, A159_0, c159_0, e159, hx159_0, hl159_0, hi159_0⟩ := at_L3 HR1.out x12_1 p159 q159
            cases e159
            replace hx159_0 := (HB.out.cell (World.block_lt_of_cell? w _ hx159_0)).trans hx159_0
            have HR159_0 := Aside0.mk hi159_0
            have HC159_0 := Aside0.mk hl159_0
            clear hi159_0 hl159_0
            replace p159 := eq_true p159
            replace q159 := eq_true q159
            go_wp2
            go_roundg k1
            case measure => have := HK1.out; omega
            case rel => exact ⟨(ji6), (wrap64 (x12_1 + 1)), (by first | rfl | (simp; done) | (simp only [← hji6] <;> (first | rfl | simp)) | (simp [*]; done)), (by first | rfl | (simp; done) | (simp [*]; done)), H', ⟨by have := HK1.out; omega⟩, ⟨by repeat (first | (with_reducible first | exact HB.out | apply below_alloc | apply pw_below_drewN | apply below_drew1) | exact HB.out)⟩⟩
          · rw [if_neg c5] at H
            exact absurd H (by simp)
        · rw [if_neg c4] at H
          exact absurd H (by simp)
      · rw [if_neg c3] at H
        have c3b0 : decide (x12_1 < (l1.length : Int)) = false := decide_eq_false c3
        clear c3
        by_cases c7 : x5_1 ≤ 5000
        · rw [if_pos c7] at H
          have c7b0 : decide (x5_1 ≤ 5000) = true := decide_eq_true c7
          clear c7
          obtain rfl := Option.some.inj H
          go_wp2
          go_ret
          exact ⟨by first | rfl | (simp [errW_none, errW_some] <;> rfl) | (simp [*, errW_none, errW_some] <;> rfl), by repeat (first | (with_reducible first | exact HB.out | apply below_alloc | apply pw_below_drewN | apply below_drew1) | exact HB.out)⟩
        · rw [if_neg c7] at H
          have c7b0 : decide (x5_1 ≤ 5000) = false := decide_eq_false c7
          clear c7
          obtain rfl := Option.some.inj H
          go_wp2
          go_ret
          exact ⟨by first | rfl | (simp [errW_none, errW_some] <;> rfl) | (simp [*, errW_none, errW_some] <;> rfl), by repeat (first | (with_reducible first | exact HB.out | apply below_alloc | apply pw_below_drewN | apply below_drew1) | exact HB.out)⟩

/-! ### thrumlaw11_SignTurned: function 10 -/
mutual
def thrumlaw11_SignTurned.l0 : Nat → List Int → Bool → List Int → List Int → Int → Int → Int → Int → List Int → List Int → Int → Int → List Int → List Bool → Option (Bool)
 | 0, _, _, _, _, _, _, _, _, _, _, _, _, _, _ => none
 | k + 1, x0, x3, x6, x32, x33, x34, x180000, x180001, x180002, x180003, x180004, x180005, x180006, x180007 => if x34 < x33 then (if 0 ≤ x34 then (if x34 < (x32.length : Int) then (if x6.length < 17592186044416 then (thrumlaw11_SignTurned.l0 k x0 x3 (x6 ++ [wrap64 (-(rd x32 x34))]) x32 x33 (wrap64 (x34 + 1)) x180000 x180001 x180002 x180003 x180004 x180005 x180006 x180007) else (none)) else (none)) else (none)) else ((sign_Press.f x6).bind fun bt184 => ((sign_Loosen.f x180000 x180001 x180002 x180003 x180004 x180005 x180006 x180007).bind fun bt202 => ((sign_Press.f bt202.1).bind fun bt206 => (if bt184.2.2.2.2.2.2.2.2 = 0 then (if bt202.2 = 0 then (if bt206.2.2.2.2.2.2.2.2 = 0 then (if bt184.2.2.2.2.1 = x180004 then (if (bt184.2.2.2.2.2.2.2.1.length : Int) = (x0.length : Int) then (if (x180007.length : Int) = (x0.length : Int) then (if (bt206.2.2.2.2.2.2.2.1.length : Int) = (x0.length : Int) then (thrumlaw11_SignTurned.j1 k x0 x3 (bt206.2.2.2.2.1 != x180004) x180000 x180001 x180002 x180003 x180004 x180005 x180006 x180007 bt184.1 bt184.2.1 bt184.2.2.1 bt184.2.2.2.1 bt184.2.2.2.2.1 bt184.2.2.2.2.2.1 bt184.2.2.2.2.2.2.1 bt184.2.2.2.2.2.2.2.1 bt206.1 bt206.2.1 bt206.2.2.1 bt206.2.2.2.1 bt206.2.2.2.2.1 bt206.2.2.2.2.2.1 bt206.2.2.2.2.2.2.1 bt206.2.2.2.2.2.2.2.1) else (thrumlaw11_SignTurned.j1 k x0 x3 true x180000 x180001 x180002 x180003 x180004 x180005 x180006 x180007 bt184.1 bt184.2.1 bt184.2.2.1 bt184.2.2.2.1 bt184.2.2.2.2.1 bt184.2.2.2.2.2.1 bt184.2.2.2.2.2.2.1 bt184.2.2.2.2.2.2.2.1 bt206.1 bt206.2.1 bt206.2.2.1 bt206.2.2.2.1 bt206.2.2.2.2.1 bt206.2.2.2.2.2.1 bt206.2.2.2.2.2.2.1 bt206.2.2.2.2.2.2.2.1)) else (thrumlaw11_SignTurned.j1 k x0 x3 true x180000 x180001 x180002 x180003 x180004 x180005 x180006 x180007 bt184.1 bt184.2.1 bt184.2.2.1 bt184.2.2.2.1 bt184.2.2.2.2.1 bt184.2.2.2.2.2.1 bt184.2.2.2.2.2.2.1 bt184.2.2.2.2.2.2.2.1 bt206.1 bt206.2.1 bt206.2.2.1 bt206.2.2.2.1 bt206.2.2.2.2.1 bt206.2.2.2.2.2.1 bt206.2.2.2.2.2.2.1 bt206.2.2.2.2.2.2.2.1)) else (thrumlaw11_SignTurned.j1 k x0 x3 true x180000 x180001 x180002 x180003 x180004 x180005 x180006 x180007 bt184.1 bt184.2.1 bt184.2.2.1 bt184.2.2.2.1 bt184.2.2.2.2.1 bt184.2.2.2.2.2.1 bt184.2.2.2.2.2.2.1 bt184.2.2.2.2.2.2.2.1 bt206.1 bt206.2.1 bt206.2.2.1 bt206.2.2.2.1 bt206.2.2.2.2.1 bt206.2.2.2.2.2.1 bt206.2.2.2.2.2.2.1 bt206.2.2.2.2.2.2.2.1)) else (thrumlaw11_SignTurned.j1 k x0 x3 true x180000 x180001 x180002 x180003 x180004 x180005 x180006 x180007 bt184.1 bt184.2.1 bt184.2.2.1 bt184.2.2.2.1 bt184.2.2.2.2.1 bt184.2.2.2.2.2.1 bt184.2.2.2.2.2.2.1 bt184.2.2.2.2.2.2.2.1 bt206.1 bt206.2.1 bt206.2.2.1 bt206.2.2.2.1 bt206.2.2.2.2.1 bt206.2.2.2.2.2.1 bt206.2.2.2.2.2.2.1 bt206.2.2.2.2.2.2.2.1)) else (thrumlaw11_SignTurned.j1 k x0 x3 true x180000 x180001 x180002 x180003 x180004 x180005 x180006 x180007 bt184.1 bt184.2.1 bt184.2.2.1 bt184.2.2.2.1 bt184.2.2.2.2.1 bt184.2.2.2.2.2.1 bt184.2.2.2.2.2.2.1 bt184.2.2.2.2.2.2.2.1 bt206.1 bt206.2.1 bt206.2.2.1 bt206.2.2.2.1 bt206.2.2.2.2.1 bt206.2.2.2.2.2.1 bt206.2.2.2.2.2.2.1 bt206.2.2.2.2.2.2.2.1)) else (thrumlaw11_SignTurned.j1 k x0 x3 true x180000 x180001 x180002 x180003 x180004 x180005 x180006 x180007 bt184.1 bt184.2.1 bt184.2.2.1 bt184.2.2.2.1 bt184.2.2.2.2.1 bt184.2.2.2.2.2.1 bt184.2.2.2.2.2.2.1 bt184.2.2.2.2.2.2.2.1 bt206.1 bt206.2.1 bt206.2.2.1 bt206.2.2.2.1 bt206.2.2.2.2.1 bt206.2.2.2.2.2.1 bt206.2.2.2.2.2.2.1 bt206.2.2.2.2.2.2.2.1)) else (thrumlaw11_SignTurned.j1 k x0 x3 true x180000 x180001 x180002 x180003 x180004 x180005 x180006 x180007 bt184.1 bt184.2.1 bt184.2.2.1 bt184.2.2.2.1 bt184.2.2.2.2.1 bt184.2.2.2.2.2.1 bt184.2.2.2.2.2.2.1 bt184.2.2.2.2.2.2.2.1 bt206.1 bt206.2.1 bt206.2.2.1 bt206.2.2.2.1 bt206.2.2.2.2.1 bt206.2.2.2.2.2.1 bt206.2.2.2.2.2.2.1 bt206.2.2.2.2.2.2.2.1)))))
def thrumlaw11_SignTurned.j1 : Nat → List Int → Bool → Bool → Int → Int → List Int → List Int → Int → Int → List Int → List Bool → Int → Int → List Int → List Int → Int → Int → List Int → List Bool → Int → Int → List Int → List Int → Int → Int → List Int → List Bool → Option (Bool)
 | 0, _, _, _, _, _, _, _, _, _, _, _, _, _, _, _, _, _, _, _, _, _, _, _, _, _, _, _ => none
 | k + 1, x0, x3, x106, x180000, x180001, x180002, x180003, x180004, x180005, x180006, x180007, x202000, x202001, x202002, x202003, x202004, x202005, x202006, x202007, x224000, x224001, x224002, x224003, x224004, x224005, x224006, x224007 => if x106 = true then (some false) else (thrumlaw11_SignTurned.l1 k x3 x0 (x0.length : Int) 0 x180000 x180001 x180002 x180003 x180004 x180005 x180006 x180007 x202000 x202001 x202002 x202003 x202004 x202005 x202006 x202007 x224000 x224001 x224002 x224003 x224004 x224005 x224006 x224007)
def thrumlaw11_SignTurned.l1 : Nat → Bool → List Int → Int → Int → Int → Int → List Int → List Int → Int → Int → List Int → List Bool → Int → Int → List Int → List Int → Int → Int → List Int → List Bool → Int → Int → List Int → List Int → Int → Int → List Int → List Bool → Option (Bool)
 | 0, _, _, _, _, _, _, _, _, _, _, _, _, _, _, _, _, _, _, _, _, _, _, _, _, _, _, _, _ => none
 | k + 1, x3, x107, x108, x109, x180000, x180001, x180002, x180003, x180004, x180005, x180006, x180007, x202000, x202001, x202002, x202003, x202004, x202005, x202006, x202007, x224000, x224001, x224002, x224003, x224004, x224005, x224006, x224007 => if x109 < x108 then (if 0 ≤ x109 then (if x109 < (x107.length : Int) then (if (rd x107 x109) = 0 then (if x180004 > 0 then (if x109 < (x224007.length : Int) then (if x109 < (x180007.length : Int) then (if ((rdOf false x224007 x109) != (rdOf false x180007 x109)) = true then (some false) else (thrumlaw11_SignTurned.l1 k x3 x107 x108 (wrap64 (x109 + 1)) x180000 x180001 x180002 x180003 x180004 x180005 x180006 x180007 x202000 x202001 x202002 x202003 x202004 x202005 x202006 x202007 x224000 x224001 x224002 x224003 x224004 x224005 x224006 x224007)) else (none)) else (none)) else (thrumlaw11_SignTurned.l1 k x3 x107 x108 (wrap64 (x109 + 1)) x180000 x180001 x180002 x180003 x180004 x180005 x180006 x180007 x202000 x202001 x202002 x202003 x202004 x202005 x202006 x202007 x224000 x224001 x224002 x224003 x224004 x224005 x224006 x224007)) else (if x109 < (x202007.length : Int) then (if x109 < (x180007.length : Int) then (if ((rdOf false x202007 x109) == (rdOf false x180007 x109)) = true then (some false) else (if x180004 > 0 then (if x109 < (x224007.length : Int) then (if ((rdOf false x224007 x109) != (rdOf false x180007 x109)) = true then (some false) else (thrumlaw11_SignTurned.l1 k x3 x107 x108 (wrap64 (x109 + 1)) x180000 x180001 x180002 x180003 x180004 x180005 x180006 x180007 x202000 x202001 x202002 x202003 x202004 x202005 x202006 x202007 x224000 x224001 x224002 x224003 x224004 x224005 x224006 x224007)) else (none)) else (thrumlaw11_SignTurned.l1 k x3 x107 x108 (wrap64 (x109 + 1)) x180000 x180001 x180002 x180003 x180004 x180005 x180006 x180007 x202000 x202001 x202002 x202003 x202004 x202005 x202006 x202007 x224000 x224001 x224002 x224003 x224004 x224005 x224006 x224007))) else (none)) else (none))) else (none)) else (none)) else (some x3)
end
def thrumlaw11_SignTurned.f (k : Nat) (l0 : List Int) : Option (Bool) := (thrumlaw11_live.f).bind fun t160 => (if t160 = true then ((thrumlaw11_few.f k l0 ([] : List (List Bool))).bind fun t161 => (if t161 = true then ((sign_Press.f l0).bind fun bt162 => (if bt162.2.2.2.2.2.2.2.2 = 0 then (thrumlaw11_SignTurned.l0 k l0 t160 ([] : List Int) l0 (l0.length : Int) 0 bt162.1 bt162.2.1 bt162.2.2.1 bt162.2.2.2.1 bt162.2.2.2.2.1 bt162.2.2.2.2.2.1 bt162.2.2.2.2.2.2.1 bt162.2.2.2.2.2.2.2.1) else (some t160))) else (some t160))) else (some false))
theorem thrumlaw11_SignTurned.mono_l : ∀ k, (∀ y0 y1 y2 y3 y4 y5 y6 y7 y8 y9 y10 y11 y12 y13, LeO (thrumlaw11_SignTurned.l0 k y0 y1 y2 y3 y4 y5 y6 y7 y8 y9 y10 y11 y12 y13) (thrumlaw11_SignTurned.l0 (k + 1) y0 y1 y2 y3 y4 y5 y6 y7 y8 y9 y10 y11 y12 y13)) ∧ (∀ y0 y1 y2 y3 y4 y5 y6 y7 y8 y9 y10 y11 y12 y13 y14 y15 y16 y17 y18 y19 y20 y21 y22 y23 y24 y25 y26, LeO (thrumlaw11_SignTurned.j1 k y0 y1 y2 y3 y4 y5 y6 y7 y8 y9 y10 y11 y12 y13 y14 y15 y16 y17 y18 y19 y20 y21 y22 y23 y24 y25 y26) (thrumlaw11_SignTurned.j1 (k + 1) y0 y1 y2 y3 y4 y5 y6 y7 y8 y9 y10 y11 y12 y13 y14 y15 y16 y17 y18 y19 y20 y21 y22 y23 y24 y25 y26)) ∧ (∀ y0 y1 y2 y3 y4 y5 y6 y7 y8 y9 y10 y11 y12 y13 y14 y15 y16 y17 y18 y19 y20 y21 y22 y23 y24 y25 y26 y27, LeO (thrumlaw11_SignTurned.l1 k y0 y1 y2 y3 y4 y5 y6 y7 y8 y9 y10 y11 y12 y13 y14 y15 y16 y17 y18 y19 y20 y21 y22 y23 y24 y25 y26 y27) (thrumlaw11_SignTurned.l1 (k + 1) y0 y1 y2 y3 y4 y5 y6 y7 y8 y9 y10 y11 y12 y13 y14 y15 y16 y17 y18 y19 y20 y21 y22 y23 y24 y25 y26 y27))
 | 0 => ⟨fun _ _ _ _ _ _ _ _ _ _ _ _ _ _ r h => by simp [thrumlaw11_SignTurned.l0] at h, fun _ _ _ _ _ _ _ _ _ _ _ _ _ _ _ _ _ _ _ _ _ _ _ _ _ _ _ r h => by simp [thrumlaw11_SignTurned.j1] at h, fun _ _ _ _ _ _ _ _ _ _ _ _ _ _ _ _ _ _ _ _ _ _ _ _ _ _ _ _ r h => by simp [thrumlaw11_SignTurned.l1] at h⟩
 | k + 1 => by
  obtain ⟨ih0, ih1, ih2⟩ := thrumlaw11_SignTurned.mono_l k
  refine ⟨?_, ?_, ?_⟩
  ·
   intro y0 y1 y2 y3 y4 y5 y6 y7 y8 y9 y10 y11 y12 y13
   unfold thrumlaw11_SignTurned.l0
   repeat' first
   | (with_reducible exact ih0 _ _ _ _ _ _ _ _ _ _ _ _ _ _)
   | (with_reducible exact ih1 _ _ _ _ _ _ _ _ _ _ _ _ _ _ _ _ _ _ _ _ _ _ _ _ _ _ _)
   | (with_reducible exact ih2 _ _ _ _ _ _ _ _ _ _ _ _ _ _ _ _ _ _ _ _ _ _ _ _ _ _ _ _)
   | (with_reducible exact thrumlaw11_few.mono _ _ _)
   | (with_reducible exact LeO.refl _)
   | (with_reducible exact LeO.none _)
   | (with_reducible refine LeO.ite ?_ ?_)
   | (with_reducible refine LeO.bind ?_ (fun _ => ?_))
   | exact ih0 _ _ _ _ _ _ _ _ _ _ _ _ _ _
   | exact ih1 _ _ _ _ _ _ _ _ _ _ _ _ _ _ _ _ _ _ _ _ _ _ _ _ _ _ _
   | exact ih2 _ _ _ _ _ _ _ _ _ _ _ _ _ _ _ _ _ _ _ _ _ _ _ _ _ _ _ _
   | exact thrumlaw11_few.mono _ _ _
   | exact LeO.none _
   | refine LeO.ite ?_ ?_
   | refine LeO.bind ?_ (fun _ => ?_)
  ·
   intro y0 y1 y2 y3 y4 y5 y6 y7 y8 y9 y10 y11 y12 y13 y14 y15 y16 y17 y18 y19 y20 y21 y22 y23 y24 y25 y26
   unfold thrumlaw11_SignTurned.j1
   repeat' first
   | (with_reducible exact ih0 _ _ _ _ _ _ _ _ _ _ _ _ _ _)
   | (with_reducible exact ih1 _ _ _ _ _ _ _ _ _ _ _ _ _ _ _ _ _ _ _ _ _ _ _ _ _ _ _)
   | (with_reducible exact ih2 _ _ _ _ _ _ _ _ _ _ _ _ _ _ _ _ _ _ _ _ _ _ _ _ _ _ _ _)
   | (with_reducible exact thrumlaw11_few.mono _ _ _)
   | (with_reducible exact LeO.refl _)
   | (with_reducible exact LeO.none _)
   | (with_reducible refine LeO.ite ?_ ?_)
   | (with_reducible refine LeO.bind ?_ (fun _ => ?_))
   | exact ih0 _ _ _ _ _ _ _ _ _ _ _ _ _ _
   | exact ih1 _ _ _ _ _ _ _ _ _ _ _ _ _ _ _ _ _ _ _ _ _ _ _ _ _ _ _
   | exact ih2 _ _ _ _ _ _ _ _ _ _ _ _ _ _ _ _ _ _ _ _ _ _ _ _ _ _ _ _
   | exact thrumlaw11_few.mono _ _ _
   | exact LeO.none _
   | refine LeO.ite ?_ ?_
   | refine LeO.bind ?_ (fun _ => ?_)
  ·
   intro y0 y1 y2 y3 y4 y5 y6 y7 y8 y9 y10 y11 y12 y13 y14 y15 y16 y17 y18 y19 y20 y21 y22 y23 y24 y25 y26 y27
   unfold thrumlaw11_SignTurned.l1
   repeat' first
   | (with_reducible exact ih0 _ _ _ _ _ _ _ _ _ _ _ _ _ _)
   | (with_reducible exact ih1 _ _ _ _ _ _ _ _ _ _ _ _ _ _ _ _ _ _ _ _ _ _ _ _ _ _ _)
   | (with_reducible exact ih2 _ _ _ _ _ _ _ _ _ _ _ _ _ _ _ _ _ _ _ _ _ _ _ _ _ _ _ _)
   | (with_reducible exact thrumlaw11_few.mono _ _ _)
   | (with_reducible exact LeO.refl _)
   | (with_reducible exact LeO.none _)
   | (with_reducible refine LeO.ite ?_ ?_)
   | (with_reducible refine LeO.bind ?_ (fun _ => ?_))
   | exact ih0 _ _ _ _ _ _ _ _ _ _ _ _ _ _
   | exact ih1 _ _ _ _ _ _ _ _ _ _ _ _ _ _ _ _ _ _ _ _ _ _ _ _ _ _ _
   | exact ih2 _ _ _ _ _ _ _ _ _ _ _ _ _ _ _ _ _ _ _ _ _ _ _ _ _ _ _ _
   | exact thrumlaw11_few.mono _ _ _
   | exact LeO.none _
   | refine LeO.ite ?_ ?_
   | refine LeO.bind ?_ (fun _ => ?_)
theorem thrumlaw11_SignTurned.mono : ∀ a0 k, LeO (thrumlaw11_SignTurned.f k a0) (thrumlaw11_SignTurned.f (k + 1) a0) := by
 intro a0 k
 obtain ⟨ih0, ih1, ih2⟩ := thrumlaw11_SignTurned.mono_l k
 unfold thrumlaw11_SignTurned.f
 repeat' first
   | (with_reducible exact ih0 _ _ _ _ _ _ _ _ _ _ _ _ _ _)
   | (with_reducible exact ih1 _ _ _ _ _ _ _ _ _ _ _ _ _ _ _ _ _ _ _ _ _ _ _ _ _ _ _)
   | (with_reducible exact ih2 _ _ _ _ _ _ _ _ _ _ _ _ _ _ _ _ _ _ _ _ _ _ _ _ _ _ _ _)
   | (with_reducible exact thrumlaw11_few.mono _ _ _)
   | (with_reducible exact LeO.refl _)
   | (with_reducible exact LeO.none _)
   | (with_reducible refine LeO.ite ?_ ?_)
   | (with_reducible refine LeO.bind ?_ (fun _ => ?_))
   | exact ih0 _ _ _ _ _ _ _ _ _ _ _ _ _ _
   | exact ih1 _ _ _ _ _ _ _ _ _ _ _ _ _ _ _ _ _ _ _ _ _ _ _ _ _ _ _
   | exact ih2 _ _ _ _ _ _ _ _ _ _ _ _ _ _ _ _ _ _ _ _ _ _ _ _ _ _ _ _
   | exact thrumlaw11_few.mono _ _ _
   | exact LeO.none _
   | refine LeO.ite ?_ ?_
   | refine LeO.bind ?_ (fun _ => ?_)
theorem thrumlaw11_SignTurned.F8 {α : Type} {d : Kd α} {e : Nat} {W : World} {base : Nat} {ok : Nat → Prop} {v : Value} {xs : List α} {g : Nat} (h : d.R e W base (fun k => ok k ∧ k ≠ g) v xs) (x0 x1 x2 x3 x4 x5 x6 x7 : Value) : d.R e ((((((((W.setCell ⟨g, 0, none⟩ x0).setCell ⟨g, 1, none⟩ x1).setCell ⟨g, 2, none⟩ x2).setCell ⟨g, 3, none⟩ x3).setCell ⟨g, 4, none⟩ x4).setCell ⟨g, 5, none⟩ x5).setCell ⟨g, 6, none⟩ x6).setCell ⟨g, 7, none⟩ x7) base (fun k => ok k ∧ k ≠ g) v xs :=
  Kd.R_far (p := ⟨g, 7, none⟩) (Kd.R_far (p := ⟨g, 6, none⟩) (Kd.R_far (p := ⟨g, 5, none⟩) (Kd.R_far (p := ⟨g, 4, none⟩) (Kd.R_far (p := ⟨g, 3, none⟩) (Kd.R_far (p := ⟨g, 2, none⟩) (Kd.R_far (p := ⟨g, 1, none⟩) (Kd.R_far (p := ⟨g, 0, none⟩) h (fun _ hk => hk.2) x0) (fun _ hk => hk.2) x1) (fun _ hk => hk.2) x2) (fun _ hk => hk.2) x3) (fun _ hk => hk.2) x4) (fun _ hk => hk.2) x5) (fun _ hk => hk.2) x6) (fun _ hk => hk.2) x7

end Go.Proofs.Ytllicjinmlkcfaa.HC
