/- What Go functions do, each as a plain Lean function with the same answers, and the proof of it, in every world: printed by the session's driver over the kit's print, with texts by hand. -/
import Derived.Test.YtalamamjodihaaaHOx0
import Derived.Test.YtalamamjodihaaaHOx1
import Derived.Test.YtalamamjodihaaaHOx3
namespace Go.Proofs.Ytalamamjodihaaa.HO
open Go.RowKit Go.Proofs.YtalamamjodihaaaW.PrintWords Go.Proofs.YtalamamjodihaaaW.PrintLast Go.Proofs.YtalamamjodihaaaW.PrintMore
attribute [local go_sem] max2_int min2_int max_two min_two max_three min_three max_four min_four   -- for this text's walks alone
open Go.Proofs.Ytalamamjodihaaa.Sp
attribute [local go_sem] Go.Proofs.Ytalamamjodihaaa.Sp.u64_not
set_option linter.unusedVariables false
set_option linter.unusedSimpArgs false

/-! ### thrumref16_SplitP: function 18 -/
mutual
def thrumref16_SplitP.j0 : Nat → Int → List Int → Bool → Option ((List (List Int)) × List Int × Int)
 | 0, _, _, _ => none
 | k + 1, x0, x1, x17 => if x17 = true then (some (([] : List (List Int)), ([] : List Int), 1)) else (thrumref16_SplitP.l0 k x0 x1 1)
def thrumref16_SplitP.l0 : Nat → Int → List Int → Int → Option ((List (List Int)) × List Int × Int)
 | 0, _, _, _ => none
 | k + 1, x0, x1, x7 => if x7 ≤ 16 then ((thrumref16_Dim.f x7 x0).bind fun bt183 => (if bt183.1 = (x1.length : Int) then (thrumref16_SplitP.l1 k x0 x1 x7 ([] : List (List Int)) x0 0) else (thrumref16_SplitP.l0 k x0 x1 (wrap64 (x7 + 1))))) else (some (([] : List (List Int)), ([] : List Int), 4))
def thrumref16_SplitP.l1 : Nat → Int → List Int → Int → List (List Int) → Int → Int → Option ((List (List Int)) × List Int × Int)
 | 0, _, _, _, _, _, _ => none
 | k + 1, x0, x1, x7, x10, x32, x33 => if x33 < x32 then (if 0 ≤ (wrap64 (x33 * (wrap64 (x7 + 1)))) then (if (wrap64 (x33 * (wrap64 (x7 + 1)))) ≤ (wrap64 ((wrap64 (x33 + 1)) * (wrap64 (x7 + 1)))) then (if (wrap64 ((wrap64 (x33 + 1)) * (wrap64 (x7 + 1)))) ≤ (x1.length : Int) then (if ([] : List Int).length + ((x1.take ((wrap64 ((wrap64 (x33 + 1)) * (wrap64 (x7 + 1)))) : Int).toNat).drop ((wrap64 (x33 * (wrap64 (x7 + 1)))) : Int).toNat).length < 17592186044416 then (if x10.length < 5864062014805 then (thrumref16_SplitP.l1 k x0 x1 x7 (x10 ++ [(([] : List Int) ++ ((x1.take ((wrap64 ((wrap64 (x33 + 1)) * (wrap64 (x7 + 1)))) : Int).toNat).drop ((wrap64 (x33 * (wrap64 (x7 + 1)))) : Int).toNat))]) x32 (wrap64 (x33 + 1))) else (none)) else (none)) else (none)) else (none)) else (none)) else (if 0 ≤ (wrap64 (x0 * (wrap64 (x7 + 1)))) then (if (wrap64 (x0 * (wrap64 (x7 + 1)))) ≤ (x1.length : Int) then (if ([] : List Int).length + (x1.drop ((wrap64 (x0 * (wrap64 (x7 + 1)))) : Int).toNat).length < 17592186044416 then (some (x10, (([] : List Int) ++ (x1.drop ((wrap64 (x0 * (wrap64 (x7 + 1)))) : Int).toNat)), 0)) else (none)) else (none)) else (none))
end
def thrumref16_SplitP.f (k : Nat) (a0 : Int) (l1 : List Int) : Option ((List (List Int)) × List Int × Int) := if a0 < 1 then (thrumref16_SplitP.j0 k a0 l1 true) else (thrumref16_SplitP.j0 k a0 l1 (decide (a0 > 8)))
theorem thrumref16_SplitP.mono_l : ∀ k, (∀ y0 y1 y2, LeO (thrumref16_SplitP.j0 k y0 y1 y2) (thrumref16_SplitP.j0 (k + 1) y0 y1 y2)) ∧ (∀ y0 y1 y2, LeO (thrumref16_SplitP.l0 k y0 y1 y2) (thrumref16_SplitP.l0 (k + 1) y0 y1 y2)) ∧ (∀ y0 y1 y2 y3 y4 y5, LeO (thrumref16_SplitP.l1 k y0 y1 y2 y3 y4 y5) (thrumref16_SplitP.l1 (k + 1) y0 y1 y2 y3 y4 y5))
 | 0 => ⟨fun _ _ _ r h => by simp [thrumref16_SplitP.j0] at h, fun _ _ _ r h => by simp [thrumref16_SplitP.l0] at h, fun _ _ _ _ _ _ r h => by simp [thrumref16_SplitP.l1] at h⟩
 | k + 1 => by
  obtain ⟨ih0, ih1, ih2⟩ := thrumref16_SplitP.mono_l k
  refine ⟨?_, ?_, ?_⟩
  ·
   intro y0 y1 y2
   unfold thrumref16_SplitP.j0
   repeat' first
   | (with_reducible exact ih0 _ _ _)
   | (with_reducible exact ih1 _ _ _)
   | (with_reducible exact ih2 _ _ _ _ _ _)
   | (with_reducible exact LeO.refl _)
   | (with_reducible exact LeO.none _)
   | (with_reducible refine LeO.ite ?_ ?_)
   | (with_reducible refine LeO.bind ?_ (fun _ => ?_))
   | exact ih0 _ _ _
   | exact ih1 _ _ _
   | exact ih2 _ _ _ _ _ _
   | exact LeO.none _
   | refine LeO.ite ?_ ?_
   | refine LeO.bind ?_ (fun _ => ?_)
  ·
   intro y0 y1 y2
   unfold thrumref16_SplitP.l0
   repeat' first
   | (with_reducible exact ih0 _ _ _)
   | (with_reducible exact ih1 _ _ _)
   | (with_reducible exact ih2 _ _ _ _ _ _)
   | (with_reducible exact LeO.refl _)
   | (with_reducible exact LeO.none _)
   | (with_reducible refine LeO.ite ?_ ?_)
   | (with_reducible refine LeO.bind ?_ (fun _ => ?_))
   | exact ih0 _ _ _
   | exact ih1 _ _ _
   | exact ih2 _ _ _ _ _ _
   | exact LeO.none _
   | refine LeO.ite ?_ ?_
   | refine LeO.bind ?_ (fun _ => ?_)
  ·
   intro y0 y1 y2 y3 y4 y5
   unfold thrumref16_SplitP.l1
   repeat' first
   | (with_reducible exact ih0 _ _ _)
   | (with_reducible exact ih1 _ _ _)
   | (with_reducible exact ih2 _ _ _ _ _ _)
   | (with_reducible exact LeO.refl _)
   | (with_reducible exact LeO.none _)
   | (with_reducible refine LeO.ite ?_ ?_)
   | (with_reducible refine LeO.bind ?_ (fun _ => ?_))
   | exact ih0 _ _ _
   | exact ih1 _ _ _
   | exact ih2 _ _ _ _ _ _
   | exact LeO.none _
   | refine LeO.ite ?_ ?_
   | refine LeO.bind ?_ (fun _ => ?_)
theorem thrumref16_SplitP.mono : ∀ a0 a1 k, LeO (thrumref16_SplitP.f k a0 a1) (thrumref16_SplitP.f (k + 1) a0 a1) := by
 intro a0 a1 k
 obtain ⟨ih0, ih1, ih2⟩ := thrumref16_SplitP.mono_l k
 unfold thrumref16_SplitP.f
 repeat' first
   | (with_reducible exact ih0 _ _ _)
   | (with_reducible exact ih1 _ _ _)
   | (with_reducible exact ih2 _ _ _ _ _ _)
   | (with_reducible exact LeO.refl _)
   | (with_reducible exact LeO.none _)
   | (with_reducible refine LeO.ite ?_ ?_)
   | (with_reducible refine LeO.bind ?_ (fun _ => ?_))
   | exact ih0 _ _ _
   | exact ih1 _ _ _
   | exact ih2 _ _ _ _ _ _
   | exact LeO.none _
   | refine LeO.ite ?_ ?_
   | refine LeO.bind ?_ (fun _ => ?_)
set_option maxHeartbeats 8000000 in
set_option maxRecDepth 100000 in
theorem thrumref16_SplitP.calls (k : Nat) (a0 : Int) (A1 : Option Addr) (c1 : Nat) (l1 : List Int) (r1 : List (List Int)) (r2 : List Int) (r3 : Int) (w : World) (hr1 : Kd.C (Kd.int .i64) w A1 l1.length l1) (hc1 : l1.length ≤ c1) (h : thrumref16_SplitP.f k a0 l1 = some (r1, r2, r3)) :
  Calls Try.prog 18 #[.int .i64 a0, .slice A1 l1.length c1] w fun e w' => ∃ v0_ v1_ : Value, e = .returned (.tuple #[v0_, v1_, .int .i64 r3]) ∧ Kd.S (Kd.slice 2 (Kd.int .i64)) 22 w' w.heap.size (fun k_ => some k_ ≠ (v1_ : Value).ownBlock) v0_ r1 ∧ Kd.R (Kd.int .i64) 2 w' w.heap.size (fun _ => True) v1_ r2 ∧ Below w.heap.size w w' := by
 have HR1 := Aside0.mk hr1
 have HC1 := Aside0.mk hc1
 clear hr1 hc1
 have HB := Aside0.mk (Below.refl w.heap.size w)
 have H : (if a0 < 1 then (thrumref16_SplitP.j0 k a0 l1 true) else (thrumref16_SplitP.j0 k a0 l1 (decide (a0 > 8)))) = some (r1, r2, r3) := h
 clear h
 have HC3 := Aside0.mk H
 clear H
 go_enter Try.func18, Try.ntmps18
 go_upto_region 1 with (fail)
 go_cut [17] (fun v17 wc => ∃ (kq : Nat) (x17_2 : Bool), v17 = .bool x17_2 ∧ Aside0 (thrumref16_SplitP.j0 kq a0 l1 x17_2 = some (r1, r2, r3)) ∧ Aside0 (kq ≤ k) ∧ Aside0 (Below w.heap.size w wc))
 case first =>
  have H := HC3.out
  clear HC3
  by_cases c4 : a0 < 1
  ·
   rw [if_pos c4] at H
   have c4b0 : decide (a0 < 1) = true := decide_eq_true c4
   clear c4
   (first | rw [c4b0] | (simp only [i64_w, i32_w]; rw [c4b0]) | skip)
   have H' := Aside0.mk H
   clear H
   go_wp2
   go_meet
   case rel => exact ⟨_, (true), (by first | rfl | (simp; done) | (simp [*]; done)), H', ⟨by first | omega | exact Nat.le_refl _⟩, ⟨by repeat (first | (with_reducible first | exact HB.out | apply zzA | apply zzN | apply zzD) | exact HB.out)⟩⟩
  ·
   rw [if_neg c4] at H
   have c4b0 : decide (a0 < 1) = false := decide_eq_false c4
   clear c4
   (first | rw [c4b0] | (simp only [i64_w, i32_w]; rw [c4b0]) | skip)
   have H' := Aside0.mk H
   clear H
   go_wp2
   go_meet
   case rel => exact ⟨_, (decide (a0 > 8)), (by first | rfl | (simp; done) | (simp [*]; done)), H', ⟨by first | omega | exact Nat.le_refl _⟩, ⟨by repeat (first | (with_reducible first | exact HB.out | apply zzA | apply zzN | apply zzD) | exact HB.out)⟩⟩
 case rest =>
  clear HC3
  try clear c1
  try clear p2
  try clear c4
  try clear c4b0
  obtain ⟨kq, x17_2, rfl, HA, HJ2, HB⟩ := hcut
  cases kq with
  | zero => exact absurd HA.out (by simp [thrumref16_SplitP.j0])
  | succ kj2 =>
   have H := HA.out
   clear HA
   simp only [thrumref16_SplitP.j0] at H
   by_cases c5 : x17_2 = true
   ·
    subst c5
    have H1 : (some (([] : List (List Int)), ([] : List Int), 1)) = some (r1, r2, r3) := by rw [if_pos rfl] at H; exact H
    clear H
    have H := H1
    clear H1
    simp only [Option.some.injEq, Prod.mk.injEq] at H
    obtain ⟨rfl, rfl, rfl⟩ := H
    go_wp2
    go_ret3
    exact ⟨_, _, by first | rfl | (simp [errW_none, errW_some] <;> rfl) | (simp [*, errW_none, errW_some] <;> rfl), by first | exact Kd.S_nil _ _ _ _ _ | exact Kd.N_nil _ _ _ _ _ | exact Kd.V_nil _ _ _ _ _ | exact Kd.Q_nil _ _ _ _ _ | exact Kd.R_nil _ _ _ _ _, by first | exact Kd.R_nil _ _ _ _ _ | exact Kd.N_nil _ _ _ _ _ | exact Kd.V_nil _ _ _ _ _ | exact Kd.Q_nil _ _ _ _ _ | exact Kd.S_nil _ _ _ _ _, by repeat (first | (with_reducible first | exact HB.out | apply zzA | apply zzN | apply zzD) | exact HB.out)⟩
   ·
    replace c5 := Bool.eq_false_iff.mpr c5
    subst c5
    have H1 : (thrumref16_SplitP.l0 kj2 a0 l1 1) = some (r1, r2, r3) := by rw [if_neg (show ¬ (false = true) by decide)] at H; exact H
    clear H
    have H := H1
    clear H1
    have H' := Aside0.mk H
    clear H
    go_wp2
    go_loopg [7] kj2 (fun kq v7 w' => ∃ (x7_2 : Int), v7 = .int .i64 x7_2 ∧ Aside0 (thrumref16_SplitP.l0 kq a0 l1 x7_2 = some (r1, r2, r3)) ∧ Aside0 (kq ≤ kj2) ∧ Aside0 (Below w.heap.size w w'))
    case atStart => exact ⟨(1), (by first | rfl | (simp; done) | (simp [*]; done)), H', ⟨Nat.le_refl _⟩, ⟨by repeat (first | (with_reducible first | exact HB.out | apply zzA | apply zzN | apply zzD) | exact HB.out)⟩⟩
    case round =>
     clear H'
     try clear c1
     try clear p2
     try clear c4
     try clear c4b0
     try clear c5
     try clear p2
     obtain ⟨x7_2, rfl, HA, HK2, HB⟩ := hrel
     cases gk with
     | zero => exact absurd HA.out (by simp [thrumref16_SplitP.l0])
     | succ k2 =>
      have H := HA.out
      clear HA
      simp only [thrumref16_SplitP.l0] at H
      by_cases c6 : x7_2 ≤ 16
      ·
       rw [if_pos c6] at H
       have c6b0 : decide (x7_2 ≤ 16) = true := decide_eq_true c6
       clear c6
       replace H := Option.bind_eq_some_iff.mp H
       obtain ⟨⟨t183, t184⟩, A70, H⟩ := H
       replace H : (if t183 = (l1.length : Int) then (thrumref16_SplitP.l1 k2 a0 l1 x7_2 ([] : List (List Int)) a0 0) else (thrumref16_SplitP.l0 k2 a0 l1 (wrap64 (x7_2 + 1)))) = some (r1, r2, r3) := H
       have A7 := Aside0.mk A70
       clear A70
       by_cases c8 : t183 = (l1.length : Int)
       ·
        rw [if_pos c8] at H
        have c8b0 : (t183 == (l1.length : Int)) = true := beq_iff_eq.mpr c8
        have c8b1 : (t183 != (l1.length : Int)) = false := bne_eq_false_iff_eq.mpr c8
        clear c8
        have H' := Aside0.mk H
        clear H
        go_wp2_with (first | ((with_reducible refine gate_callee (f := 20) rfl ?_); refine goesL_ (some 25) rfl rfl Try.func20 (by kernel_rfl) rfl #[.int .i64 x7_2, .int .i64 a0] rfl (by (try simp only [List.map_toArray, List.map_cons, List.map_nil]); first | done | rfl | (simp only [List.length_drop, List.length_take]; rfl)) ?_; (with_reducible refine (thrumref16_Dim.calls x7_2 a0 t183 t184 _ A7.out).mono ?_); rintro e w' ⟨rfl, ⟨nd, rfl⟩⟩; refine ⟨_, rfl, ?_⟩))
        go_loopg [10, 33] k2 (fun kq v10 v33 w' => ∃ (x10_3 : List (List Int)) (x33_3 : Int), v33 = .int .i64 x33_3 ∧ Aside0 (thrumref16_SplitP.l1 kq a0 l1 x7_2 x10_3 a0 x33_3 = some (r1, r2, r3)) ∧ Aside0 (kq ≤ k2) ∧ Aside0 (Kd.S (Kd.slice 2 (Kd.int .i64)) 22 w' w.heap.size (fun _ => True) v10 x10_3) ∧ Aside0 (Below w.heap.size w w'))
        case atStart => exact ⟨(([] : List (List Int))), (0), (by first | rfl | (simp; done) | (simp [*]; done)), H', ⟨Nat.le_refl _⟩, ⟨by first | exact Kd.S_nil _ _ _ _ _ | exact Kd.N_nil _ _ _ _ _ | exact Kd.V_nil _ _ _ _ _ | exact Kd.Q_nil _ _ _ _ _ | exact Kd.R_nil _ _ _ _ _⟩, ⟨by repeat (first | (with_reducible first | exact HB.out | apply zzA | apply zzN | apply zzD) | exact HB.out)⟩⟩
        case round =>
         clear H'
         try clear c1
         try clear c2
         try clear p2
         try clear c4
         try clear c4b0
         try clear c5
         try clear c6
         try clear c6b0
         try clear p6
         try clear c8
         try clear c8b0
         try clear c8b1
         try clear p2
         obtain ⟨x10_3, x33_3, rfl, HA, HK3, HO_10, HB⟩ := hrel
         cases gk with
         | zero => exact absurd HA.out (by simp [thrumref16_SplitP.l1])
         | succ k3 =>
          have H := HA.out
          clear HA
          simp only [thrumref16_SplitP.l1] at H
          by_cases c9 : x33_3 < a0
          ·
           rw [if_pos c9] at H
           have c9b0 : decide (x33_3 < a0) = true := decide_eq_true c9
           clear c9
           obtain ⟨ji10, hji10⟩ : ∃ j_ : Int, (wrap64 (x33_3 * (wrap64 (x7_2 + 1)))) = j_ := ⟨_, rfl⟩
           replace H : (if 0 ≤ (ji10) then (if (ji10) ≤ (wrap64 ((wrap64 (x33_3 + 1)) * (wrap64 (x7_2 + 1)))) then (if (wrap64 ((wrap64 (x33_3 + 1)) * (wrap64 (x7_2 + 1)))) ≤ (l1.length : Int) then (if ([] : List Int).length + ((l1.take ((wrap64 ((wrap64 (x33_3 + 1)) * (wrap64 (x7_2 + 1)))) : Int).toNat).drop ((ji10) : Int).toNat).length < 17592186044416 then (if x10_3.length < 5864062014805 then (thrumref16_SplitP.l1 k3 a0 l1 x7_2 (x10_3 ++ [(([] : List Int) ++ ((l1.take ((wrap64 ((wrap64 (x33_3 + 1)) * (wrap64 (x7_2 + 1)))) : Int).toNat).drop ((ji10) : Int).toNat))]) a0 (wrap64 (x33_3 + 1))) else (none)) else (none)) else (none)) else (none)) else (none)) = some (r1, r2, r3) := by first | (rw [hji10] at H; exact H) | (simp only [hji10] at H ⊢; exact H)
           have hji10w : (IntKind.i64.wrap (x33_3 * (wrap64 (x7_2 + 1)))) = ji10 := (i64_w _).trans hji10
           by_cases c11 : 0 ≤ (ji10)
           ·
            rw [if_pos c11] at H
            have c11b0 := eq_true c11
            have c11b1 : decide (0 ≤ (ji10)) = true := decide_eq_true c11
            clear c11
            by_cases c12 : (ji10) ≤ (wrap64 ((wrap64 (x33_3 + 1)) * (wrap64 (x7_2 + 1))))
            ·
             rw [if_pos c12] at H
             have c12b0 := eq_true c12
             have c12b1 : decide ((ji10) ≤ (wrap64 ((wrap64 (x33_3 + 1)) * (wrap64 (x7_2 + 1))))) = true := decide_eq_true c12
             by_cases c13 : (wrap64 ((wrap64 (x33_3 + 1)) * (wrap64 (x7_2 + 1)))) ≤ (l1.length : Int)
             ·
              rw [if_pos c13] at H
              have c13b0 := eq_true c13
              have c13b1 : decide ((wrap64 ((wrap64 (x33_3 + 1)) * (wrap64 (x7_2 + 1)))) ≤ (l1.length : Int)) = true := decide_eq_true c13
              by_cases c14 : ([] : List Int).length + ((l1.take ((wrap64 ((wrap64 (x33_3 + 1)) * (wrap64 (x7_2 + 1)))) : Int).toNat).drop ((ji10) : Int).toNat).length < 17592186044416
              ·
               rw [if_pos c14] at H
               have LMc14 := Aside0.mk c14
               clear c14
               obtain ⟨y186, hy186⟩ : ∃ y_ : List Int, y_ = (([] : List Int) ++ ((l1.take ((wrap64 ((wrap64 (x33_3 + 1)) * (wrap64 (x7_2 + 1)))) : Int).toNat).drop ((ji10) : Int).toNat)) := ⟨_, rfl⟩
               replace H : (if x10_3.length < 5864062014805 then (thrumref16_SplitP.l1 k3 a0 l1 x7_2 (x10_3 ++ [y186]) a0 (wrap64 (x33_3 + 1))) else (none)) = some (r1, r2, r3) := by first | (rw [hy186]; with_reducible exact H) | (have H2_ := (Option.bind_some _ _).symm.trans H; rw [hy186]; with_reducible exact H2_) | (have H2_ := (Option.bind_some _ _).symm.trans H; with_reducible exact H2_) | with_reducible exact H | (rw [hy186]; exact H) | exact H
               have Ny186 := Aside0.mk hy186
               clear hy186
               by_cases c15 : x10_3.length < 5864062014805
               ·
                rw [if_pos c15] at H
                have LMc15 := Aside0.mk c15
                clear c15
                obtain ⟨y189, hy189⟩ : ∃ y_ : List (List Int), y_ = (x10_3 ++ [y186]) := ⟨_, rfl⟩
                replace H : (thrumref16_SplitP.l1 k3 a0 l1 x7_2 y189 a0 (wrap64 (x33_3 + 1))) = some (r1, r2, r3) := by first | (rw [hy189]; with_reducible exact H) | (have H2_ := (Option.bind_some _ _).symm.trans H; rw [hy189]; with_reducible exact H2_) | (have H2_ := (Option.bind_some _ _).symm.trans H; with_reducible exact H2_) | with_reducible exact H | (rw [hy189]; exact H) | exact H
                have Ny189 := Aside0.mk hy189
                clear hy189
                have H' := Aside0.mk H
                clear H
                obtain ⟨i016, hi016, _, hsz16, _⟩ := info_parts info2
                obtain ⟨A16, hcut16, hA16, hC16⟩ := print_mid_of (P := Try.prog) (Value.int .i64) 0 22 2 .i64 .i64 Try.underlying22 hi016 hsz16 A1 c1 l1 (ji10) (wrap64 ((wrap64 (x33_3 + 1)) * (wrap64 (x7_2 + 1)))) (of_decide_eq_true (by first | (with_reducible assumption) | assumption)) (by first | omega | exact of_decide_eq_true (by first | (with_reducible assumption) | assumption)) (of_decide_eq_true (by first | (with_reducible assumption) | assumption)) HC1.out
                have HR185 := Aside0.mk (Kd.C_of_reads (h1 := fun _ => rfl) (hA16 _ (Kd.reads_of_C HR1.out)))
                have HC185 := Aside0.mk hC16
                clear hA16 hC16 hi016 hsz16
                go_wp2_with (first | ((with_reducible refine gate_builtin (b := .append) (xs := #[.const (.slice none 0 0), .tmp 47]) rfl ?_); at_builtin; refine Kd.R_append_rows (Kd.int .i64) (w0 := w) w.heap.size rfl (.const (.slice none 0 0)) (.tmp 47) 22 2 (.int .i64 0) 8 rfl Try.underlying22 info2 rfl (by decide) (by omega) (.slice none 0 0) ([] : List Int) ((l1.take ((wrap64 ((wrap64 (x33_3 + 1)) * (wrap64 (x7_2 + 1)))) : Int).toNat).drop ((ji10) : Int).toNat) _ _ _ (fun _ => True) (fun _ => False) rfl rfl ?aO ?aR (fun _ _ h => h) (fun _ h => h.elim) ?aF ?aB ?aS ?aL ?_; (case aR => first | (rw [← show ((l1.take ((wrap64 ((wrap64 (x33_3 + 1)) * (wrap64 (x7_2 + 1)))) : Int).toNat).drop ((ji10) : Int).toNat).length = ((wrap64 ((wrap64 (x33_3 + 1)) * (wrap64 (x7_2 + 1)))).toNat - (ji10).toNat) from (by rw [List.length_drop, List.length_take]; have h_ : ((wrap64 ((wrap64 (x33_3 + 1)) * (wrap64 (x7_2 + 1)))) : Int) ≤ (l1.length : Int) := of_decide_eq_true (by first | (with_reducible assumption) | assumption); omega)]; repeat (first | exact (Kd.C_below HR185.out HB.out) | (with_reducible refine ccA ?_ _) | (with_reducible refine ccN ?_ _) | (with_reducible refine ccD ?_))) | (repeat (first | exact (Kd.C_below HR185.out HB.out) | (with_reducible refine ccA ?_ _) | (with_reducible refine ccN ?_ _) | (with_reducible refine ccD ?_)))); (case aB => exact (by repeat (first | (with_reducible first | exact HB.out | apply zzA | apply zzN | apply zzD) | exact HB.out))); (case aF => exact (fun _ _ => trivial)); (case aO => exact ((Kd.R_nil _ _ _ _ (fun _ => True)))); (case aS => exact (zzS (by repeat (first | (with_reducible first | exact HB.out | apply zzA | apply zzN | apply zzD) | exact HB.out)))); (case aL => have := LMc14.out; have hlx_ := (show ((l1.take ((wrap64 ((wrap64 (x33_3 + 1)) * (wrap64 (x7_2 + 1)))) : Int).toNat).drop ((ji10) : Int).toNat).length = ((wrap64 ((wrap64 (x33_3 + 1)) * (wrap64 (x7_2 + 1)))).toNat - (ji10).toNat) from (by rw [List.length_drop, List.length_take]; have h_ : ((wrap64 ((wrap64 (x33_3 + 1)) * (wrap64 (x7_2 + 1)))) : Int) ≤ (l1.length : Int) := of_decide_eq_true (by first | (with_reducible assumption) | assumption); omega)); omega); intro v187 w17 ho hb hg hat; rw [← Ny186.out] at ho; have n0_ := Aside0.mk (Kd.S_after (Kd.S_apart_nil (by (with_reducible repeat (first | apply Kd.S_alloc | apply Kd.S_drewN | apply Kd.S_drew)); exact HO_10.out)) hg hat); have n1_ := Aside0.mk (hb); have n2_ := Aside0.mk (ho); clear HO_10; clear HB; have HO_10 := n0_; have HB := n1_; have HO188 := n2_; clear n0_ n1_ n2_; clear ho hb hg hat; obtain ⟨Ao19, co19, eo19⟩ := Kd.R_slice HO188.out; subst eo19) | ((with_reducible refine gate_builtin (b := .append) (xs := #[.tmp 36, .tmp 49]) rfl ?_); at_builtin; refine Kd.S_append (Kd.slice 2 (Kd.int .i64)) (w0 := w) w.heap.size rfl (.tmp 36) (.tmp 49) 30 22 (.slice none 0 0) 24 rfl Try.underlying30 info22 rfl (by decide) (by omega) u10 x10_3 y186 [.slice Ao19 y186.length co19] (fun _ => True) (fun k_ => some k_ = (.slice Ao19 y186.length co19 : Value).ownBlock) rfl rfl ?aP (fun k_ hk_ => ((Kd.R_mono (ok' := fun k_ => ((fun _ => True)) k_ ∧ some k_ ≠ (u10 : Value).ownBlock) (Kd.R_apart' (HO188.out) (Kd.S_typed HO_10.out) (by decide)) (fun k_ hk => ⟨trivial, hk.2⟩))).1 k_ hk_.symm) ?aF ?aO ?aB ?aS ?aL ?_; (case aP => exact Kd.M_row (Kd.R_mono (Kd.R_tight rfl (Kd.R_mono (ok' := fun k_ => ((fun _ => True)) k_ ∧ some k_ ≠ (u10 : Value).ownBlock) (Kd.R_apart' (HO188.out) (Kd.S_typed HO_10.out) (by decide)) (fun k_ hk => ⟨trivial, hk.2⟩))) (fun _ h_ => h_))); (case aB => exact (by repeat (first | (with_reducible first | exact HB.out | apply zzA | apply zzN | apply zzD) | exact HB.out))); (case aF => exact (fun _ _ => trivial)); (case aO => exact (by (with_reducible repeat (first | apply Kd.S_alloc | apply Kd.S_drewN | apply Kd.S_drew)); exact Kd.S_mono HO_10.out (fun k_ hk => ⟨trivial, fun e_ => hk.2 e_⟩))); (case aS => exact (zzS (by repeat (first | (with_reducible first | exact HB.out | apply zzA | apply zzN | apply zzD) | exact HB.out)))); (case aL => have := LMc15.out; omega); intro v190 w18 ho hb hg hat; rw [← Ny189.out] at ho; have n0_ := Aside0.mk (hb); have n1_ := Aside0.mk (ho); clear HB; clear HO_10; clear HO188; have HB := n0_; have HO191 := n1_; clear n0_ n1_; clear ho hb hg hat))
                go_roundg k3
                case measure => have := HJ2.out; have := HK2.out; have := HK3.out; omega
                case rel => exact ⟨(y189), (wrap64 (x33_3 + 1)), (by first | rfl | (simp; done) | (simp [*]; done)), H', ⟨by have := HJ2.out; have := HK2.out; have := HK3.out; omega⟩, ⟨by (with_reducible repeat (first | apply Kd.S_alloc | apply Kd.S_drewN | apply Kd.S_drew)); exact HO191.out⟩, ⟨by repeat (first | (with_reducible first | exact HB.out | apply zzA | apply zzN | apply zzD) | exact HB.out)⟩⟩
               ·
                rw [if_neg c15] at H
                exact absurd H (by simp)
              ·
               rw [if_neg c14] at H
               exact absurd H (by simp)
             ·
              rw [if_neg c13] at H
              exact absurd H (by simp)
            ·
             rw [if_neg c12] at H
             exact absurd H (by simp)
           ·
            rw [if_neg c11] at H
            exact absurd H (by simp)
          ·
           rw [if_neg c9] at H
           have c9b0 : decide (x33_3 < a0) = false := decide_eq_false c9
           clear c9
           obtain ⟨ji20, hji20⟩ : ∃ j_ : Int, (wrap64 (a0 * (wrap64 (x7_2 + 1)))) = j_ := ⟨_, rfl⟩
           replace H : (if 0 ≤ (ji20) then (if (ji20) ≤ (l1.length : Int) then (if ([] : List Int).length + (l1.drop ((ji20) : Int).toNat).length < 17592186044416 then (some (x10_3, (([] : List Int) ++ (l1.drop ((ji20) : Int).toNat)), 0)) else (none)) else (none)) else (none)) = some (r1, r2, r3) := by first | (rw [hji20] at H; exact H) | (simp only [hji20] at H ⊢; exact H)
           have hji20w : (IntKind.i64.wrap (a0 * (wrap64 (x7_2 + 1)))) = ji20 := (i64_w _).trans hji20
           by_cases c21 : 0 ≤ (ji20)
           ·
            rw [if_pos c21] at H
            have c21b0 := eq_true c21
            have c21b1 : decide (0 ≤ (ji20)) = true := decide_eq_true c21
            clear c21
            by_cases c22 : (ji20) ≤ (l1.length : Int)
            ·
             rw [if_pos c22] at H
             have c22b0 := eq_true c22
             have c22b1 : decide ((ji20) ≤ (l1.length : Int)) = true := decide_eq_true c22
             clear c22
             by_cases c23 : ([] : List Int).length + (l1.drop ((ji20) : Int).toNat).length < 17592186044416
             ·
              rw [if_pos c23] at H
              have LMc23 := Aside0.mk c23
              clear c23
              obtain ⟨y193, hy193⟩ : ∃ y_ : List Int, y_ = (([] : List Int) ++ (l1.drop ((ji20) : Int).toNat)) := ⟨_, rfl⟩
              replace H : (some (x10_3, y193, 0)) = some (r1, r2, r3) := by first | (rw [hy193]; with_reducible exact H) | (have H2_ := (Option.bind_some _ _).symm.trans H; rw [hy193]; with_reducible exact H2_) | (have H2_ := (Option.bind_some _ _).symm.trans H; with_reducible exact H2_) | with_reducible exact H | (rw [hy193]; exact H) | exact H
              have Ny193 := Aside0.mk hy193
              clear hy193
              simp only [Option.some.injEq, Prod.mk.injEq] at H
              obtain ⟨rfl, rfl, rfl⟩ := H
              obtain ⟨i024, hi024, _, hsz24, _⟩ := info_parts info2
              obtain ⟨A24, hcut24, hA24, hC24⟩ := print_drop_of (P := Try.prog) (Value.int .i64) 0 22 2 .i64 Try.underlying22 hi024 hsz24 A1 c1 l1 (ji20) (of_decide_eq_true (by first | (with_reducible assumption) | assumption)) (of_decide_eq_true (by first | (with_reducible assumption) | assumption)) HC1.out
              have HR192 := Aside0.mk (Kd.C_of_reads (h1 := fun _ => rfl) (hA24 _ (Kd.reads_of_C HR1.out)))
              have HC192 := Aside0.mk hC24
              clear hA24 hC24 hi024 hsz24
              go_wp2_with (first | ((with_reducible refine gate_builtin (b := .append) (xs := #[.const (.slice none 0 0), .tmp 58]) rfl ?_); at_builtin; refine Kd.R_append_rows (Kd.int .i64) (w0 := w) w.heap.size rfl (.const (.slice none 0 0)) (.tmp 58) 22 2 (.int .i64 0) 8 rfl Try.underlying22 info2 rfl (by decide) (by omega) (.slice none 0 0) ([] : List Int) (l1.drop ((ji20) : Int).toNat) _ _ _ (fun _ => True) (fun _ => False) rfl rfl ?aO ?aR (fun _ _ h => h) (fun _ h => h.elim) ?aF ?aB ?aS ?aL ?_; (case aR => first | (rw [← show (l1.drop ((ji20) : Int).toNat).length = (l1.length - (ji20).toNat) from List.length_drop]; repeat (first | exact (Kd.C_below HR192.out HB.out) | (with_reducible refine ccA ?_ _) | (with_reducible refine ccN ?_ _) | (with_reducible refine ccD ?_))) | (repeat (first | exact (Kd.C_below HR192.out HB.out) | (with_reducible refine ccA ?_ _) | (with_reducible refine ccN ?_ _) | (with_reducible refine ccD ?_)))); (case aB => exact (by repeat (first | (with_reducible first | exact HB.out | apply zzA | apply zzN | apply zzD) | exact HB.out))); (case aF => exact (fun _ _ => trivial)); (case aO => exact ((Kd.R_nil _ _ _ _ (fun _ => True)))); (case aS => exact (zzS (by repeat (first | (with_reducible first | exact HB.out | apply zzA | apply zzN | apply zzD) | exact HB.out)))); (case aL => have := LMc23.out; have hlx_ := (show (l1.drop ((ji20) : Int).toNat).length = (l1.length - (ji20).toNat) from List.length_drop); omega); intro v194 w25 ho hb hg hat; rw [← Ny193.out] at ho; have n0_ := Aside0.mk (Kd.S_after (Kd.S_apart_nil (by (with_reducible repeat (first | apply Kd.S_alloc | apply Kd.S_drewN | apply Kd.S_drew)); exact HO_10.out)) hg hat); have n1_ := Aside0.mk (hb); have n2_ := Aside0.mk (ho); clear HO_10; clear HB; have HO_10 := n0_; have HB := n1_; have HO195 := n2_; clear n0_ n1_ n2_; clear ho hb hg hat))
              go_ret3
              exact ⟨_, _, by first | rfl | (simp [errW_none, errW_some] <;> rfl) | (simp only [← hji20]; first | rfl | (simp [errW_none, errW_some] <;> rfl)) | (simp [*, errW_none, errW_some] <;> rfl), by (with_reducible repeat (first | apply Kd.S_alloc | apply Kd.S_drewN | apply Kd.S_drew)); exact Kd.S_mono HO_10.out (fun _ hk => hk.2), by (with_reducible repeat (first | apply rrA | apply rrN | apply rrD)); exact HO195.out, by repeat (first | (with_reducible first | exact HB.out | apply zzA | apply zzN | apply zzD) | exact HB.out)⟩
             ·
              rw [if_neg c23] at H
              exact absurd H (by simp)
            ·
             rw [if_neg c22] at H
             exact absurd H (by simp)
           ·
            rw [if_neg c21] at H
            exact absurd H (by simp)
       ·
        rw [if_neg c8] at H
        have c8b0 : (t183 == (l1.length : Int)) = false := beq_eq_false_iff_ne.mpr c8
        have c8b1 : (t183 != (l1.length : Int)) = true := bne_iff_ne.mpr c8
        have H' := Aside0.mk H
        clear H
        go_wp2_with (first | ((with_reducible refine gate_callee (f := 20) rfl ?_); refine goesL_ (some 25) rfl rfl Try.func20 (by kernel_rfl) rfl #[.int .i64 x7_2, .int .i64 a0] rfl (by (try simp only [List.map_toArray, List.map_cons, List.map_nil]); first | done | rfl | (simp only [List.length_drop, List.length_take]; rfl)) ?_; (with_reducible refine (thrumref16_Dim.calls x7_2 a0 t183 t184 _ A7.out).mono ?_); rintro e w' ⟨rfl, ⟨nd, rfl⟩⟩; refine ⟨_, rfl, ?_⟩))
        go_roundg k2
        case measure => have := HJ2.out; have := HK2.out; omega
        case rel => exact ⟨(wrap64 (x7_2 + 1)), (by first | rfl | (simp; done) | (simp [*]; done)), H', ⟨by have := HJ2.out; have := HK2.out; omega⟩, ⟨by repeat (first | (with_reducible first | exact HB.out | apply zzA | apply zzN | apply zzD) | exact HB.out)⟩⟩
      ·
       rw [if_neg c6] at H
       have c6b0 : decide (x7_2 ≤ 16) = false := decide_eq_false c6
       clear c6
       simp only [Option.some.injEq, Prod.mk.injEq] at H
       obtain ⟨rfl, rfl, rfl⟩ := H
       go_wp2
       go_ret3
       exact ⟨_, _, by first | rfl | (simp [errW_none, errW_some] <;> rfl) | (simp [*, errW_none, errW_some] <;> rfl), by first | exact Kd.S_nil _ _ _ _ _ | exact Kd.N_nil _ _ _ _ _ | exact Kd.V_nil _ _ _ _ _ | exact Kd.Q_nil _ _ _ _ _ | exact Kd.R_nil _ _ _ _ _, by first | exact Kd.R_nil _ _ _ _ _ | exact Kd.N_nil _ _ _ _ _ | exact Kd.V_nil _ _ _ _ _ | exact Kd.Q_nil _ _ _ _ _ | exact Kd.S_nil _ _ _ _ _, by repeat (first | (with_reducible first | exact HB.out | apply zzA | apply zzN | apply zzD) | exact HB.out)⟩

def thrumref16_Split.f (a0 : Int) (l1 : List Int) : Option (List (List Int) × List Int × Int) := some (splitM a0 l1)
theorem thrumref16_SplitP.loop1 (w : List Int) (n k e : Nat) (hkm : k * (n + 1) ≤ w.length) (hn : n ≤ 16) (hk : k ≤ 8) (hw : w.length < 17592186044416) : ∀ (d i : Nat) (acc : List (List Int)), d + i = k → acc.length ≤ i →
    thrumref16_SplitP.l1 (d + 1 + e) (k : Int) w (n : Int) acc (k : Int) (i : Int) = some (acc ++ (rowsM k (n + 1) w).drop i, w.drop (k * (n + 1)), 0) := by
  have em : wrap64 ((n : Int) + 1) = ((n + 1 : Nat) : Int) := by rw [wrap64_of (by unfold I64; omega)]; rfl
  have hk8 : k * (n + 1) ≤ 8 * 17 := Nat.mul_le_mul hk (by omega)
  generalize hm : n + 1 = m at hkm em hk8 ⊢
  have hm17 : m ≤ 17 := by omega
  intro d
  induction d with
  | zero =>
    intro i acc hd ha
    have e1 : wrap64 ((k : Int) * ((m : Nat) : Int)) = ((k * m : Nat) : Int) := by
      have q : ((k * m : Nat) : Int) = (k : Int) * m := by push_cast; rfl
      rw [← q, wrap64_of (by unfold I64; omega)]
    have hdn : (rowsM k m w).drop i = [] := List.drop_eq_nil_of_le (by rw [rowsM_len]; omega)
    rw [show 0 + 1 + e = e + 1 by omega, thrumref16_SplitP.l1, if_neg (by omega), em, e1, if_pos (Int.natCast_nonneg _), if_pos (Int.ofNat_le.2 hkm), Int.toNat_natCast, if_pos (by rw [List.length_nil, List.length_drop]; omega), hdn, List.append_nil, List.nil_append]
  | succ d ih =>
    intro i acc hd ha
    have hi : i < k := by omega
    have p0 : (i : Int) < (k : Int) := Int.ofNat_lt.2 hi
    have p5 : acc.length < 5864062014805 := by omega
    have p6 : d + (i + 1) = k := by omega
    have p7 : acc.length + 1 ≤ i + 1 := by omega
    have h1 : (i + 1) * m ≤ k * m := Nat.mul_le_mul_right m hi
    have h3 : (i + 1) * m = i * m + m := by rw [Nat.add_mul, Nat.one_mul]
    have e1 : wrap64 ((i : Int) * ((m : Nat) : Int)) = ((i * m : Nat) : Int) := by
      have q : ((i * m : Nat) : Int) = (i : Int) * m := by push_cast; rfl
      rw [← q, wrap64_of (by unfold I64; omega)]
    have e2 : wrap64 ((i : Int) + 1) = ((i + 1 : Nat) : Int) := by rw [wrap64_of (by unfold I64; omega)]; omega
    have e3 : wrap64 (((i + 1 : Nat) : Int) * ((m : Nat) : Int)) = (((i + 1) * m : Nat) : Int) := by
      have q : (((i + 1) * m : Nat) : Int) = ((i + 1 : Nat) : Int) * m := by push_cast; rfl
      rw [← q, wrap64_of (by unfold I64; omega)]
    have hget : (rowsM k m w)[i]'(by rw [rowsM_len]; exact hi) = (w.drop (i * m)).take m := by simp [rowsM, Go.Proofs.Ytalamamjodihaaa.Sp.rowAt]
    have hdt : (w.take ((i + 1) * m)).drop (i * m) = (w.drop (i * m)).take m := by rw [List.drop_take, h3, Nat.add_sub_cancel_left]
    have p1 : (0 : Int) ≤ ((i * m : Nat) : Int) := Int.natCast_nonneg _
    have p2 : ((i * m : Nat) : Int) ≤ (((i + 1) * m : Nat) : Int) := Int.ofNat_le.2 (by rw [h3]; exact Nat.le_add_right _ _)
    have p3 : (((i + 1) * m : Nat) : Int) ≤ (w.length : Int) := Int.ofNat_le.2 (Nat.le_trans h1 hkm)
    have p4 : ([] : List Int).length + ((w.drop (i * m)).take m).length < 17592186044416 := by
      have q1 : ((w.drop (i * m)).take m).length ≤ m := by rw [List.length_take]; exact Nat.min_le_left _ _
      rw [List.length_nil]; clear h1 h3 e1 e2 e3 p1 p2 p3 hget hdt; omega
    have hi2 : i < (rowsM k m w).length := by rw [rowsM_len]; exact hi
    rw [show d + 1 + 1 + e = (d + 1 + e) + 1 by omega, thrumref16_SplitP.l1, if_pos p0, em, e1, e2, e3, if_pos p1, if_pos p2, if_pos p3, Int.toNat_natCast, Int.toNat_natCast, hdt, if_pos p4, if_pos p5,
      ih (i + 1) _ p6 (by rw [List.length_append, List.length_singleton]; exact p7), List.drop_eq_getElem_cons hi2, hget, List.nil_append, List.append_assoc]
    rfl
theorem thrumref16_SplitP.loop0 (w : List Int) (k : Nat) (hk1 : 1 ≤ k) (hk8 : k ≤ 8) (hw : w.length < 17592186044416) : ∀ (d i : Nat), d + i = 17 → 1 ≤ i →
    thrumref16_SplitP.l0 (d + 1 + (k + 1)) (k : Int) w (i : Int) = some (if goodNet k w ∧ i + 1 ≤ lenM k w then (rowsM k (lenM k w) w, w.drop (k * lenM k w), 0) else ([], [], 4)) := by
  intro d
  induction d with
  | zero =>
    intro i hd h1
    rw [show 0 + 1 + (k + 1) = (k + 1) + 1 by omega, thrumref16_SplitP.l0, if_neg (by omega), if_neg (fun h => by have := h.1.2.1; have := h.2; omega)]
  | succ d ih =>
    intro i hd h1
    have hdim : (dimM (i : Int) (k : Int)) = ((k : Int) * (i + 1) + k + 1, 0) := by
      unfold dimM
      rw [if_neg (fun h => h.elim (fun h => by omega) (fun h => h.elim (fun h => by omega) (fun h => by unfold badHid at h; omega)))]
    have hkm : ((k * (i + 1) : Nat) : Int) = (k : Int) * ((i : Int) + 1) := by push_cast; rfl
    rw [show d + 1 + 1 + (k + 1) = (d + 1 + (k + 1)) + 1 by omega, thrumref16_SplitP.l0, if_pos (by omega), thrumref16_Dim.f, Option.bind_some, hdim]
    dsimp only
    by_cases c : (k : Int) * (i + 1) + k + 1 = (w.length : Int)
    · have c2 : k * (i + 1) + k + 1 = w.length := by rw [← hkm] at c; exact Int.ofNat.inj (by rw [Int.ofNat_eq_natCast, Int.ofNat_eq_natCast, ← c]; push_cast; rfl)
      have hlm := lenM_of hk1 c2
      have hl := thrumref16_SplitP.loop1 w i k (d + 1) (by omega) (by omega) hk8 hw k 0 [] (by omega) (by simp)
      rw [List.drop_zero, List.nil_append] at hl
      rw [if_pos c, show d + 1 + (k + 1) = k + 1 + (d + 1) by omega]
      rw [if_pos (show goodNet k w ∧ i + 1 ≤ lenM k w from ⟨⟨by omega, by omega, by rw [hlm]; exact c2⟩, by omega⟩), hlm]
      exact hl
    · have e2 : wrap64 ((i : Int) + 1) = ((i + 1 : Nat) : Int) := by rw [wrap64_of (by unfold I64; omega)]; omega
      rw [if_neg c, e2, ih (i + 1) (by omega) (by omega)]
      have hiff : (goodNet k w ∧ i + 1 + 1 ≤ lenM k w) ↔ (goodNet k w ∧ i + 1 ≤ lenM k w) := by
        constructor
        · rintro ⟨g, h⟩; exact ⟨g, by omega⟩
        · rintro ⟨g, h⟩
          refine ⟨g, ?_⟩
          apply Classical.byContradiction
          intro hn
          have he : lenM k w = i + 1 := by omega
          have h2 := g.2.2
          rw [he] at h2
          apply c
          rw [← hkm, ← h2]
          push_cast
          rfl
      by_cases g : goodNet k w ∧ i + 1 ≤ lenM k w
      · rw [if_pos g, if_pos (hiff.2 g)]
      · rw [if_neg g, if_neg (fun h => g (hiff.1 h))]
theorem thrumref16_SplitP.is (a0 : Int) (l1 : List Int) (hw : l1.length < 17592186044416) : thrumref16_SplitP.f (a0.toNat + 19) a0 l1 = some (splitM a0 l1) := by
  unfold thrumref16_SplitP.f splitM
  by_cases c : badHid a0
  · rw [if_pos c]
    unfold badHid at c
    by_cases c1 : a0 < 1
    · rw [if_pos c1, thrumref16_SplitP.j0, if_pos rfl]
    · rw [if_neg c1, thrumref16_SplitP.j0, if_pos (decide_eq_true (by omega))]
  · rw [if_neg c]
    obtain ⟨k, rfl, h1, h8⟩ := badHid_not c
    rw [Int.toNat_natCast, if_neg (show ¬ (k : Int) < 1 by omega), decide_eq_false (show ¬ (k : Int) > 8 by omega), thrumref16_SplitP.j0, if_neg (by decide)]
    have h := thrumref16_SplitP.loop0 l1 k h1 h8 hw 16 1 rfl (Nat.le_refl _)
    rw [show k + 18 = 16 + 1 + (k + 1) by omega]
    refine Eq.trans h ?_
    by_cases g : goodNet k l1
    · rw [if_pos g, if_pos ⟨g, g.1⟩]
    · rw [if_neg g, if_neg (fun h => g h.1)]
theorem splitM_long {a0 : Int} {l1 : List Int} (hw : ¬ l1.length < 17592186044416) (hb : ¬ badHid a0) : splitM a0 l1 = ([], [], 4) := by
  unfold splitM
  obtain ⟨k, rfl, h1, h8⟩ := badHid_not hb
  rw [if_neg hb, Int.toNat_natCast, if_neg (fun g => by have h2 : k * lenM k l1 ≤ 8 * 17 := Nat.mul_le_mul h8 g.2.1; have := g.2.2; omega)]
theorem thrumref16_SplitP.long (w : List Int) (k : Nat) (hk1 : 1 ≤ k) (hk8 : k ≤ 8) (hw : ¬ w.length < 17592186044416) : ∀ (d i : Nat), d + i = 17 → 1 ≤ i →
    thrumref16_SplitP.l0 (d + 1 + (k + 1)) (k : Int) w (i : Int) = some ([], [], 4) := by
  intro d
  induction d with
  | zero =>
    intro i hd h1
    rw [show 0 + 1 + (k + 1) = (k + 1) + 1 by omega, thrumref16_SplitP.l0, if_neg (by omega)]
  | succ d ih =>
    intro i hd h1
    have hdim : (dimM (i : Int) (k : Int)) = ((k : Int) * (i + 1) + k + 1, 0) := by
      unfold dimM
      rw [if_neg (fun h => h.elim (fun h => by omega) (fun h => h.elim (fun h => by omega) (fun h => by unfold badHid at h; omega)))]
    have hkm : ((k * (i + 1) : Nat) : Int) = (k : Int) * ((i : Int) + 1) := by push_cast; rfl
    have hk17 : k * (i + 1) ≤ 8 * 17 := Nat.mul_le_mul hk8 (by omega)
    have e2 : wrap64 ((i : Int) + 1) = ((i + 1 : Nat) : Int) := by rw [wrap64_of (by unfold I64; omega)]; omega
    rw [show d + 1 + 1 + (k + 1) = (d + 1 + (k + 1)) + 1 by omega, thrumref16_SplitP.l0, if_pos (by omega), thrumref16_Dim.f, Option.bind_some, hdim]
    dsimp only
    rw [← hkm]
    generalize k * (i + 1) = p at hk17 ⊢
    rw [if_neg (show ¬ ((p : Nat) : Int) + k + 1 = (w.length : Int) by omega), e2, ih (i + 1) (by omega) (by omega)]
theorem thrumref16_SplitP.all (a0 : Int) (l1 : List Int) : thrumref16_SplitP.f (a0.toNat + 19) a0 l1 = some (splitM a0 l1) := by
  by_cases hw : l1.length < 17592186044416
  · exact thrumref16_SplitP.is a0 l1 hw
  · by_cases c : badHid a0
    · unfold thrumref16_SplitP.f splitM
      rw [if_pos c]
      unfold badHid at c
      by_cases c1 : a0 < 1
      · rw [if_pos c1, thrumref16_SplitP.j0, if_pos rfl]
      · rw [if_neg c1, thrumref16_SplitP.j0, if_pos (decide_eq_true (by omega))]
    · rw [splitM_long hw c]
      obtain ⟨k, rfl, h1, h8⟩ := badHid_not c
      unfold thrumref16_SplitP.f
      rw [Int.toNat_natCast, if_neg (show ¬ (k : Int) < 1 by omega), decide_eq_false (show ¬ (k : Int) > 8 by omega), thrumref16_SplitP.j0, if_neg (by decide)]
      have h := thrumref16_SplitP.long l1 k h1 h8 hw 16 1 rfl (Nat.le_refl _)
      rw [show k + 18 = 16 + 1 + (k + 1) by omega]
      exact h
theorem thrumref16_Split.calls (a0 : Int) (A1 : Option Addr) (c1 : Nat) (l1 : List Int) (r1 : List (List Int)) (r2 : List Int) (r3 : Int) (w : World) (hr1 : Kd.C (Kd.int .i64) w A1 l1.length l1) (hc1 : l1.length ≤ c1) (h : thrumref16_Split.f a0 l1 = some (r1, r2, r3)) :
    Calls Try.prog 18 #[.int .i64 a0, .slice A1 l1.length c1] w fun e w' => ∃ v0_ v1_ : Value, e = .returned (.tuple #[v0_, v1_, .int .i64 r3]) ∧ Kd.S (Kd.slice 2 (Kd.int .i64)) 22 w' w.heap.size (fun k_ => some k_ ≠ (v1_ : Value).ownBlock) v0_ r1 ∧ Kd.R (Kd.int .i64) 2 w' w.heap.size (fun _ => True) v1_ r2 ∧ Below w.heap.size w w' := by
  unfold thrumref16_Split.f at h
  exact thrumref16_SplitP.calls (a0.toNat + 19) a0 A1 c1 l1 r1 r2 r3 w hr1 hc1 ((thrumref16_SplitP.all a0 l1).trans h)


/-! ### thrumref16_BendP: function 22 -/
def thrumref16_BendP.l0 : Nat → List Int → List Int → Int → Int → Option (List Int × Int)
 | 0, _, _, _, _ => none
 | k + 1, x4, x10, x11, x12 => if x12 < x11 then (if 0 ≤ x12 then (if x12 < (x10.length : Int) then (if x4.length < 17592186044416 then (thrumref16_BendP.l0 k (x4 ++ [mx (rd x10 x12) 0]) x10 x11 (wrap64 (x12 + 1))) else (none)) else (none)) else (none)) else (some (x4, 0))
def thrumref16_BendP.f (k : Nat) (l0 : List Int) : Option (List Int × Int) := if (l0.length : Int) > 4096 then (some (([] : List Int), 3)) else (thrumref16_BendP.l0 k ([] : List Int) l0 (l0.length : Int) 0)
theorem thrumref16_BendP.mono_l : ∀ k, (∀ y0 y1 y2 y3, LeO (thrumref16_BendP.l0 k y0 y1 y2 y3) (thrumref16_BendP.l0 (k + 1) y0 y1 y2 y3))
 | 0 => fun _ _ _ _ r h => by simp [thrumref16_BendP.l0] at h
 | k + 1 => by
  have ih0 := thrumref16_BendP.mono_l k
  ·
   intro y0 y1 y2 y3
   unfold thrumref16_BendP.l0
   repeat' first
   | (with_reducible exact ih0 _ _ _ _)
   | (with_reducible exact LeO.refl _)
   | (with_reducible exact LeO.none _)
   | (with_reducible refine LeO.ite ?_ ?_)
   | (with_reducible refine LeO.bind ?_ (fun _ => ?_))
   | exact ih0 _ _ _ _
   | exact LeO.none _
   | refine LeO.ite ?_ ?_
   | refine LeO.bind ?_ (fun _ => ?_)
theorem thrumref16_BendP.mono : ∀ a0 k, LeO (thrumref16_BendP.f k a0) (thrumref16_BendP.f (k + 1) a0) := by
 intro a0 k
 have ih0 := thrumref16_BendP.mono_l k
 unfold thrumref16_BendP.f
 repeat' first
   | (with_reducible exact ih0 _ _ _ _)
   | (with_reducible exact LeO.refl _)
   | (with_reducible exact LeO.none _)
   | (with_reducible refine LeO.ite ?_ ?_)
   | (with_reducible refine LeO.bind ?_ (fun _ => ?_))
   | exact ih0 _ _ _ _
   | exact LeO.none _
   | refine LeO.ite ?_ ?_
   | refine LeO.bind ?_ (fun _ => ?_)
set_option maxHeartbeats 8000000 in
set_option maxRecDepth 100000 in
theorem thrumref16_BendP.calls (k : Nat) (A0 : Option Addr) (c0 : Nat) (l0 : List Int) (r1 : List Int) (r2 : Int) (w : World) (hr0 : Kd.C (Kd.int .i64) w A0 l0.length l0) (hc0 : l0.length ≤ c0) (h : thrumref16_BendP.f k l0 = some (r1, r2)) :
  Calls Try.prog 22 #[.slice A0 l0.length c0] w fun e w' => ∃ v0_ : Value, e = .returned (.tuple #[v0_, .int .i64 r2]) ∧ Kd.R (Kd.int .i64) 2 w' w.heap.size (fun _ => True) v0_ r1 ∧ Below w.heap.size w w' := by
 have HR0 := Aside0.mk hr0
 have HC0 := Aside0.mk hc0
 clear hr0 hc0
 have HB := Aside0.mk (Below.refl w.heap.size w)
 have H : (if (l0.length : Int) > 4096 then (some (([] : List Int), 3)) else (thrumref16_BendP.l0 k ([] : List Int) l0 (l0.length : Int) 0)) = some (r1, r2) := h
 clear h
 by_cases c2 : (l0.length : Int) > 4096
 ·
  rw [if_pos c2] at H
  have c2b0 : decide (4096 < (l0.length : Int)) = true := decide_eq_true c2
  have c2b1 : decide (4096 < l0.length) = true := decide_eq_true (by omega)
  clear c2
  simp only [Option.some.injEq, Prod.mk.injEq] at H
  obtain ⟨rfl, rfl⟩ := H
  go_enter Try.func22, Try.ntmps22
  go_wp2
  go_ret2
  exact ⟨_, by first | rfl | (simp [errW_none, errW_some] <;> rfl) | (simp [*, errW_none, errW_some] <;> rfl), by first | exact Kd.R_nil _ _ _ _ _ | exact Kd.N_nil _ _ _ _ _ | exact Kd.V_nil _ _ _ _ _ | exact Kd.Q_nil _ _ _ _ _ | exact Kd.S_nil _ _ _ _ _, by repeat (first | (with_reducible first | exact HB.out | apply zzA | apply zzN | apply zzD) | exact HB.out)⟩
 ·
  rw [if_neg c2] at H
  have c2b0 : decide (4096 < (l0.length : Int)) = false := decide_eq_false c2
  have c2b1 : decide (4096 < l0.length) = false := decide_eq_false (by omega)
  clear c2
  have H' := Aside0.mk H
  clear H
  go_enter Try.func22, Try.ntmps22
  go_wp2
  go_loopg [4, 12] k (fun kq v4 v12 w' => ∃ (x4_1 : List Int) (x12_1 : Int), v12 = .int .i64 x12_1 ∧ Aside0 (thrumref16_BendP.l0 kq x4_1 l0 (l0.length : Int) x12_1 = some (r1, r2)) ∧ Aside0 (kq ≤ k) ∧ Aside0 (Kd.R (Kd.int .i64) 2 w' w.heap.size (fun _ => True) v4 x4_1) ∧ Aside0 (Below w.heap.size w w'))
  case atStart => exact ⟨(([] : List Int)), (0), (by first | rfl | (simp; done) | (simp [*]; done)), H', ⟨Nat.le_refl _⟩, ⟨by first | exact Kd.R_nil _ _ _ _ _ | exact Kd.N_nil _ _ _ _ _ | exact Kd.V_nil _ _ _ _ _ | exact Kd.Q_nil _ _ _ _ _ | exact Kd.S_nil _ _ _ _ _⟩, ⟨by repeat (first | (with_reducible first | exact HB.out | apply zzA | apply zzN | apply zzD) | exact HB.out)⟩⟩
  case round =>
   clear H'
   try clear c2
   try clear c2b0
   try clear c2b1
   try clear p2
   obtain ⟨x4_1, x12_1, rfl, HA, HK1, HO_4, HB⟩ := hrel
   cases gk with
   | zero => exact absurd HA.out (by simp [thrumref16_BendP.l0])
   | succ k1 =>
    have H := HA.out
    clear HA
    simp only [thrumref16_BendP.l0] at H
    by_cases c3 : x12_1 < (l0.length : Int)
    ·
     rw [if_pos c3] at H
     have c3b0 : decide (x12_1 < (l0.length : Int)) = true := decide_eq_true c3
     clear c3
     by_cases c4 : 0 ≤ x12_1
     ·
      rw [if_pos c4] at H
      have c4b0 : decide (0 ≤ x12_1) = true := decide_eq_true c4
      clear c4
      by_cases c5 : x12_1 < (l0.length : Int)
      ·
       rw [if_pos c5] at H
       have c5b0 : decide (x12_1 < (l0.length : Int)) = true := decide_eq_true c5
       clear c5
       obtain ⟨ji6, hji6⟩ : ∃ j_ : Int, (mx (rd l0 x12_1) 0) = j_ := ⟨_, rfl⟩
       replace H : (if x4_1.length < 17592186044416 then (thrumref16_BendP.l0 k1 (x4_1 ++ [ji6]) l0 (l0.length : Int) (wrap64 (x12_1 + 1))) else (none)) = some (r1, r2) := by first | (rw [hji6] at H; exact H) | (simp only [hji6] at H ⊢; exact H)
       have hji6_ : (if (rd l0 x12_1) < 0 then 0 else (rd l0 x12_1)) = ji6 := hji6
       by_cases c7 : x4_1.length < 17592186044416
       ·
        rw [if_pos c7] at H
        have LMc7 := Aside0.mk c7
        clear c7
        obtain ⟨y197, hy197⟩ : ∃ y_ : List Int, y_ = (x4_1 ++ [ji6]) := ⟨_, rfl⟩
        replace H : (thrumref16_BendP.l0 k1 y197 l0 (l0.length : Int) (wrap64 (x12_1 + 1))) = some (r1, r2) := by first | (rw [hy197]; with_reducible exact H) | (have H2_ := (Option.bind_some _ _).symm.trans H; rw [hy197]; with_reducible exact H2_) | (have H2_ := (Option.bind_some _ _).symm.trans H; with_reducible exact H2_) | with_reducible exact H | (rw [hy197]; exact H) | exact H
        have Ny197 := Aside0.mk hy197
        clear hy197
        have H' := Aside0.mk H
        clear H
        have p196 : 0 ≤ (x12_1 : Int) := of_decide_eq_true (by first | (with_reducible assumption) | assumption)
        have q196 : x12_1 < (l0.length : Int) := of_decide_eq_true (by first | (with_reducible assumption) | assumption)
        obtain ⟨ad196, e196, hx196_0⟩ := Kd.at_int HR0.out x12_1 p196 q196
        cases e196
        replace hx196_0 := (HB.out.cell (World.block_lt_of_cell? w _ hx196_0)).trans hx196_0
        replace p196 := eq_true p196
        replace q196 := eq_true q196
        go_wp2_with (first | ((with_reducible refine gate_builtin (b := .append) (xs := #[.tmp 16, .tmp 19]) rfl ?_); at_builtin; refine Kd.R_append (Kd.int .i64) (w0 := w) w.heap.size rfl (.tmp 16) (.tmp 19) 22 2 (.int .i64 0) 8 rfl Try.underlying22 info2 rfl (by decide) (by omega) u4 x4_1 ji6 [.int .i64 ji6] (fun _ => True) (fun _ => False) rfl rfl ?aP (fun _ hk => hk.elim) ?aF ?aO ?aB ?aS ?aL ?_; (case aP => exact rfl); (case aB => exact (by repeat (first | (with_reducible first | exact HB.out | apply zzA | apply zzN | apply zzD) | exact HB.out))); (case aF => exact (fun _ _ => trivial)); (case aO => exact (by (with_reducible repeat (first | apply rrA | apply rrN | apply rrD)); exact HO_4.out)); (case aS => exact (zzS (by repeat (first | (with_reducible first | exact HB.out | apply zzA | apply zzN | apply zzD) | exact HB.out)))); (case aL => have := LMc7.out; omega); intro v198 w8 ho hb hg hat; rw [← Ny197.out] at ho; have n0_ := Aside0.mk (hb); have n1_ := Aside0.mk (ho); clear HB; clear HO_4; have HB := n0_; have HO199 := n1_; clear n0_ n1_; clear ho hb hg hat))
        go_roundg k1
        case measure => have := HK1.out; omega
        case rel => exact ⟨(y197), (wrap64 (x12_1 + 1)), (by first | rfl | (simp; done) | (simp [*]; done)), H', ⟨by have := HK1.out; omega⟩, ⟨by (with_reducible repeat (first | apply rrA | apply rrN | apply rrD)); exact HO199.out⟩, ⟨by repeat (first | (with_reducible first | exact HB.out | apply zzA | apply zzN | apply zzD) | exact HB.out)⟩⟩
       ·
        rw [if_neg c7] at H
        exact absurd H (by simp)
      ·
       rw [if_neg c5] at H
       exact absurd H (by simp)
     ·
      rw [if_neg c4] at H
      exact absurd H (by simp)
    ·
     rw [if_neg c3] at H
     have c3b0 : decide (x12_1 < (l0.length : Int)) = false := decide_eq_false c3
     clear c3
     simp only [Option.some.injEq, Prod.mk.injEq] at H
     obtain ⟨rfl, rfl⟩ := H
     go_wp2
     go_ret2
     exact ⟨_, by first | rfl | (simp [errW_none, errW_some] <;> rfl) | (simp [*, errW_none, errW_some] <;> rfl), by (with_reducible repeat (first | apply rrA | apply rrN | apply rrD)); exact HO_4.out, by repeat (first | (with_reducible first | exact HB.out | apply zzA | apply zzN | apply zzD) | exact HB.out)⟩

def thrumref16_Bend.f (l0 : List Int) : Option (List Int × Int) := some (bendM l0)
theorem thrumref16_BendP.loop (z : List Int) (hb : z.length ≤ 4096) : ∀ (d i : Nat) (acc : List Int), d + i = z.length → acc.length = i →
    thrumref16_BendP.l0 (d + 1) acc z (z.length : Int) (i : Int) = some (acc ++ (z.drop i).map (fun n => max n 0), 0) := by
  intro d
  induction d with
  | zero =>
    intro i acc hd ha
    rw [thrumref16_BendP.l0, if_neg (by omega), List.drop_eq_nil_of_le (by omega), List.map_nil, List.append_nil]
  | succ d ih =>
    intro i acc hd ha
    have hi : i < z.length := by omega
    have hmx : mx (rd z (i : Int)) 0 = max z[i] 0 := by rw [rd_nat hi]; unfold mx; split <;> omega
    rw [thrumref16_BendP.l0, if_pos (by omega), if_pos (by omega), if_pos (by omega), if_pos (by omega), hmx, wrap64_of (by unfold I64; omega), show (i : Int) + 1 = ((i + 1 : Nat) : Int) by omega, ih (i + 1) _ (by omega) (by rw [List.length_append, List.length_singleton]; omega), List.drop_eq_getElem_cons hi, List.map_cons, List.append_assoc]
    rfl
theorem thrumref16_BendP.is (l0 : List Int) : thrumref16_BendP.f (l0.length + 1) l0 = some (bendM l0) := by
  unfold thrumref16_BendP.f bendM
  by_cases c : l0.length ≤ 4096
  · have h := thrumref16_BendP.loop l0 c l0.length 0 [] (by omega) rfl
    rw [List.drop_zero, List.nil_append] at h
    rw [if_neg (by omega), if_pos c]
    exact h
  · rw [if_pos (by omega), if_neg c]
theorem thrumref16_Bend.calls (A0 : Option Addr) (c0 : Nat) (l0 : List Int) (r1 : List Int) (r2 : Int) (w : World) (hr0 : Kd.C (Kd.int .i64) w A0 l0.length l0) (hc0 : l0.length ≤ c0) (h : thrumref16_Bend.f l0 = some (r1, r2)) :
    Calls Try.prog 22 #[.slice A0 l0.length c0] w fun e w' => ∃ v0_ : Value, e = .returned (.tuple #[v0_, .int .i64 r2]) ∧ Kd.R (Kd.int .i64) 2 w' w.heap.size (fun _ => True) v0_ r1 ∧ Below w.heap.size w w' := by
  unfold thrumref16_Bend.f at h
  exact thrumref16_BendP.calls (l0.length + 1) A0 c0 l0 r1 r2 w hr0 hc0 ((thrumref16_BendP.is l0).trans h)


/-! ### thrumref14_Dim: function 72 -/
def thrumref14_Dim.f (a0 : Int) : Option (Int × Int) := if a0 < 1 then (some (0, 1)) else (if a0 > 16 then (some (0, 1)) else (some (wrap64 (a0 + 1), 0)))
set_option maxHeartbeats 8000000 in
set_option maxRecDepth 100000 in
theorem thrumref14_Dim.calls (a0 : Int) (r1 : Int) (r2 : Int) (w : World) (h : thrumref14_Dim.f a0 = some (r1, r2)) :
  Calls Try.prog 72 #[.int .i64 a0] w fun e w' => e = .returned (.tuple #[.int .i64 r1, .int .i64 r2]) ∧ Drawn0 w w' := by
 have H : (if a0 < 1 then (some (0, 1)) else (if a0 > 16 then (some (0, 1)) else (some (wrap64 (a0 + 1), 0)))) = some (r1, r2) := h
 clear h
 by_cases c2 : a0 < 1
 ·
  rw [if_pos c2] at H
  have c2b0 : decide (a0 < 1) = true := decide_eq_true c2
  clear c2
  simp only [Option.some.injEq, Prod.mk.injEq] at H
  obtain ⟨rfl, rfl⟩ := H
  go_enter Try.func72, Try.ntmps72
  go_wp2
  go_ret2
  exact ⟨by first | rfl | (simp; done) | (simp [*]; done), by repeat (first | exact ddR _ | apply ddS)⟩
 ·
  rw [if_neg c2] at H
  have c2b0 : decide (a0 < 1) = false := decide_eq_false c2
  clear c2
  by_cases c3 : a0 > 16
  ·
   rw [if_pos c3] at H
   have c3b0 : decide (16 < a0) = true := decide_eq_true c3
   clear c3
   simp only [Option.some.injEq, Prod.mk.injEq] at H
   obtain ⟨rfl, rfl⟩ := H
   go_enter Try.func72, Try.ntmps72
   go_wp2
   go_ret2
   exact ⟨by first | rfl | (simp; done) | (simp [*]; done), by repeat (first | exact ddR _ | apply ddS)⟩
  ·
   rw [if_neg c3] at H
   have c3b0 : decide (16 < a0) = false := decide_eq_false c3
   clear c3
   simp only [Option.some.injEq, Prod.mk.injEq] at H
   obtain ⟨rfl, rfl⟩ := H
   go_enter Try.func72, Try.ntmps72
   go_wp2
   go_ret2
   exact ⟨by first | rfl | (simp; done) | (simp [*]; done), by repeat (first | exact ddR _ | apply ddS)⟩

/-! ### thrumref14_CheckP: function 55 -/
def thrumref14_CheckP.l0 : Nat → Int → List (S26) → List (S26) → Int → Int → Option (Int)
 | 0, _, _, _, _, _ => none
 | k + 1, x0, x2, x23, x24, x25 => if x25 < x24 then (if 0 ≤ x25 then (if x25 < (x23.length : Int) then (if (((rd_T26 x23 x25).f0).length : Int) = x0 then (thrumref14_CheckP.l0 k x0 x2 x23 x24 (wrap64 (x25 + 1))) else (some 4)) else (none)) else (none)) else (if (x2.length : Int) = 0 then (some 1) else (if (x2.length : Int) > 64 then (some 1) else (some 0)))
def thrumref14_CheckP.f (k : Nat) (a0 : Int) (l1 : List Int) (l2 : List (S26)) : Option (Int) := (thrumref14_Dim.f a0).bind fun bt200 => (if bt200.2 = 0 then (if (l1.length : Int) = bt200.1 then (thrumref14_CheckP.l0 k a0 l2 l2 (l2.length : Int) 0) else (some 4)) else (some bt200.2))
theorem thrumref14_CheckP.mono_l : ∀ k, (∀ y0 y1 y2 y3 y4, LeO (thrumref14_CheckP.l0 k y0 y1 y2 y3 y4) (thrumref14_CheckP.l0 (k + 1) y0 y1 y2 y3 y4))
 | 0 => fun _ _ _ _ _ r h => by simp [thrumref14_CheckP.l0] at h
 | k + 1 => by
  have ih0 := thrumref14_CheckP.mono_l k
  ·
   intro y0 y1 y2 y3 y4
   unfold thrumref14_CheckP.l0
   repeat' first
   | (with_reducible exact ih0 _ _ _ _ _)
   | (with_reducible exact LeO.refl _)
   | (with_reducible exact LeO.none _)
   | (with_reducible refine LeO.ite ?_ ?_)
   | (with_reducible refine LeO.bind ?_ (fun _ => ?_))
   | exact ih0 _ _ _ _ _
   | exact LeO.none _
   | refine LeO.ite ?_ ?_
   | refine LeO.bind ?_ (fun _ => ?_)
theorem thrumref14_CheckP.mono : ∀ a0 a1 a2 k, LeO (thrumref14_CheckP.f k a0 a1 a2) (thrumref14_CheckP.f (k + 1) a0 a1 a2) := by
 intro a0 a1 a2 k
 have ih0 := thrumref14_CheckP.mono_l k
 unfold thrumref14_CheckP.f
 repeat' first
   | (with_reducible exact ih0 _ _ _ _ _)
   | (with_reducible exact LeO.refl _)
   | (with_reducible exact LeO.none _)
   | (with_reducible refine LeO.ite ?_ ?_)
   | (with_reducible refine LeO.bind ?_ (fun _ => ?_))
   | exact ih0 _ _ _ _ _
   | exact LeO.none _
   | refine LeO.ite ?_ ?_
   | refine LeO.bind ?_ (fun _ => ?_)
set_option maxHeartbeats 8000000 in
set_option maxRecDepth 100000 in
theorem thrumref14_CheckP.calls (k : Nat) (a0 : Int) (A1 : Option Addr) (c1 : Nat) (l1 : List Int) (A2 : Option Addr) (c2 : Nat) (l2 : List (S26)) (r : Int) (w : World) (hr1 : Kd.C (Kd.int .i64) w A1 l1.length l1) (hc1 : l1.length ≤ c1) (hr2 : Kd.C k26 w A2 l2.length l2) (hc2 : l2.length ≤ c2) (h : thrumref14_CheckP.f k a0 l1 l2 = some r) :
  Calls Try.prog 55 #[.int .i64 a0, .slice A1 l1.length c1, .slice A2 l2.length c2] w fun e w' => e = .returned (.int .i64 r) ∧ Below w.heap.size w w' := by
 have hu26 := Try.underlying26
 have HR1 := Aside0.mk hr1
 have HC1 := Aside0.mk hc1
 clear hr1 hc1
 have HR2 := Aside0.mk hr2
 have HC2 := Aside0.mk hc2
 clear hr2 hc2
 have HB := Aside0.mk (Below.refl w.heap.size w)
 have H : ((thrumref14_Dim.f a0).bind fun bt200 => (if bt200.2 = 0 then (if (l1.length : Int) = bt200.1 then (thrumref14_CheckP.l0 k a0 l2 l2 (l2.length : Int) 0) else (some 4)) else (some bt200.2))) = some r := h
 clear h
 replace H := Option.bind_eq_some_iff.mp H
 obtain ⟨⟨t200, t201⟩, A40, H⟩ := H
 replace H : (if t201 = 0 then (if (l1.length : Int) = t200 then (thrumref14_CheckP.l0 k a0 l2 l2 (l2.length : Int) 0) else (some 4)) else (some t201)) = some r := H
 have A4 := Aside0.mk A40
 clear A40
 by_cases c5 : t201 = 0
 ·
  rw [if_pos c5] at H
  have c5b0 : (t201 == 0) = true := beq_iff_eq.mpr c5
  have c5b1 : (t201 != 0) = false := bne_eq_false_iff_eq.mpr c5
  clear c5
  by_cases c6 : (l1.length : Int) = t200
  ·
   rw [if_pos c6] at H
   have c6b0 : ((l1.length : Int) == t200) = true := beq_iff_eq.mpr c6
   have c6b1 : ((l1.length : Int) != t200) = false := bne_eq_false_iff_eq.mpr c6
   clear c6
   have H' := Aside0.mk H
   clear H
   go_enter Try.func55, Try.ntmps55
   go_wp2_with (first | ((with_reducible refine gate_callee (f := 72) rfl ?_); refine goesL_ (some 13) rfl rfl Try.func72 (by kernel_rfl) rfl #[.int .i64 a0] rfl (by (try simp only [List.map_toArray, List.map_cons, List.map_nil]); first | done | rfl | (simp only [List.length_drop, List.length_take]; rfl)) ?_; (with_reducible refine (thrumref14_Dim.calls a0 t200 t201 _ A4.out).mono ?_); rintro e w' ⟨rfl, ⟨nd, rfl⟩⟩; refine ⟨_, rfl, ?_⟩))
   go_loopg [25] k (fun kq v25 w' => ∃ (x25_1 : Int), v25 = .int .i64 x25_1 ∧ Aside0 (thrumref14_CheckP.l0 kq a0 l2 l2 (l2.length : Int) x25_1 = some r) ∧ Aside0 (kq ≤ k) ∧ Aside0 (Below w.heap.size w w'))
   case atStart => exact ⟨(0), (by first | rfl | (simp; done) | (simp [*]; done)), H', ⟨Nat.le_refl _⟩, ⟨by repeat (first | (with_reducible first | exact HB.out | apply zzA | apply zzN | apply zzD) | exact HB.out)⟩⟩
   case round =>
    clear H'
    try clear c1
    try clear c2
    try clear p2
    try clear c5
    try clear c5b0
    try clear c5b1
    try clear c6
    try clear c6b0
    try clear c6b1
    obtain ⟨x25_1, rfl, HA, HK1, HB⟩ := hrel
    cases gk with
    | zero => exact absurd HA.out (by simp [thrumref14_CheckP.l0])
    | succ k1 =>
     have H := HA.out
     clear HA
     simp only [thrumref14_CheckP.l0] at H
     by_cases c7 : x25_1 < (l2.length : Int)
     ·
      rw [if_pos c7] at H
      have c7b0 : decide (x25_1 < (l2.length : Int)) = true := decide_eq_true c7
      clear c7
      by_cases c8 : 0 ≤ x25_1
      ·
       rw [if_pos c8] at H
       have c8b0 : decide (0 ≤ x25_1) = true := decide_eq_true c8
       clear c8
       by_cases c9 : x25_1 < (l2.length : Int)
       ·
        rw [if_pos c9] at H
        have c9b0 : decide (x25_1 < (l2.length : Int)) = true := decide_eq_true c9
        clear c9
        by_cases c10 : (((rd_T26 l2 x25_1).f0).length : Int) = a0
        ·
         rw [if_pos c10] at H
         have c10b0 : ((((rd_T26 l2 x25_1).f0).length : Int) == a0) = true := beq_iff_eq.mpr c10
         have c10b1 : ((((rd_T26 l2 x25_1).f0).length : Int) != a0) = false := bne_eq_false_iff_eq.mpr c10
         clear c10
         have H' := Aside0.mk H
         clear H
         have p202 : 0 ≤ (x25_1 : Int) := of_decide_eq_true (by first | (with_reducible assumption) | assumption)
         have q202 : x25_1 < (l2.length : Int) := of_decide_eq_true (by first | (with_reducible assumption) | assumption)
         obtain ⟨ad202, A202_0, c202_0, e202, hx202_0, hx202_1, hl202_0, hi202_0⟩ := at_T26 HR2.out x25_1 p202 q202
         cases e202
         replace hx202_0 := (HB.out.cell (World.block_lt_of_cell? w _ hx202_0)).trans hx202_0
         replace hx202_1 := (HB.out.cell (World.block_lt_of_cell? w _ hx202_1)).trans hx202_1
         have HR202_0 := Aside0.mk hi202_0
         have HC202_0 := Aside0.mk hl202_0
         clear hi202_0 hl202_0
         replace p202 := eq_true p202
         replace q202 := eq_true q202
         go_wp2_with (first | ((with_reducible refine gate_dst (N := 10) rfl ?_); (try (refine gate_guard (by rfl) ?_; dsimp only)); refine box_event ?hg (N := 10) ?hd (cs := #[.slice none 0 0, .int .i64 0]) (t := 26) ?hr ?_; (case hd => rfl); (case hg => rfl); (case hr => first | (go_simp; done) | (go_simp; rfl)); intro gb203 hg w11 hbox hb; have n0_ := Aside0.mk (zzT (by repeat (first | (with_reducible first | exact HB.out | apply zzA | apply zzN | apply zzD) | exact HB.out)) hb); have n1_ := Aside0.mk (hbox); have n2_ := Aside0.mk ((by rw [hg]; exact (zzS (by repeat (first | (with_reducible first | exact HB.out | apply zzA | apply zzN | apply zzD) | exact HB.out))) : w.heap.size ≤ gb203)); have n3_ := Aside0.mk ((by rw [hg]; exact (zzS (by repeat (first | (with_reducible first | exact HB.out | apply zzA | apply zzN | apply zzD) | exact HB.out))) : w.heap.size ≤ gb203)); clear HB; have HB := n0_; have BK203 := n1_; have GW203 := n2_; have GE203 := n3_; clear n0_ n1_ n2_ n3_; clear hb hbox hg; have hcz12_0 : w11.cell? ⟨gb203, 0, none⟩ = some (.slice none 0 0) := (blk_cell BK203.out 0).trans rfl; have hcz12_1 : w11.cell? ⟨gb203, 1, none⟩ = some (.int .i64 0) := (blk_cell BK203.out 1).trans rfl; have hfz12_0 := blk_frozen BK203.out 0; have hfz12_1 := blk_frozen BK203.out 1))
         go_roundg k1
         case measure => have := HK1.out; omega
         case rel => exact ⟨(wrap64 (x25_1 + 1)), (by first | rfl | (simp; done) | (simp [*]; done)), H', ⟨by have := HK1.out; omega⟩, ⟨by repeat (first | (with_reducible first | exact HB.out | apply zzA | apply zzN | apply zzD | refine below_set ?_ GE203.out) | exact HB.out)⟩⟩
        ·
         rw [if_neg c10] at H
         have c10b0 : ((((rd_T26 l2 x25_1).f0).length : Int) == a0) = false := beq_eq_false_iff_ne.mpr c10
         have c10b1 : ((((rd_T26 l2 x25_1).f0).length : Int) != a0) = true := bne_iff_ne.mpr c10
         obtain rfl := Option.some.inj H
         have p202 : 0 ≤ (x25_1 : Int) := of_decide_eq_true (by first | (with_reducible assumption) | assumption)
         have q202 : x25_1 < (l2.length : Int) := of_decide_eq_true (by first | (with_reducible assumption) | assumption)
         obtain ⟨ad202, A202_0, c202_0, e202, hx202_0, hx202_1, hl202_0, hi202_0⟩ := at_T26 HR2.out x25_1 p202 q202
         cases e202
         replace hx202_0 := (HB.out.cell (World.block_lt_of_cell? w _ hx202_0)).trans hx202_0
         replace hx202_1 := (HB.out.cell (World.block_lt_of_cell? w _ hx202_1)).trans hx202_1
         have HR202_0 := Aside0.mk hi202_0
         have HC202_0 := Aside0.mk hl202_0
         clear hi202_0 hl202_0
         replace p202 := eq_true p202
         replace q202 := eq_true q202
         go_wp2_with (first | ((with_reducible refine gate_dst (N := 10) rfl ?_); (try (refine gate_guard (by rfl) ?_; dsimp only)); refine box_event ?hg (N := 10) ?hd (cs := #[.slice none 0 0, .int .i64 0]) (t := 26) ?hr ?_; (case hd => rfl); (case hg => rfl); (case hr => first | (go_simp; done) | (go_simp; rfl)); intro gb203 hg w13 hbox hb; have n0_ := Aside0.mk (zzT (by repeat (first | (with_reducible first | exact HB.out | apply zzA | apply zzN | apply zzD) | exact HB.out)) hb); have n1_ := Aside0.mk (hbox); have n2_ := Aside0.mk ((by rw [hg]; exact (zzS (by repeat (first | (with_reducible first | exact HB.out | apply zzA | apply zzN | apply zzD) | exact HB.out))) : w.heap.size ≤ gb203)); have n3_ := Aside0.mk ((by rw [hg]; exact (zzS (by repeat (first | (with_reducible first | exact HB.out | apply zzA | apply zzN | apply zzD) | exact HB.out))) : w.heap.size ≤ gb203)); clear HB; have HB := n0_; have BK203 := n1_; have GW203 := n2_; have GE203 := n3_; clear n0_ n1_ n2_ n3_; clear hb hbox hg; have hcz14_0 : w13.cell? ⟨gb203, 0, none⟩ = some (.slice none 0 0) := (blk_cell BK203.out 0).trans rfl; have hcz14_1 : w13.cell? ⟨gb203, 1, none⟩ = some (.int .i64 0) := (blk_cell BK203.out 1).trans rfl; have hfz14_0 := blk_frozen BK203.out 0; have hfz14_1 := blk_frozen BK203.out 1))
         go_ret
         exact ⟨by first | rfl | (simp [errW_none, errW_some] <;> rfl) | (simp [*, errW_none, errW_some] <;> rfl), by repeat (first | (with_reducible first | exact HB.out | apply zzA | apply zzN | apply zzD | refine below_set ?_ GE203.out) | exact HB.out)⟩
       ·
        rw [if_neg c9] at H
        exact absurd H (by simp)
      ·
       rw [if_neg c8] at H
       exact absurd H (by simp)
     ·
      rw [if_neg c7] at H
      have c7b0 : decide (x25_1 < (l2.length : Int)) = false := decide_eq_false c7
      clear c7
      by_cases c15 : (l2.length : Int) = 0
      ·
       rw [if_pos c15] at H
       have c15b0 : ((l2.length : Int) == 0) = true := beq_iff_eq.mpr c15
       have c15b1 : ((l2.length : Int) != 0) = false := bne_eq_false_iff_eq.mpr c15
       clear c15
       obtain rfl := Option.some.inj H
       go_wp2
       go_ret
       exact ⟨by first | rfl | (simp [errW_none, errW_some] <;> rfl) | (simp [*, errW_none, errW_some] <;> rfl), by repeat (first | (with_reducible first | exact HB.out | apply zzA | apply zzN | apply zzD) | exact HB.out)⟩
      ·
       rw [if_neg c15] at H
       have c15b0 : ((l2.length : Int) == 0) = false := beq_eq_false_iff_ne.mpr c15
       have c15b1 : ((l2.length : Int) != 0) = true := bne_iff_ne.mpr c15
       have c15b2 : ¬ (l2 = []) := fun h_ => c15 (by rw [h_]; rfl)
       by_cases c16 : (l2.length : Int) > 64
       ·
        rw [if_pos c16] at H
        have c16b0 : decide (64 < (l2.length : Int)) = true := decide_eq_true c16
        have c16b1 : decide (64 < l2.length) = true := decide_eq_true (by omega)
        clear c16
        obtain rfl := Option.some.inj H
        go_wp2
        go_ret
        exact ⟨by first | rfl | (simp [errW_none, errW_some] <;> rfl) | (simp [*, errW_none, errW_some] <;> rfl), by repeat (first | (with_reducible first | exact HB.out | apply zzA | apply zzN | apply zzD) | exact HB.out)⟩
       ·
        rw [if_neg c16] at H
        have c16b0 : decide (64 < (l2.length : Int)) = false := decide_eq_false c16
        have c16b1 : decide (64 < l2.length) = false := decide_eq_false (by omega)
        clear c16
        obtain rfl := Option.some.inj H
        go_wp2
        go_ret
        exact ⟨by first | rfl | (simp [errW_none, errW_some] <;> rfl) | (simp [*, errW_none, errW_some] <;> rfl), by repeat (first | (with_reducible first | exact HB.out | apply zzA | apply zzN | apply zzD) | exact HB.out)⟩
  ·
   rw [if_neg c6] at H
   have c6b0 : ((l1.length : Int) == t200) = false := beq_eq_false_iff_ne.mpr c6
   have c6b1 : ((l1.length : Int) != t200) = true := bne_iff_ne.mpr c6
   obtain rfl := Option.some.inj H
   go_enter Try.func55, Try.ntmps55
   go_wp2_with (first | ((with_reducible refine gate_callee (f := 72) rfl ?_); refine goesL_ (some 13) rfl rfl Try.func72 (by kernel_rfl) rfl #[.int .i64 a0] rfl (by (try simp only [List.map_toArray, List.map_cons, List.map_nil]); first | done | rfl | (simp only [List.length_drop, List.length_take]; rfl)) ?_; (with_reducible refine (thrumref14_Dim.calls a0 t200 t201 _ A4.out).mono ?_); rintro e w' ⟨rfl, ⟨nd, rfl⟩⟩; refine ⟨_, rfl, ?_⟩))
   go_ret
   exact ⟨by first | rfl | (simp [errW_none, errW_some] <;> rfl) | (simp [*, errW_none, errW_some] <;> rfl), by repeat (first | (with_reducible first | exact HB.out | apply zzA | apply zzN | apply zzD) | exact HB.out)⟩
 ·
  rw [if_neg c5] at H
  have c5b0 : (t201 == 0) = false := beq_eq_false_iff_ne.mpr c5
  have c5b1 : (t201 != 0) = true := bne_iff_ne.mpr c5
  obtain rfl := Option.some.inj H
  go_enter Try.func55, Try.ntmps55
  go_wp2_with (first | ((with_reducible refine gate_callee (f := 72) rfl ?_); refine goesL_ (some 13) rfl rfl Try.func72 (by kernel_rfl) rfl #[.int .i64 a0] rfl (by (try simp only [List.map_toArray, List.map_cons, List.map_nil]); first | done | rfl | (simp only [List.length_drop, List.length_take]; rfl)) ?_; (with_reducible refine (thrumref14_Dim.calls a0 t200 t201 _ A4.out).mono ?_); rintro e w' ⟨rfl, ⟨nd, rfl⟩⟩; refine ⟨_, rfl, ?_⟩))
  go_ret
  exact ⟨by first | rfl | (simp [errW_none, errW_some] <;> rfl) | (simp [*, errW_none, errW_some] <;> rfl), by repeat (first | (with_reducible first | exact HB.out | apply zzA | apply zzN | apply zzD) | exact HB.out)⟩

theorem thrumref14_CheckP.loop (x0 : Int) (x2 : List S26) (hb : x2.length ≤ 9223372036854775807) : ∀ (d i : Nat), d + i = x2.length →
    thrumref14_CheckP.l0 (d + 1) x0 x2 x2 (x2.length : Int) (i : Int) = some (fitsGo x0 (x2.drop i) x2.length true) := by
  intro d
  induction d with
  | zero =>
    intro i hd
    rw [thrumref14_CheckP.l0, if_neg (by omega), List.drop_eq_nil_of_le (by omega)]
    rw [fitsGo_nil]
    by_cases c2 : (x2.length : Int) = 0
    · rw [if_pos c2, if_pos (by omega)]
    · rw [if_neg c2]
      by_cases c3 : (x2.length : Int) > 64
      · rw [if_pos c3, if_pos (by omega)]
      · rw [if_neg c3, if_neg (by omega)]
  | succ d ih =>
    intro i hd
    have hi : i < x2.length := by omega
    rw [thrumref14_CheckP.l0, if_pos (by omega), if_pos (by omega), if_pos (by omega), rd_sm hi, List.drop_eq_getElem_cons hi, wrap64_of (by unfold I64; omega), show (i : Int) + 1 = ((i + 1 : Nat) : Int) by omega, ih (i + 1) (by omega), fitsGo_cons]
    by_cases c : (x2[i].f0.length : Int) = x0
    · rw [if_pos c, beq_iff_eq.2 c]
    · rw [if_neg c, beq_eq_false_iff_ne.2 c, fitsGo_false]
theorem thrumref14_Dim.of (a0 : Int) : thrumref14_Dim.f a0 = some (dimL a0) := linear_Dim.of a0
def thrumref14_Check.f (a0 : Int) (l1 : List Int) (l2 : List S26) : Option Int := some (checkL a0 l1 (l2.map sm))
theorem thrumref14_Check.calls (a0 : Int) (A1 : Option Addr) (c1 : Nat) (l1 : List Int) (A2 : Option Addr) (c2 : Nat) (l2 : List (S26)) (r : Int) (w : World) (hr1 : Kd.C (Kd.int .i64) w A1 l1.length l1) (hc1 : l1.length ≤ c1) (hr2 : Kd.C k26 w A2 l2.length l2) (hc2 : l2.length ≤ c2) (h : thrumref14_Check.f a0 l1 l2 = some r) :
    Calls Try.prog 55 #[.int .i64 a0, .slice A1 l1.length c1, .slice A2 l2.length c2] w fun e w' => e = .returned (.int .i64 r) ∧ Below w.heap.size w w' := by
  have hm := Kd.C_max hr2
  refine thrumref14_CheckP.calls (l2.length + 1) a0 A1 c1 l1 A2 c2 l2 r w hr1 hc1 hr2 hc2 (Eq.trans ?_ h)
  unfold thrumref14_CheckP.f thrumref14_Check.f
  rw [thrumref14_Dim.of, checkL_sm]
  unfold dimL
  simp only [Option.bind_some]
  by_cases c : a0 < 1 ∨ a0 > 16
  · rw [if_pos c, if_pos c]; rfl
  · rw [if_neg c, if_neg c]
    simp only [if_true]
    by_cases c2 : (l1.length : Int) = a0 + 1
    · rw [if_pos c2, beq_iff_eq.2 c2]
      exact thrumref14_CheckP.loop a0 l2 hm l2.length 0 (by omega)
    · rw [if_neg c2, beq_eq_false_iff_ne.2 c2]
      rw [fitsGo_false]


end Go.Proofs.Ytalamamjodihaaa.HO
