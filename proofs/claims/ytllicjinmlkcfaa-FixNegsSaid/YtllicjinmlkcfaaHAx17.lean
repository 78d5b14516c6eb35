/- What Go functions do, each as a plain Lean function with the same answers, and the proof of it, in every world: printed by the session's driver over the kit's print, with texts by hand. -/
import Derived.Test.YtllicjinmlkcfaaHAx0
import Derived.Test.YtllicjinmlkcfaaHAx1
import Derived.Test.YtllicjinmlkcfaaHAx4
import Derived.Test.YtllicjinmlkcfaaHAx5
namespace Go.Proofs.Ytllicjinmlkcfaa.HA
open Go.RowKit Go.Proofs.YtllicjinmlkcfaaW.PrintWords Go.Proofs.YtllicjinmlkcfaaW.PrintLast Go.Proofs.YtllicjinmlkcfaaW.PrintMore
attribute [local go_sem] max2_int min2_int max_two min_two max_three min_three max_four min_four   -- for this text's walks alone
open Go.Proofs.Ytllicjinmlkcfaa.Sp
attribute [local go_sem] Go.Proofs.Ytllicjinmlkcfaa.Sp.u64_not
set_option linter.unusedVariables false
set_option linter.unusedSimpArgs false

/-! ### thrumlaw01_FixNegs: function 7 -/
mutual
def thrumlaw01_FixNegs.j0 : Nat → Int → Int → Int → Bool → Int → Int → Bool → Option (Bool)
  | 0, _, _, _, _, _, _, _ => none
  | k + 1, x0, x1, x2, x7, x8, x10, x45 => if x45 = true then ((fix_Mul.f x10 x1 0).bind fun bt245 => (if bt245.2 = 0 then (thrumlaw01_FixNegs.j1 k x0 x2 x7 (bt245.1 != (wrap64 (-x8)))) else (thrumlaw01_FixNegs.j1 k x0 x2 x7 true))) else (if 0 ≤ x2 then ((fix_Mul.f x0 (shl .i64 1 x2) x2).bind fun bt251 => ((fix_Div.f x0 (shl .i64 1 x2) x2).bind fun bt253 => (if x7 = true then (if bt251.2 = 0 then (if bt251.1 = x0 then (if bt253.2 = 0 then (some (bt253.1 == x0)) else (some false)) else (some false)) else (some false)) else (some false)))) else (none))
def thrumlaw01_FixNegs.j1 : Nat → Int → Int → Bool → Bool → Option (Bool)
  | 0, _, _, _, _ => none
  | k + 1, x0, x2, x7, x59 => if x59 = true then (some false) else (if 0 ≤ x2 then ((fix_Mul.f x0 (shl .i64 1 x2) x2).bind fun bt247 => ((fix_Div.f x0 (shl .i64 1 x2) x2).bind fun bt249 => (if x7 = true then (if bt247.2 = 0 then (if bt247.1 = x0 then (if bt249.2 = 0 then (some (bt249.1 == x0)) else (some false)) else (some false)) else (some false)) else (some false)))) else (none))
end
def thrumlaw01_FixNegs.f (k : Nat) (a0 : Int) (a1 : Int) (a2 : Int) : Option (Bool) := (thrumlaw01_live.f).bind fun t240 => (if t240 = true then ((fix_Mul.f a0 a1 0).bind fun bt241 => ((fix_Neg.f a0).bind fun bt243 => (if bt241.2 = 0 then (if bt243.2 = 0 then (thrumlaw01_FixNegs.j0 k a0 a1 (Int.tmod (wrap64 ((Int.tmod a2 31) + 31)) 31) t240 bt241.1 bt243.1 (bt241.1 != (-9223372036854775808))) else (thrumlaw01_FixNegs.j0 k a0 a1 (Int.tmod (wrap64 ((Int.tmod a2 31) + 31)) 31) t240 bt241.1 bt243.1 false)) else (thrumlaw01_FixNegs.j0 k a0 a1 (Int.tmod (wrap64 ((Int.tmod a2 31) + 31)) 31) t240 bt241.1 bt243.1 false)))) else (some false))
theorem thrumlaw01_FixNegs.mono_l : ∀ k, (∀ y0 y1 y2 y3 y4 y5 y6, LeO (thrumlaw01_FixNegs.j0 k y0 y1 y2 y3 y4 y5 y6) (thrumlaw01_FixNegs.j0 (k + 1) y0 y1 y2 y3 y4 y5 y6)) ∧ (∀ y0 y1 y2 y3, LeO (thrumlaw01_FixNegs.j1 k y0 y1 y2 y3) (thrumlaw01_FixNegs.j1 (k + 1) y0 y1 y2 y3))
  | 0 => ⟨fun _ _ _ _ _ _ _ r h => by simp [thrumlaw01_FixNegs.j0] at h, fun _ _ _ _ r h => by simp [thrumlaw01_FixNegs.j1] at h⟩
  | k + 1 => by
    obtain ⟨ih0, ih1⟩ := thrumlaw01_FixNegs.mono_l k
    refine ⟨?_, ?_⟩
    · intro y0 y1 y2 y3 y4 y5 y6
      unfold thrumlaw01_FixNegs.j0
      repeat' first
      | (with_reducible exact ih0 _ _ _ _ _ _ _)
      | (with_reducible exact ih1 _ _ _ _)
      | (with_reducible exact LeO.refl _)
      | (with_reducible exact LeO.none _)
      | (with_reducible refine LeO.ite ?_ ?_)
      | (with_reducible refine LeO.bind ?_ (fun _ => ?_))
      | exact ih0 _ _ _ _ _ _ _
      | exact ih1 _ _ _ _
      | exact LeO.none _
      | refine LeO.ite ?_ ?_
      | refine LeO.bind ?_ (fun _ => ?_)
    · intro y0 y1 y2 y3
      unfold thrumlaw01_FixNegs.j1
      repeat' first
      | (with_reducible exact ih0 _ _ _ _ _ _ _)
      | (with_reducible exact ih1 _ _ _ _)
      | (with_reducible exact LeO.refl _)
      | (with_reducible exact LeO.none _)
      | (with_reducible refine LeO.ite ?_ ?_)
      | (with_reducible refine LeO.bind ?_ (fun _ => ?_))
      | exact ih0 _ _ _ _ _ _ _
      | exact ih1 _ _ _ _
      | exact LeO.none _
      | refine LeO.ite ?_ ?_
      | refine LeO.bind ?_ (fun _ => ?_)
theorem thrumlaw01_FixNegs.mono : ∀ a0 a1 a2 k, LeO (thrumlaw01_FixNegs.f k a0 a1 a2) (thrumlaw01_FixNegs.f (k + 1) a0 a1 a2) := by
  intro a0 a1 a2 k
  obtain ⟨ih0, ih1⟩ := thrumlaw01_FixNegs.mono_l k
  unfold thrumlaw01_FixNegs.f
  repeat' first
      | (with_reducible exact ih0 _ _ _ _ _ _ _)
      | (with_reducible exact ih1 _ _ _ _)
      | (with_reducible exact LeO.refl _)
      | (with_reducible exact LeO.none _)
      | (with_reducible refine LeO.ite ?_ ?_)
      | (with_reducible refine LeO.bind ?_ (fun _ => ?_))
      | exact ih0 _ _ _ _ _ _ _
      | exact ih1 _ _ _ _
      | exact LeO.none _
      | refine LeO.ite ?_ ?_
      | refine LeO.bind ?_ (fun _ => ?_)
set_option maxHeartbeats 8000000 in
set_option maxRecDepth 100000 in
theorem thrumlaw01_FixNegs.calls (k : Nat) (a0 : Int) (a1 : Int) (a2 : Int) (r : Bool) (w : World) (h : thrumlaw01_FixNegs.f k a0 a1 a2 = some r) :
    Calls Try.prog 7 #[.int .i64 a0, .int .i64 a1, .int .i64 a2] w fun e w' => e = .returned (.bool r) ∧ Below w.heap.size w w' := by
  have HB := Aside0.mk (Below.refl w.heap.size w)
  have H : ((thrumlaw01_live.f).bind fun t240 => (if t240 = true then ((fix_Mul.f a0 a1 0).bind fun bt241 => ((fix_Neg.f a0).bind fun bt243 => (if bt241.2 = 0 then (if bt243.2 = 0 then (thrumlaw01_FixNegs.j0 k a0 a1 (Int.tmod (wrap64 ((Int.tmod a2 31) + 31)) 31) t240 bt241.1 bt243.1 (bt241.1 != (-9223372036854775808))) else (thrumlaw01_FixNegs.j0 k a0 a1 (Int.tmod (wrap64 ((Int.tmod a2 31) + 31)) 31) t240 bt241.1 bt243.1 false)) else (thrumlaw01_FixNegs.j0 k a0 a1 (Int.tmod (wrap64 ((Int.tmod a2 31) + 31)) 31) t240 bt241.1 bt243.1 false)))) else (some false))) = some r := h
  clear h
  replace H := Option.bind_eq_some_iff.mp H
  obtain ⟨t240, A40, H⟩ := H
  replace H : (if t240 = true then ((fix_Mul.f a0 a1 0).bind fun bt241 => ((fix_Neg.f a0).bind fun bt243 => (if bt241.2 = 0 then (if bt243.2 = 0 then (thrumlaw01_FixNegs.j0 k a0 a1 (Int.tmod (wrap64 ((Int.tmod a2 31) + 31)) 31) t240 bt241.1 bt243.1 (bt241.1 != (-9223372036854775808))) else (thrumlaw01_FixNegs.j0 k a0 a1 (Int.tmod (wrap64 ((Int.tmod a2 31) + 31)) 31) t240 bt241.1 bt243.1 false)) else (thrumlaw01_FixNegs.j0 k a0 a1 (Int.tmod (wrap64 ((Int.tmod a2 31) + 31)) 31) t240 bt241.1 bt243.1 false)))) else (some false)) = some r := H
  have A4 := Aside0.mk A40
  clear A40
  by_cases c5 : t240 = true
  · subst c5
    have H1 : ((fix_Mul.f a0 a1 0).bind fun bt241 => ((fix_Neg.f a0).bind fun bt243 => (if bt241.2 = 0 then (if bt243.2 = 0 then (thrumlaw01_FixNegs.j0 k a0 a1 (Int.tmod (wrap64 ((Int.tmod a2 31) + 31)) 31) true bt241.1 bt243.1 (bt241.1 != (-9223372036854775808))) else (thrumlaw01_FixNegs.j0 k a0 a1 (Int.tmod (wrap64 ((Int.tmod a2 31) + 31)) 31) true bt241.1 bt243.1 false)) else (thrumlaw01_FixNegs.j0 k a0 a1 (Int.tmod (wrap64 ((Int.tmod a2 31) + 31)) 31) true bt241.1 bt243.1 false)))) = some r := by rw [if_pos rfl] at H; exact H
    clear H
    have H := H1
    clear H1
    replace H := Option.bind_eq_some_iff.mp H
    obtain ⟨⟨t241, t242⟩, A60, H⟩ := H
    replace H : ((fix_Neg.f a0).bind fun bt243 => (if t242 = 0 then (if bt243.2 = 0 then (thrumlaw01_FixNegs.j0 k a0 a1 (Int.tmod (wrap64 ((Int.tmod a2 31) + 31)) 31) true t241 bt243.1 (t241 != (-9223372036854775808))) else (thrumlaw01_FixNegs.j0 k a0 a1 (Int.tmod (wrap64 ((Int.tmod a2 31) + 31)) 31) true t241 bt243.1 false)) else (thrumlaw01_FixNegs.j0 k a0 a1 (Int.tmod (wrap64 ((Int.tmod a2 31) + 31)) 31) true t241 bt243.1 false))) = some r := H
    have A6 := Aside0.mk A60
    clear A60
    replace H := Option.bind_eq_some_iff.mp H
    obtain ⟨⟨t243, t244⟩, A70, H⟩ := H
    replace H : (if t242 = 0 then (if t244 = 0 then (thrumlaw01_FixNegs.j0 k a0 a1 (Int.tmod (wrap64 ((Int.tmod a2 31) + 31)) 31) true t241 t243 (t241 != (-9223372036854775808))) else (thrumlaw01_FixNegs.j0 k a0 a1 (Int.tmod (wrap64 ((Int.tmod a2 31) + 31)) 31) true t241 t243 false)) else (thrumlaw01_FixNegs.j0 k a0 a1 (Int.tmod (wrap64 ((Int.tmod a2 31) + 31)) 31) true t241 t243 false)) = some r := H
    have A7 := Aside0.mk A70
    clear A70
    have HC8 := Aside0.mk H
    clear H
    go_enter Try.func7, Try.ntmps7
    go_upto_region 7 with (first | ((with_reducible refine gate_callee (f := 29) rfl ?_); refine goesL_ (some 18) rfl rfl Try.func29 (by kernel_rfl) rfl #[] rfl (by (try simp only [List.map_toArray, List.map_cons, List.map_nil]); first | done | rfl | (simp only [List.length_drop, List.length_take]; rfl)) ?_; (with_reducible refine (thrumlaw01_live.calls  true _ A4.out).mono ?_); rintro e w9 ⟨rfl, hb⟩; refine ⟨_, rfl, ?_⟩; have n0_ := Aside0.mk (below_step (by repeat (first | (with_reducible first | exact HB.out | apply below_alloc | apply pw_below_drewN | apply below_drew1) | exact HB.out)) hb); clear HB; have HB := n0_; clear n0_; (try clear hb); (try clear hb2); (try clear hk); (try clear hi)) | ((with_reducible refine gate_callee (f := 30) rfl ?_); refine goesL_ (some 28) rfl rfl Try.func30 (by kernel_rfl) rfl #[.int .i64 a0, .int .i64 a1, .int .i64 0] rfl (by (try simp only [List.map_toArray, List.map_cons, List.map_nil]); first | done | rfl | (simp only [List.length_drop, List.length_take]; rfl)) ?_; (with_reducible refine (fix_Mul.calls a0 a1 0 t241 t242 _ A6.out).mono ?_); rintro e w10 ⟨rfl, hb⟩; refine ⟨_, rfl, ?_⟩; have n0_ := Aside0.mk (below_step (by repeat (first | (with_reducible first | exact HB.out | apply below_alloc | apply pw_below_drewN | apply below_drew1) | exact HB.out)) hb); clear HB; have HB := n0_; clear n0_; (try clear hb); (try clear hb2); (try clear hk); (try clear hi)) | ((with_reducible refine gate_callee (f := 37) rfl ?_); refine goesL_ (some 33) rfl rfl Try.func37 (by kernel_rfl) rfl #[.int .i64 a0] rfl (by (try simp only [List.map_toArray, List.map_cons, List.map_nil]); first | done | rfl | (simp only [List.length_drop, List.length_take]; rfl)) ?_; (with_reducible refine (fix_Neg.calls a0 t243 t244 _ A7.out).mono ?_); rintro e w' ⟨rfl, ⟨nd, rfl⟩⟩; refine ⟨_, rfl, ?_⟩))
    (try simp only [Act.put, List.setIfInBounds_toArray, List.set_cons_zero, List.set_cons_succ])
    go_cut [45] (fun v45 wc => ∃ (kq : Nat) (x45_7 : Bool), v45 = .bool x45_7 ∧ Aside0 (thrumlaw01_FixNegs.j0 kq a0 a1 (Int.tmod (wrap64 ((Int.tmod a2 31) + 31)) 31) true t241 t243 x45_7 = some r) ∧ Aside0 (kq ≤ k) ∧ Aside0 (Below w.heap.size w wc))
    case first =>
      have H := HC8.out
      clear HC8
      by_cases c11 : t242 = 0
      · rw [if_pos c11] at H
        have c11b0 : (t242 == 0) = true := beq_iff_eq.mpr c11
        have c11b1 : (t242 != 0) = false := bne_eq_false_iff_eq.mpr c11
        clear c11
        (first | rw [c11b0] | (simp only [i64_w, i32_w]; rw [c11b0]) | skip)
        by_cases c12 : t244 = 0
        · rw [if_pos c12] at H
          have c12b0 : (t244 == 0) = true := beq_iff_eq.mpr c12
          have c12b1 : (t244 != 0) = false := bne_eq_false_iff_eq.mpr c12
          clear c12
          have H' := Aside0.mk H
          clear H
          go_wp2
          go_meet
          case rel => exact ⟨_, ((t241 != (-9223372036854775808))), (by first | rfl | (simp; done) | (simp [*]; done)), H', ⟨by first | omega | exact Nat.le_refl _⟩, ⟨by repeat (first | (with_reducible first | exact HB.out | apply below_alloc | apply pw_below_drewN | apply below_drew1) | exact HB.out)⟩⟩
        · rw [if_neg c12] at H
          have c12b0 : (t244 == 0) = false := beq_eq_false_iff_ne.mpr c12
          have c12b1 : (t244 != 0) = true := bne_iff_ne.mpr c12
          have H' := Aside0.mk H
          clear H
          go_wp2
          go_meet
          case rel => exact ⟨_, (false), (by first | rfl | (simp; done) | (simp [*]; done)), H', ⟨by first | omega | exact Nat.le_refl _⟩, ⟨by repeat (first | (with_reducible first | exact HB.out | apply below_alloc | apply pw_below_drewN | apply below_drew1) | exact HB.out)⟩⟩
      · rw [if_neg c11] at H
        have c11b0 : (t242 == 0) = false := beq_eq_false_iff_ne.mpr c11
        have c11b1 : (t242 != 0) = true := bne_iff_ne.mpr c11
        (first | rw [c11b0] | (simp only [i64_w, i32_w]; rw [c11b0]) | skip)
        have H' := Aside0.mk H
        clear H
        go_wp2
        go_meet
        case rel => exact ⟨_, (false), (by first | rfl | (simp; done) | (simp [*]; done)), H', ⟨by first | omega | exact Nat.le_refl _⟩, ⟨by repeat (first | (with_reducible first | exact HB.out | apply below_alloc | apply pw_below_drewN | apply below_drew1) | exact HB.out)⟩⟩
    case rest =>
      clear HC8
      try clear c1
      try clear c2
      try clear p2
      try clear c3
      try clear c5
      try clear p6
      try clear c7
      try clear c11
      try clear c11b0
      try clear c11b1
      try clear c12
      try clear c12b0
      try clear c12b1
      obtain ⟨kq, x45_7, rfl, HA, HJ7, HB⟩ := hcut
      cases kq with
      | zero => exact absurd HA.out (by simp [thrumlaw01_FixNegs.j0])
      | succ kj7 =>
        have H := HA.out
        clear HA
        simp only [thrumlaw01_FixNegs.j0] at H
        by_cases c13 : x45_7 = true
        · subst c13
          have H1 : ((fix_Mul.f t243 a1 0).bind fun bt245 => (if bt245.2 = 0 then (thrumlaw01_FixNegs.j1 kj7 a0 (Int.tmod (wrap64 ((Int.tmod a2 31) + 31)) 31) true (bt245.1 != (wrap64 (-t241)))) else (thrumlaw01_FixNegs.j1 kj7 a0 (Int.tmod (wrap64 ((Int.tmod a2 31) + 31)) 31) true true))) = some r := by rw [if_pos rfl] at H; exact H
          clear H
          have H := H1
          clear H1
          replace H := Option.bind_eq_some_iff.mp H
          obtain ⟨⟨t245, t246⟩, A140, H⟩ := H
          replace H : (if t246 = 0 then (thrumlaw01_FixNegs.j1 kj7 a0 (Int.tmod (wrap64 ((Int.tmod a2 31) + 31)) 31) true (t245 != (wrap64 (-t241)))) else (thrumlaw01_FixNegs.j1 kj7 a0 (Int.tmod (wrap64 ((Int.tmod a2 31) + 31)) 31) true true)) = some r := H
          have A14 := Aside0.mk A140
          clear A140
          have HC15 := Aside0.mk H
          clear H
          go_upto_region 9 with (first | ((with_reducible refine gate_callee (f := 30) rfl ?_); refine goesL_ (some 49) rfl rfl Try.func30 (by kernel_rfl) rfl #[.int .i64 t243, .int .i64 a1, .int .i64 0] rfl (by (try simp only [List.map_toArray, List.map_cons, List.map_nil]); first | done | rfl | (simp only [List.length_drop, List.length_take]; rfl)) ?_; (with_reducible refine (fix_Mul.calls t243 a1 0 t245 t246 _ A14.out).mono ?_); rintro e w16 ⟨rfl, hb⟩; refine ⟨_, rfl, ?_⟩; have n0_ := Aside0.mk (below_step (by repeat (first | (with_reducible first | exact HB.out | apply below_alloc | apply pw_below_drewN | apply below_drew1) | exact HB.out)) hb); clear HB; have HB := n0_; clear n0_; (try clear hb); (try clear hb2); (try clear hk); (try clear hi)))
          (try simp only [Act.put, List.setIfInBounds_toArray, List.set_cons_zero, List.set_cons_succ])
          go_cut [59] (fun v59 wc => ∃ (kq : Nat) (x59_14 : Bool), v59 = .bool x59_14 ∧ Aside0 (thrumlaw01_FixNegs.j1 kq a0 (Int.tmod (wrap64 ((Int.tmod a2 31) + 31)) 31) true x59_14 = some r) ∧ Aside0 (kq ≤ kj7) ∧ Aside0 (Below w.heap.size w wc))
          case first =>
            have H := HC15.out
            clear HC15
            by_cases c17 : t246 = 0
            · rw [if_pos c17] at H
              have c17b0 : (t246 == 0) = true := beq_iff_eq.mpr c17
              have c17b1 : (t246 != 0) = false := bne_eq_false_iff_eq.mpr c17
              clear c17
              (first | rw [c17b0] | (simp only [i64_w, i32_w]; rw [c17b0]) | skip)
              have H' := Aside0.mk H
              clear H
              go_wp2
              go_meet
              case rel => exact ⟨_, ((t245 != (wrap64 (-t241)))), (by first | rfl | (simp; done) | (simp [*]; done)), H', ⟨by have := HJ7.out; first | omega | exact Nat.le_refl _⟩, ⟨by repeat (first | (with_reducible first | exact HB.out | apply below_alloc | apply pw_below_drewN | apply below_drew1) | exact HB.out)⟩⟩
            · rw [if_neg c17] at H
              have c17b0 : (t246 == 0) = false := beq_eq_false_iff_ne.mpr c17
              have c17b1 : (t246 != 0) = true := bne_iff_ne.mpr c17
              (first | rw [c17b0] | (simp only [i64_w, i32_w]; rw [c17b0]) | skip)
              have H' := Aside0.mk H
              clear H
              go_wp2
              go_meet
              case rel => exact ⟨_, (true), (by first | rfl | (simp; done) | (simp [*]; done)), H', ⟨by have := HJ7.out; first | omega | exact Nat.le_refl _⟩, ⟨by repeat (first | (with_reducible first | exact HB.out | apply below_alloc | apply pw_below_drewN | apply below_drew1) | exact HB.out)⟩⟩
          case rest =>
            clear HC15
            try clear c1
            try clear c2
            try clear p2
            try clear c3
            try clear c5
            try clear p6
            try clear c7
            try clear c11
            try clear c11b0
            try clear c11b1
            try clear c12
            try clear c12b0
            try clear c12b1
            try clear c13
            try clear c17
            try clear c17b0
            try clear c17b1
            try clear p2
            try clear p6
            obtain ⟨kq, x59_14, rfl, HA, HJ14, HB⟩ := hcut
            cases kq with
            | zero => exact absurd HA.out (by simp [thrumlaw01_FixNegs.j1])
            | succ kj14 =>
              have H := HA.out
              clear HA
              simp only [thrumlaw01_FixNegs.j1] at H
              by_cases c18 : x59_14 = true
              · subst c18
                have H1 : (some false) = some r := by rw [if_pos rfl] at H; exact H
                clear H
                have H := H1
                clear H1
                obtain rfl := Option.some.inj H
                go_wp2
                go_ret
                exact ⟨by first | rfl | (simp [errW_none, errW_some] <;> rfl) | (simp [*, errW_none, errW_some] <;> rfl), by repeat (first | (with_reducible first | exact HB.out | apply below_alloc | apply pw_below_drewN | apply below_drew1) | exact HB.out)⟩
              · replace c18 := Bool.eq_false_iff.mpr c18
                subst c18
                have H1 : (if 0 ≤ (Int.tmod (wrap64 ((Int.tmod a2 31) + 31)) 31) then ((fix_Mul.f a0 (shl .i64 1 (Int.tmod (wrap64 ((Int.tmod a2 31) + 31)) 31)) (Int.tmod (wrap64 ((Int.tmod a2 31) + 31)) 31)).bind fun bt247 => ((fix_Div.f a0 (shl .i64 1 (Int.tmod (wrap64 ((Int.tmod a2 31) + 31)) 31)) (Int.tmod (wrap64 ((Int.tmod a2 31) + 31)) 31)).bind fun bt249 => (if true = true then (if bt247.2 = 0 then (if bt247.1 = a0 then (if bt249.2 = 0 then (some (bt249.1 == a0)) else (some false)) else (some false)) else (some false)) else (some false)))) else (none)) = some r := by rw [if_neg (show ¬ (false = true) by decide)] at H; exact H
                clear H
                have H := H1
                clear H1
                obtain ⟨ji19, hji19⟩ : ∃ j_ : Int, (Int.tmod (wrap64 ((Int.tmod a2 31) + 31)) 31) = j_ := ⟨_, rfl⟩
                replace H : (if 0 ≤ (ji19) then ((fix_Mul.f a0 (shl .i64 1 (ji19)) (ji19)).bind fun bt247 => ((fix_Div.f a0 (shl .i64 1 (ji19)) (ji19)).bind fun bt249 => (if true = true then (if bt247.2 = 0 then (if bt247.1 = a0 then (if bt249.2 = 0 then (some (bt249.1 == a0)) else (some false)) else (some false)) else (some false)) else (some false)))) else (none)) = some r := by first | (rw [hji19] at H; exact H) | (simp only [hji19] at H ⊢; exact H)
                by_cases c20 : 0 ≤ (ji19)
                · rw [if_pos c20] at H
                  have c20b0 := eq_true c20
                  have c20b1 : decide (0 ≤ (ji19)) = true := decide_eq_true c20
                  clear c20
                  obtain ⟨ji21, hji21⟩ : ∃ j_ : Int, (shl .i64 1 (ji19)) = j_ := ⟨_, rfl⟩
                  replace H : ((fix_Mul.f a0 (ji21) (ji19)).bind fun bt247 => ((fix_Div.f a0 (ji21) (ji19)).bind fun bt249 => (if true = true then (if bt247.2 = 0 then (if bt247.1 = a0 then (if bt249.2 = 0 then (some (bt249.1 == a0)) else (some false)) else (some false)) else (some false)) else (some false)))) = some r := by first | (rw [hji21] at H; exact H) | (simp only [hji21] at H ⊢; exact H)
                  have hji21_ : (IntKind.i64.wrap (1 * 2 ^ min (ji19).toNat 64)) = ji21 := hji21
                  have hji21z : (ji19) ≤ 64 → (IntKind.i64.wrap (1 * 2 ^ (ji19).toNat)) = ji21 := shl_small hji21
                  have hji21u : (IntKind.i64.wrap (2 ^ min (ji19).toNat 64)) = ji21 := by have h_ := hji21_; rw [Int.one_mul] at h_; exact h_
                  have hji21v : (ji19) ≤ 64 → (IntKind.i64.wrap (2 ^ (ji19).toNat)) = ji21 := fun hle_ => by have h_ := hji21z hle_; rw [Int.one_mul] at h_; exact h_
                  have hji21y : (wrap64 (1 * 2 ^ min (ji19).toNat 64)) = ji21 := (i64_w _).symm.trans hji21_
                  have hji21x : (ji19) ≤ 64 → (wrap64 (1 * 2 ^ (ji19).toNat)) = ji21 := fun h_ => (i64_w _).symm.trans (hji21z h_)
                  replace H := Option.bind_eq_some_iff.mp H
                  obtain ⟨⟨t247, t248⟩, A220, H⟩ := H
                  replace H : ((fix_Div.f a0 (ji21) (ji19)).bind fun bt249 => (if true = true then (if t248 = 0 then (if t247 = a0 then (if bt249.2 = 0 then (some (bt249.1 == a0)) else (some false)) else (some false)) else (some false)) else (some false))) = some r := H
                  have A22 := Aside0.mk A220
                  clear A220
                  have c23b0 := eq_true (of_decide_eq_true (by first | (with_reducible assumption) | assumption) : 0 ≤ (ji19))
                  replace H := Option.bind_eq_some_iff.mp H
                  obtain ⟨⟨t249, t250⟩, A240, H⟩ := H
                  replace H : (if true = true then (if t248 = 0 then (if t247 = a0 then (if t250 = 0 then (some (t249 == a0)) else (some false)) else (some false)) else (some false)) else (some false)) = some r := H
                  have A24 := Aside0.mk A240
                  clear A240
                  rw [if_pos rfl] at H
                  by_cases c25 : t248 = 0
                  · rw [if_pos c25] at H
                    have c25b0 : (t248 == 0) = true := beq_iff_eq.mpr c25
                    have c25b1 : (t248 != 0) = false := bne_eq_false_iff_eq.mpr c25
                    clear c25
                    by_cases c26 : t247 = a0
                    · rw [if_pos c26] at H
                      have c26b0 : (t247 == a0) = true := beq_iff_eq.mpr c26
                      have c26b1 : (t247 != a0) = false := bne_eq_false_iff_eq.mpr c26
                      clear c26
                      by_cases c27 : t250 = 0
                      · rw [if_pos c27] at H
                        have c27b0 : (t250 == 0) = true := beq_iff_eq.mpr c27
                        have c27b1 : (t250 != 0) = false := bne_eq_false_iff_eq.mpr c27
                        clear c27
                        obtain rfl := Option.some.inj H
                        go_wp2_with (first | ((with_reducible refine gate_callee (f := 30) rfl ?_); refine goesL_ (some 65) rfl rfl Try.func30 (by kernel_rfl) rfl #[.int .i64 a0, .int .i64 ji21, .int .i64 (ji19)] rfl (by (try simp only [List.map_toArray, List.map_cons, List.map_nil]); first | done | (simp only [hji19, hji21]; rfl) | rfl | (simp only [List.length_drop, List.length_take]; rfl)) ?_; (with_reducible refine (fix_Mul.calls a0 ji21 (ji19) t247 t248 _ A22.out).mono ?_); rintro e w28 ⟨rfl, hb⟩; refine ⟨_, rfl, ?_⟩; have n0_ := Aside0.mk (below_step (by repeat (first | (with_reducible first | exact HB.out | apply below_alloc | apply pw_below_drewN | apply below_drew1) | exact HB.out)) hb); clear HB; have HB := n0_; clear n0_; (try clear hb); (try clear hb2); (try clear hk); (try clear hi)) | ((with_reducible refine gate_callee (f := 31) rfl ?_); refine goesL_ (some 73) rfl rfl Try.func31 (by kernel_rfl) rfl #[.int .i64 a0, .int .i64 ji21, .int .i64 (ji19)] rfl (by (try simp only [List.map_toArray, List.map_cons, List.map_nil]); first | done | (simp only [hji19, hji21]; rfl) | rfl | (simp only [List.length_drop, List.length_take]; rfl)) ?_; (with_reducible refine (fix_Div.calls a0 ji21 (ji19) t249 t250 _ A24.out).mono ?_); rintro e w' ⟨rfl, ⟨nd, rfl⟩⟩; refine ⟨_, rfl, ?_⟩))
                        go_ret
                        exact ⟨by first | rfl | (simp [errW_none, errW_some] <;> rfl) | (simp only [← hji19, ← hji21]; first | rfl | (simp [errW_none, errW_some] <;> rfl)) | (simp [*, errW_none, errW_some] <;> rfl), by repeat (first | (with_reducible first | exact HB.out | apply below_alloc | apply pw_below_drewN | apply below_drew1) | exact HB.out)⟩
                      · rw [if_neg c27] at H
                        have c27b0 : (t250 == 0) = false := beq_eq_false_iff_ne.mpr c27
                        have c27b1 : (t250 != 0) = true := bne_iff_ne.mpr c27
                        obtain rfl := Option.some.inj H
                        go_wp2_with (first | ((with_reducible refine gate_callee (f := 30) rfl ?_); refine goesL_ (some 65) rfl rfl Try.func30 (by kernel_rfl) rfl #[.int .i64 a0, .int .i64 ji21, .int .i64 (ji19)] rfl (by (try simp only [List.map_toArray, List.map_cons, List.map_nil]); first | done | (simp only [hji19, hji21]; rfl) | rfl | (simp only [List.length_drop, List.length_take]; rfl)) ?_; (with_reducible refine (fix_Mul.calls a0 ji21 (ji19) t247 t248 _ A22.out).mono ?_); rintro e w29 ⟨rfl, hb⟩; refine ⟨_, rfl, ?_⟩; have n0_ := Aside0.mk (below_step (by repeat (first | (with_reducible first | exact HB.out | apply below_alloc | apply pw_below_drewN | apply below_drew1) | exact HB.out)) hb); clear HB; have HB := n0_; clear n0_; (try clear hb); (try clear hb2); (try clear hk); (try clear hi)) | ((with_reducible refine gate_callee (f := 31) rfl ?_); refine goesL_ (some 73) rfl rfl Try.func31 (by kernel_rfl) rfl #[.int .i64 a0, .int .i64 ji21, .int .i64 (ji19)] rfl (by (try simp only [List.map_toArray, List.map_cons, List.map_nil]); first | done | (simp only [hji19, hji21]; rfl) | rfl | (simp only [List.length_drop, List.length_take]; rfl)) ?_; (with_reducible refine (fix_Div.calls a0 ji21 (ji19) t249 t250 _ A24.out).mono ?_); rintro e w' ⟨rfl, ⟨nd, rfl⟩⟩; refine ⟨_, rfl, ?_⟩))
                        go_ret
                        exact ⟨by first | rfl | (simp [errW_none, errW_some] <;> rfl) | (simp only [← hji19, ← hji21]; first | rfl | (simp [errW_none, errW_some] <;> rfl)) | (simp [*, errW_none, errW_some] <;> rfl), by repeat (first | (with_reducible first | exact HB.out | apply below_alloc | apply pw_below_drewN | apply below_drew1) | exact HB.out)⟩
                    · rw [if_neg c26] at H
                      have c26b0 : (t247 == a0) = false := beq_eq_false_iff_ne.mpr c26
                      have c26b1 : (t247 != a0) = true := bne_iff_ne.mpr c26
                      obtain rfl := Option.some.inj H
                      go_wp2_with (first | ((with_reducible refine gate_callee (f := 30) rfl ?_); refine goesL_ (some 65) rfl rfl Try.func30 (by kernel_rfl) rfl #[.int .i64 a0, .int .i64 ji21, .int .i64 (ji19)] rfl (by (try simp only [List.map_toArray, List.map_cons, List.map_nil]); first | done | (simp only [hji19, hji21]; rfl) | rfl | (simp only [List.length_drop, List.length_take]; rfl)) ?_; (with_reducible refine (fix_Mul.calls a0 ji21 (ji19) t247 t248 _ A22.out).mono ?_); rintro e w30 ⟨rfl, hb⟩; refine ⟨_, rfl, ?_⟩; have n0_ := Aside0.mk (below_step (by repeat (first | (with_reducible first | exact HB.out | apply below_alloc | apply pw_below_drewN | apply below_drew1) | exact HB.out)) hb); clear HB; have HB := n0_; clear n0_; (try clear hb); (try clear hb2); (try clear hk); (try clear hi)) | ((with_reducible refine gate_callee (f := 31) rfl ?_); refine goesL_ (some 73) rfl rfl Try.func31 (by kernel_rfl) rfl #[.int .i64 a0, .int .i64 ji21, .int .i64 (ji19)] rfl (by (try simp only [List.map_toArray, List.map_cons, List.map_nil]); first | done | (simp only [hji19, hji21]; rfl) | rfl | (simp only [List.length_drop, List.length_take]; rfl)) ?_; (with_reducible refine (fix_Div.calls a0 ji21 (ji19) t249 t250 _ A24.out).mono ?_); rintro e w' ⟨rfl, ⟨nd, rfl⟩⟩; refine ⟨_, rfl, ?_⟩))
                      go_ret
                      exact ⟨by first | rfl | (simp [errW_none, errW_some] <;> rfl) | (simp only [← hji19, ← hji21]; first | rfl | (simp [errW_none, errW_some] <;> rfl)) | (simp [*, errW_none, errW_some] <;> rfl), by repeat (first | (with_reducible first | exact HB.out | apply below_alloc | apply pw_below_drewN | apply below_drew1) | exact HB.out)⟩
                  · rw [if_neg c25] at H
                    have c25b0 : (t248 == 0) = false := beq_eq_false_iff_ne.mpr c25
                    have c25b1 : (t248 != 0) = true := bne_iff_ne.mpr c25
                    obtain rfl := Option.some.inj H
                    go_wp2_with (first | ((with_reducible refine gate_callee (f := 30) rfl ?_); refine goesL_ (some 65) rfl rfl Try.func30 (by kernel_rfl) rfl #[.int .i64 a0, .int .i64 ji21, .int .i64 (ji19)] rfl (by (try simp only [List.map_toArray, List.map_cons, List.map_nil]); first | done | (simp only [hji19, hji21]; rfl) | rfl | (simp only [List.length_drop, List.length_take]; rfl)) ?_; (with_reducible refine (fix_Mul.calls a0 ji21 (ji19) t247 t248 _ A22.out).mono ?_); rintro e w31 ⟨rfl, hb⟩; refine ⟨_, rfl, ?_⟩; have n0_ := Aside0.mk (below_step (by repeat (first | (with_reducible first | exact HB.out | apply below_alloc | apply pw_below_drewN | apply below_drew1) | exact HB.out)) hb); clear HB; have HB := n0_; clear n0_; (try clear hb); (try clear hb2); (try clear hk); (try clear hi)) | ((with_reducible refine gate_callee (f := 31) rfl ?_); refine goesL_ (some 73) rfl rfl Try.func31 (by kernel_rfl) rfl #[.int .i64 a0, .int .i64 ji21, .int .i64 (ji19)] rfl (by (try simp only [List.map_toArray, List.map_cons, List.map_nil]); first | done | (simp only [hji19, hji21]; rfl) | rfl | (simp only [List.length_drop, List.length_take]; rfl)) ?_; (with_reducible refine (fix_Div.calls a0 ji21 (ji19) t249 t250 _ A24.out).mono ?_); rintro e w' ⟨rfl, ⟨nd, rfl⟩⟩; refine ⟨_, rfl, ?_⟩))
                    go_ret
                    exact ⟨by first | rfl | (simp [errW_none, errW_some] <;> rfl) | (simp only [← hji19, ← hji21]; first | rfl | (simp [errW_none, errW_some] <;> rfl)) | (simp [*, errW_none, errW_some] <;> rfl), by repeat (first | (with_reducible first | exact HB.out | apply below_alloc | apply pw_below_drewN | apply below_drew1) | exact HB.out)⟩
                · rw [if_neg c20] at H
                  exact absurd H (by simp)
        · replace c13 := Bool.eq_false_iff.mpr c13
          subst c13
          have H1 : (if 0 ≤ (Int.tmod (wrap64 ((Int.tmod a2 31) + 31)) 31) then ((fix_Mul.f a0 (shl .i64 1 (Int.tmod (wrap64 ((Int.tmod a2 31) + 31)) 31)) (Int.tmod (wrap64 ((Int.tmod a2 31) + 31)) 31)).bind fun bt251 => ((fix_Div.f a0 (shl .i64 1 (Int.tmod (wrap64 ((Int.tmod a2 31) + 31)) 31)) (Int.tmod (wrap64 ((Int.tmod a2 31) + 31)) 31)).bind fun bt253 => (if true = true then (if bt251.2 = 0 then (if bt251.1 = a0 then (if bt253.2 = 0 then (some (bt253.1 == a0)) else (some false)) else (some false)) else (some false)) else (some false)))) else (none)) = some r := by rw [if_neg (show ¬ (false = true) by decide)] at H; exact H
          clear H
          have H := H1
          clear H1
          obtain ⟨ji32, hji32⟩ : ∃ j_ : Int, (Int.tmod (wrap64 ((Int.tmod a2 31) + 31)) 31) = j_ := ⟨_, rfl⟩
          replace H : (if 0 ≤ (ji32) then ((fix_Mul.f a0 (shl .i64 1 (ji32)) (ji32)).bind fun bt251 => ((fix_Div.f a0 (shl .i64 1 (ji32)) (ji32)).bind fun bt253 => (if true = true then (if bt251.2 = 0 then (if bt251.1 = a0 then (if bt253.2 = 0 then (some (bt253.1 == a0)) else (some false)) else (some false)) else (some false)) else (some false)))) else (none)) = some r := by first | (rw [hji32] at H; exact H) | (simp only [hji32] at H ⊢; exact H)
          by_cases c33 : 0 ≤ (ji32)
          · rw [if_pos c33] at H
            have c33b0 := eq_true c33
            have c33b1 : decide (0 ≤ (ji32)) = true := decide_eq_true c33
            clear c33
            obtain ⟨ji34, hji34⟩ : ∃ j_ : Int, (shl .i64 1 (ji32)) = j_ := ⟨_, rfl⟩
            replace H : ((fix_Mul.f a0 (ji34) (ji32)).bind fun bt251 => ((fix_Div.f a0 (ji34) (ji32)).bind fun bt253 => (if true = true then (if bt251.2 = 0 then (if bt251.1 = a0 then (if bt253.2 = 0 then (some (bt253.1 == a0)) else (some false)) else (some false)) else (some false)) else (some false)))) = some r := by first | (rw [hji34] at H; exact H) | (simp only [hji34] at H ⊢; exact H)
            have hji34_ : (IntKind.i64.wrap (1 * 2 ^ min (ji32).toNat 64)) = ji34 := hji34
            have hji34z : (ji32) ≤ 64 → (IntKind.i64.wrap (1 * 2 ^ (ji32).toNat)) = ji34 := shl_small hji34
            have hji34u : (IntKind.i64.wrap (2 ^ min (ji32).toNat 64)) = ji34 := by have h_ := hji34_; rw [Int.one_mul] at h_; exact h_
            have hji34v : (ji32) ≤ 64 → (IntKind.i64.wrap (2 ^ (ji32).toNat)) = ji34 := fun hle_ => by have h_ := hji34z hle_; rw [Int.one_mul] at h_; exact h_
            have hji34y : (wrap64 (1 * 2 ^ min (ji32).toNat 64)) = ji34 := (i64_w _).symm.trans hji34_
            have hji34x : (ji32) ≤ 64 → (wrap64 (1 * 2 ^ (ji32).toNat)) = ji34 := fun h_ => (i64_w _).symm.trans (hji34z h_)
            replace H := Option.bind_eq_some_iff.mp H
            obtain ⟨⟨t251, t252⟩, A350, H⟩ := H
            replace H : ((fix_Div.f a0 (ji34) (ji32)).bind fun bt253 => (if true = true then (if t252 = 0 then (if t251 = a0 then (if bt253.2 = 0 then (some (bt253.1 == a0)) else (some false)) else (some false)) else (some false)) else (some false))) = some r := H
            have A35 := Aside0.mk A350
            clear A350
            have c36b0 := eq_true (of_decide_eq_true (by first | (with_reducible assumption) | assumption) : 0 ≤ (ji32))
            replace H := Option.bind_eq_some_iff.mp H
            obtain ⟨⟨t253, t254⟩, A370, H⟩ := H
            replace H : (if true = true then (if t252 = 0 then (if t251 = a0 then (if t254 = 0 then (some (t253 == a0)) else (some false)) else (some false)) else (some false)) else (some false)) = some r := H
            have A37 := Aside0.mk A370
            clear A370
            rw [if_pos rfl] at H
            by_cases c38 : t252 = 0
            · rw [if_pos c38] at H
              have c38b0 : (t252 == 0) = true := beq_iff_eq.mpr c38
              have c38b1 : (t252 != 0) = false := bne_eq_false_iff_eq.mpr c38
              clear c38
              by_cases c39 : t251 = a0
              · rw [if_pos c39] at H
                have c39b0 : (t251 == a0) = true := beq_iff_eq.mpr c39
                have c39b1 : (t251 != a0) = false := bne_eq_false_iff_eq.mpr c39
                clear c39
                by_cases c40 : t254 = 0
                · rw [if_pos c40] at H
                  have c40b0 : (t254 == 0) = true := beq_iff_eq.mpr c40
                  have c40b1 : (t254 != 0) = false := bne_eq_false_iff_eq.mpr c40
                  clear c40
                  obtain rfl := Option.some.inj H
                  go_wp2_with (first | ((with_reducible refine gate_callee (f := 30) rfl ?_); refine goesL_ (some 65) rfl rfl Try.func30 (by kernel_rfl) rfl #[.int .i64 a0, .int .i64 ji34, .int .i64 (ji32)] rfl (by (try simp only [List.map_toArray, List.map_cons, List.map_nil]); first | done | (simp only [hji32, hji34]; rfl) | rfl | (simp only [List.length_drop, List.length_take]; rfl)) ?_; (with_reducible refine (fix_Mul.calls a0 ji34 (ji32) t251 t252 _ A35.out).mono ?_); rintro e w41 ⟨rfl, hb⟩; refine ⟨_, rfl, ?_⟩; have n0_ := Aside0.mk (below_step (by repeat (first | (with_reducible first | exact HB.out | apply below_alloc | apply pw_below_drewN | apply below_drew1) | exact HB.out)) hb); clear HB; have HB := n0_; clear n0_; (try clear hb); (try clear hb2); (try clear hk); (try clear hi)) | ((with_reducible refine gate_callee (f := 31) rfl ?_); refine goesL_ (some 73) rfl rfl Try.func31 (by kernel_rfl) rfl #[.int .i64 a0, .int .i64 ji34, .int .i64 (ji32)] rfl (by (try simp only [List.map_toArray, List.map_cons, List.map_nil]); first | done | (simp only [hji32, hji34]; rfl) | rfl | (simp only [List.length_drop, List.length_take]; rfl)) ?_; (with_reducible refine (fix_Div.calls a0 ji34 (ji32) t253 t254 _ A37.out).mono ?_); rintro e w' ⟨rfl, ⟨nd, rfl⟩⟩; refine ⟨_, rfl, ?_⟩))
                  go_ret
                  exact ⟨by first | rfl | (simp [errW_none, errW_some] <;> rfl) | (simp only [← hji32, ← hji34]; first | rfl | (simp [errW_none, errW_some] <;> rfl)) | (simp [*, errW_none, errW_some] <;> rfl), by repeat (first | (with_reducible first | exact HB.out | apply below_alloc | apply pw_below_drewN | apply below_drew1) | exact HB.out)⟩
                · rw [if_neg c40] at H
                  have c40b0 : (t254 == 0) = false := beq_eq_false_iff_ne.mpr c40
                  have c40b1 : (t254 != 0) = true := bne_iff_ne.mpr c40
                  obtain rfl := Option.some.inj H
                  go_wp2_with (first | ((with_reducible refine gate_callee (f := 30) rfl ?_); refine goesL_ (some 65) rfl rfl Try.func30 (by kernel_rfl) rfl #[.int .i64 a0, .int .i64 ji34, .int .i64 (ji32)] rfl (by (try simp only [List.map_toArray, List.map_cons, List.map_nil]); first | done | (simp only [hji32, hji34]; rfl) | rfl | (simp only [List.length_drop, List.length_take]; rfl)) ?_; (with_reducible refine (fix_Mul.calls a0 ji34 (ji32) t251 t252 _ A35.out).mono ?_); rintro e w42 ⟨rfl, hb⟩; refine ⟨_, rfl, ?_⟩; have n0_ := Aside0.mk (below_step (by repeat (first | (with_reducible first | exact HB.out | apply below_alloc | apply pw_below_drewN | apply below_drew1) | exact HB.out)) hb); clear HB; have HB := n0_; clear n0_; (try clear hb); (try clear hb2); (try clear hk); (try clear hi)) | ((with_reducible refine gate_callee (f := 31) rfl ?_); refine goesL_ (some 73) rfl rfl Try.func31 (by kernel_rfl) rfl #[.int .i64 a0, .int .i64 ji34, .int .i64 (ji32)] rfl (by (try simp only [List.map_toArray, List.map_cons, List.map_nil]); first | done | (simp only [hji32, hji34]; rfl) | rfl | (simp only [List.length_drop, List.length_take]; rfl)) ?_; (with_reducible refine (fix_Div.calls a0 ji34 (ji32) t253 t254 _ A37.out).mono ?_); rintro e w' ⟨rfl, ⟨nd, rfl⟩⟩; refine ⟨_, rfl, ?_⟩))
                  go_ret
                  exact ⟨by first | rfl | (simp [errW_none, errW_some] <;> rfl) | (simp only [← hji32, ← hji34]; first | rfl | (simp [errW_none, errW_some] <;> rfl)) | (simp [*, errW_none, errW_some] <;> rfl), by repeat (first | (with_reducible first | exact HB.out | apply below_alloc | apply pw_below_drewN | apply below_drew1) | exact HB.out)⟩
              · rw [if_neg c39] at H
                have c39b0 : (t251 == a0) = false := beq_eq_false_iff_ne.mpr c39
                have c39b1 : (t251 != a0) = true := bne_iff_ne.mpr c39
                obtain rfl := Option.some.inj H
                go_wp2_with (first | ((with_reducible refine gate_callee (f := 30) rfl ?_); refine goesL_ (some 65) rfl rfl Try.func30 (by kernel_rfl) rfl #[.int .i64 a0, .int .i64 ji34, .int .i64 (ji32)] rfl (by (try simp only [List.map_toArray, List.map_cons, List.map_nil]); first | done | (simp only [hji32, hji34]; rfl) | rfl | (simp only [List.length_drop, List.length_take]; rfl)) ?_; (with_reducible refine (fix_Mul.calls a0 ji34 (ji32) t251 t252 _ A35.out).mono ?_); rintro e w43 ⟨rfl, hb⟩; refine ⟨_, rfl, ?_⟩; have n0_ := Aside0.mk (below_step (by repeat (first | (with_reducible first | exact HB.out | apply below_alloc | apply pw_below_drewN | apply below_drew1) | exact HB.out)) hb); clear HB; have HB := n0_; clear n0_; (try clear hb); (try clear hb2); (try clear hk); (try clear hi)) | ((with_reducible refine gate_callee (f := 31) rfl ?_); refine goesL_ (some 73) rfl rfl Try.func31 (by kernel_rfl) rfl #[.int .i64 a0, .int .i64 ji34, .int .i64 (ji32)] rfl (by (try simp only [List.map_toArray, List.map_cons, List.map_nil]); first | done | (simp only [hji32, hji34]; rfl) | rfl | (simp only [List.length_drop, List.length_take]; rfl)) ?_; (with_reducible refine (fix_Div.calls a0 ji34 (ji32) t253 t254 _ A37.out).mono ?_); rintro e w' ⟨rfl, ⟨nd, rfl⟩⟩; refine ⟨_, rfl, ?_⟩))
                go_ret
                exact ⟨by first | rfl | (simp [errW_none, errW_some] <;> rfl) | (simp only [← hji32, ← hji34]; first | rfl | (simp [errW_none, errW_some] <;> rfl)) | (simp [*, errW_none, errW_some] <;> rfl), by repeat (first | (with_reducible first | exact HB.out | apply below_alloc | apply pw_below_drewN | apply below_drew1) | exact HB.out)⟩
            · rw [if_neg c38] at H
              have c38b0 : (t252 == 0) = false := beq_eq_false_iff_ne.mpr c38
              have c38b1 : (t252 != 0) = true := bne_iff_ne.mpr c38
              obtain rfl := Option.some.inj H
              go_wp2_with (first | ((with_reducible refine gate_callee (f := 30) rfl ?_); refine goesL_ (some 65) rfl rfl Try.func30 (by kernel_rfl) rfl #[.int .i64 a0, .int .i64 ji34, .int .i64 (ji32)] rfl (by (try simp only [List.map_toArray, List.map_cons, List.map_nil]); first | done | (simp only [hji32, hji34]; rfl) | rfl | (simp only [List.length_drop, List.length_take]; rfl)) ?_; (with_reducible refine (fix_Mul.calls a0 ji34 (ji32) t251 t252 _ A35.out).mono ?_); rintro e w44 ⟨rfl, hb⟩; refine ⟨_, rfl, ?_⟩; have n0_ := Aside0.mk (below_step (by repeat (first | (with_reducible first | exact HB.out | apply below_alloc | apply pw_below_drewN | apply below_drew1) | exact HB.out)) hb); clear HB; have HB := n0_; clear n0_; (try clear hb); (try clear hb2); (try clear hk); (try clear hi)) | ((with_reducible refine gate_callee (f := 31) rfl ?_); refine goesL_ (some 73) rfl rfl Try.func31 (by kernel_rfl) rfl #[.int .i64 a0, .int .i64 ji34, .int .i64 (ji32)] rfl (by (try simp only [List.map_toArray, List.map_cons, List.map_nil]); first | done | (simp only [hji32, hji34]; rfl) | rfl | (simp only [List.length_drop, List.length_take]; rfl)) ?_; (with_reducible refine (fix_Div.calls a0 ji34 (ji32) t253 t254 _ A37.out).mono ?_); rintro e w' ⟨rfl, ⟨nd, rfl⟩⟩; refine ⟨_, rfl, ?_⟩))
              go_ret
              exact ⟨by first | rfl | (simp [errW_none, errW_some] <;> rfl) | (simp only [← hji32, ← hji34]; first | rfl | (simp [errW_none, errW_some] <;> rfl)) | (simp [*, errW_none, errW_some] <;> rfl), by repeat (first | (with_reducible first | exact HB.out | apply below_alloc | apply pw_below_drewN | apply below_drew1) | exact HB.out)⟩
          · rw [if_neg c33] at H
            exact absurd H (by simp)
  · replace c5 := Bool.eq_false_iff.mpr c5
    subst c5
    have H1 : (some false) = some r := by rw [if_neg (show ¬ (false = true) by decide)] at H; exact H
    clear H
    have H := H1
    clear H1
    obtain rfl := Option.some.inj H
    go_enter Try.func7, Try.ntmps7
    go_wp2_with (first | ((with_reducible refine gate_callee (f := 29) rfl ?_); refine goesL_ (some 18) rfl rfl Try.func29 (by kernel_rfl) rfl #[] rfl (by (try simp only [List.map_toArray, List.map_cons, List.map_nil]); first | done | rfl | (simp only [List.length_drop, List.length_take]; rfl)) ?_; (with_reducible refine (thrumlaw01_live.calls  false _ A4.out).mono ?_); rintro e w45 ⟨rfl, hb⟩; refine ⟨_, rfl, ?_⟩; have n0_ := Aside0.mk (below_step (by repeat (first | (with_reducible first | exact HB.out | apply below_alloc | apply pw_below_drewN | apply below_drew1) | exact HB.out)) hb); clear HB; have HB := n0_; clear n0_; (try clear hb); (try clear hb2); (try clear hk); (try clear hi)))
    go_ret
    exact ⟨by first | rfl | (simp [errW_none, errW_some] <;> rfl) | (simp [*, errW_none, errW_some] <;> rfl), by repeat (first | (with_reducible first | exact HB.out | apply below_alloc | apply pw_below_drewN | apply below_drew1) | exact HB.out)⟩

/-- THE ONE PURE STATEMENT of thrumlaw01_FixNegs: yours. -/
def thrumlaw01_FixNegs.Pure : Prop := ∀ (a0 : Int) (a1 : Int) (a2 : Int), (Lit.int .i64 a0).wf = true → (Lit.int .i64 a1).wf = true → (Lit.int .i64 a2).wf = true → ∃ k, thrumlaw01_FixNegs.f k a0 a1 a2 = some true
theorem thrumlaw01_FixNegs.walk (P : thrumlaw01_FixNegs.Pure) (a0 : Int) (a1 : Int) (a2 : Int) (w : World) (w0 : (Lit.int .i64 a0).wf = true) (w1 : (Lit.int .i64 a1).wf = true) (w2 : (Lit.int .i64 a2).wf = true) :
    Calls Try.prog 7 #[.int .i64 a0, .int .i64 a1, .int .i64 a2] w fun e w' => e = .returned (.bool true) ∧ Below w.heap.size w w' := by
  obtain ⟨k, h⟩ := P a0 a1 a2 w0 w1 w2
  refine (thrumlaw01_FixNegs.calls k a0 a1 a2 true w h).mono ?_
  rintro e w' ⟨rfl, hd⟩
  exact ⟨rfl, hd⟩

end Go.Proofs.Ytllicjinmlkcfaa.HA
