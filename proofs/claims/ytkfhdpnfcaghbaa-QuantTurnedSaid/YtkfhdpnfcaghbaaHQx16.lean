/- What a Go function does, and the proof of it, in every world. -/
import Derived.Test.YtkfhdpnfcaghbaaHQx0
import Derived.Test.YtkfhdpnfcaghbaaHQx6
import Derived.Test.YtkfhdpnfcaghbaaHQx13
import Derived.Test.YtkfhdpnfcaghbaaHQx14
import Derived.Test.YtkfhdpnfcaghbaaHQx15
namespace Go.Proofs.Ytkfhdpnfcaghbaa.HQ
open Go.RowKit Go.Proofs.YtkfhdpnfcaghbaaW.PrintWords Go.Proofs.YtkfhdpnfcaghbaaW.PrintLast Go.Proofs.YtkfhdpnfcaghbaaW.PrintMore
attribute [local go_sem] max2_int min2_int max_two min_two max_three min_three max_four min_four   -- for this text's walks alone
open Go.Proofs.Ytkfhdpnfcaghbaa.Sp
attribute [local go_sem] Go.Proofs.Ytkfhdpnfcaghbaa.Sp.u64_not
set_option linter.unusedVariables false
set_option linter.unusedSimpArgs false

set_option maxHeartbeats 80000000 in
set_option maxRecDepth 100000 in
theorem thrumlaw10_QuantTurned.calls (k : Nat) (A0 : Option Addr) (c0 : Nat) (l0 : List Int) (a1 : Int) (a2 : Int) (A3 : Option Addr) (c3 : Nat) (l3 : List Int) (r : Bool) (w : World) (hr0 : Kd.C (Kd.int .i64) w A0 l0.length l0) (hc0 : l0.length ≤ c0) (hr3 : Kd.C (Kd.int .i64) w A3 l3.length l3) (hc3 : l3.length ≤ c3) (h : thrumlaw10_QuantTurned.f k l0 a1 a2 l3 = some r) (hr_ : r = true) :
  Calls Try.prog 8 #[.slice A0 l0.length c0, .int .i64 a1, .int .u64 a2, .slice A3 l3.length c3] w fun e w' => e = .returned (.bool r) ∧ Below w.heap.size w w' := by
 have HR_ := Aside0.mk hr_
 clear hr_
 have hu30 := Try.underlying30
 have HR0 := Aside0.mk hr0
 have HC0 := Aside0.mk hc0
 clear hr0 hc0
 have HR3 := Aside0.mk hr3
 have HC3 := Aside0.mk hc3
 clear hr3 hc3
 have HB := Aside0.mk (Below.refl w.heap.size w)
 have H : ((thrumlaw10_live.f).bind fun t199 => (if t199 = true then ((thrumlaw10_few.f l0 l3).bind fun t200 => (if t200 = true then (thrumlaw10_QuantTurned.j0 k l0 a1 a2 l3 t199 (decide ((l0.length : Int) > 200))) else (thrumlaw10_QuantTurned.j0 k l0 a1 a2 l3 t199 true))) else (some false))) = some r := h
 clear h
 replace H := Option.bind_eq_some_iff.mp H
 obtain ⟨t199, A50, H⟩ := H
 replace H : (if t199 = true then ((thrumlaw10_few.f l0 l3).bind fun t200 => (if t200 = true then (thrumlaw10_QuantTurned.j0 k l0 a1 a2 l3 t199 (decide ((l0.length : Int) > 200))) else (thrumlaw10_QuantTurned.j0 k l0 a1 a2 l3 t199 true))) else (some false)) = some r := H
 have A5 := Aside0.mk A50
 clear A50
 by_cases c6 : t199 = true
 ·
  subst c6
  have H1 : ((thrumlaw10_few.f l0 l3).bind fun t200 => (if t200 = true then (thrumlaw10_QuantTurned.j0 k l0 a1 a2 l3 true (decide ((l0.length : Int) > 200))) else (thrumlaw10_QuantTurned.j0 k l0 a1 a2 l3 true true))) = some r := by rw [if_pos rfl] at H; exact H
  clear H
  have H := H1
  clear H1
  have HC7 := Aside0.mk H
  clear H
  go_enter Try.func8, Try.ntmps8
  go_upto_region 4 with (first | (go_at_call 44; (with_reducible refine (thrumlaw10_live.calls  true _ A5.out).mono ?_); rintro e w8 ⟨rfl, hb⟩; have n0_ := Aside0.mk (zzT (by repeat (first | (with_reducible first | exact HB.out | apply zzA | apply zzN | apply zzD) | exact HB.out)) hb); clear HB; have HB := n0_; clear n0_; (try clear hb); (try clear hi)))
  repeat (go_quiet (first | (go_at_call 44; (with_reducible refine (thrumlaw10_live.calls  true _ A5.out).mono ?_); rintro e w8 ⟨rfl, hb⟩; have n0_ := Aside0.mk (zzT (by repeat (first | (with_reducible first | exact HB.out | apply zzA | apply zzN | apply zzD) | exact HB.out)) hb); clear HB; have HB := n0_; clear n0_; (try clear hb); (try clear hi))); go_upto_region 4 with (first | (go_at_call 44; (with_reducible refine (thrumlaw10_live.calls  true _ A5.out).mono ?_); rintro e w8 ⟨rfl, hb⟩; have n0_ := Aside0.mk (zzT (by repeat (first | (with_reducible first | exact HB.out | apply zzA | apply zzN | apply zzD) | exact HB.out)) hb); clear HB; have HB := n0_; clear n0_; (try clear hb); (try clear hi))))
  (try simp only [Act.put, List.setIfInBounds_toArray, List.set_cons_zero, List.set_cons_succ])
  go_cut [32] (fun v32 wc => ∃ (kq : Nat) (x32_6 : Bool), v32 = .bool x32_6 ∧ Aside0 (thrumlaw10_QuantTurned.j0 kq l0 a1 a2 l3 true x32_6 = some r) ∧ Aside0 (kq ≤ k) ∧ Aside0 (Below w.heap.size w wc))
  case first =>
   have H := HC7.out
   clear HC7
   replace H := Option.bind_eq_some_iff.mp H
   obtain ⟨t200, A90, H⟩ := H
   replace H : (if t200 = true then (thrumlaw10_QuantTurned.j0 k l0 a1 a2 l3 true (decide ((l0.length : Int) > 200))) else (thrumlaw10_QuantTurned.j0 k l0 a1 a2 l3 true true)) = some r := H
   have A9 := Aside0.mk A90
   clear A90
   by_cases c10 : t200 = true
   ·
    subst c10
    have H1 : (thrumlaw10_QuantTurned.j0 k l0 a1 a2 l3 true (decide ((l0.length : Int) > 200))) = some r := by rw [if_pos rfl] at H; exact H
    clear H
    have H := H1
    clear H1
    focus
     have H' := Aside0.mk H
     clear H
     go_wp2_with (first | (go_at_call 45; (with_reducible refine (thrumlaw10_few.calls _ _ l0 _ _ l3 true _ ?side1 ?side2 ?side3 ?side4 A9.out).mono ?_); (case side1 => repeat (first | exact (Kd.C_below HR0.out HB.out) | (with_reducible refine ccA ?_ _) | (with_reducible refine ccN ?_ _) | (with_reducible refine ccD ?_))); (case side2 => exact HC0.out); (case side3 => repeat (first | exact (Kd.C_below HR3.out HB.out) | (with_reducible refine ccA ?_ _) | (with_reducible refine ccN ?_ _) | (with_reducible refine ccD ?_))); (case side4 => exact HC3.out); rintro e w' ⟨rfl, ⟨nd, rfl⟩⟩; (try first | exact ⟨rfl, _, wwN _ _ _⟩ | exact ⟨rfl, _, ww3 _ _ _ _⟩)))
     repeat (go_quiet (first | (go_at_call 45; (with_reducible refine (thrumlaw10_few.calls _ _ l0 _ _ l3 true _ ?side1 ?side2 ?side3 ?side4 A9.out).mono ?_); (case side1 => repeat (first | exact (Kd.C_below HR0.out HB.out) | (with_reducible refine ccA ?_ _) | (with_reducible refine ccN ?_ _) | (with_reducible refine ccD ?_))); (case side2 => exact HC0.out); (case side3 => repeat (first | exact (Kd.C_below HR3.out HB.out) | (with_reducible refine ccA ?_ _) | (with_reducible refine ccN ?_ _) | (with_reducible refine ccD ?_))); (case side4 => exact HC3.out); rintro e w' ⟨rfl, ⟨nd, rfl⟩⟩; (try first | exact ⟨rfl, _, wwN _ _ _⟩ | exact ⟨rfl, _, ww3 _ _ _ _⟩))); try go_wp2_with (first | (go_at_call 45; (with_reducible refine (thrumlaw10_few.calls _ _ l0 _ _ l3 true _ ?side1 ?side2 ?side3 ?side4 A9.out).mono ?_); (case side1 => repeat (first | exact (Kd.C_below HR0.out HB.out) | (with_reducible refine ccA ?_ _) | (with_reducible refine ccN ?_ _) | (with_reducible refine ccD ?_))); (case side2 => exact HC0.out); (case side3 => repeat (first | exact (Kd.C_below HR3.out HB.out) | (with_reducible refine ccA ?_ _) | (with_reducible refine ccN ?_ _) | (with_reducible refine ccD ?_))); (case side4 => exact HC3.out); rintro e w' ⟨rfl, ⟨nd, rfl⟩⟩; (try first | exact ⟨rfl, _, wwN _ _ _⟩ | exact ⟨rfl, _, ww3 _ _ _ _⟩))))
     go_meet
     case rel => exact ⟨_, (decide ((l0.length : Int) > 200)), (by first | rfl | (simp; done) | (simp [*]; done)), H', ⟨by first | omega | exact Nat.le_refl _⟩, ⟨by repeat (first | (with_reducible first | exact HB.out | apply zzA | apply zzN | apply zzD) | exact HB.out)⟩⟩
   ·
    replace c10 := Bool.eq_false_iff.mpr c10
    subst c10
    have H1 : (thrumlaw10_QuantTurned.j0 k l0 a1 a2 l3 true true) = some r := by rw [if_neg (show ¬ (false = true) by decide)] at H; exact H
    clear H
    have H := H1
    clear H1
    focus
     have H' := Aside0.mk H
     clear H
     go_wp2_with (first | (go_at_call 45; (with_reducible refine (thrumlaw10_few.calls _ _ l0 _ _ l3 false _ ?side1 ?side2 ?side3 ?side4 A9.out).mono ?_); (case side1 => repeat (first | exact (Kd.C_below HR0.out HB.out) | (with_reducible refine ccA ?_ _) | (with_reducible refine ccN ?_ _) | (with_reducible refine ccD ?_))); (case side2 => exact HC0.out); (case side3 => repeat (first | exact (Kd.C_below HR3.out HB.out) | (with_reducible refine ccA ?_ _) | (with_reducible refine ccN ?_ _) | (with_reducible refine ccD ?_))); (case side4 => exact HC3.out); rintro e w' ⟨rfl, ⟨nd, rfl⟩⟩; (try first | exact ⟨rfl, _, wwN _ _ _⟩ | exact ⟨rfl, _, ww3 _ _ _ _⟩)))
     repeat (go_quiet (first | (go_at_call 45; (with_reducible refine (thrumlaw10_few.calls _ _ l0 _ _ l3 false _ ?side1 ?side2 ?side3 ?side4 A9.out).mono ?_); (case side1 => repeat (first | exact (Kd.C_below HR0.out HB.out) | (with_reducible refine ccA ?_ _) | (with_reducible refine ccN ?_ _) | (with_reducible refine ccD ?_))); (case side2 => exact HC0.out); (case side3 => repeat (first | exact (Kd.C_below HR3.out HB.out) | (with_reducible refine ccA ?_ _) | (with_reducible refine ccN ?_ _) | (with_reducible refine ccD ?_))); (case side4 => exact HC3.out); rintro e w' ⟨rfl, ⟨nd, rfl⟩⟩; (try first | exact ⟨rfl, _, wwN _ _ _⟩ | exact ⟨rfl, _, ww3 _ _ _ _⟩))); try go_wp2_with (first | (go_at_call 45; (with_reducible refine (thrumlaw10_few.calls _ _ l0 _ _ l3 false _ ?side1 ?side2 ?side3 ?side4 A9.out).mono ?_); (case side1 => repeat (first | exact (Kd.C_below HR0.out HB.out) | (with_reducible refine ccA ?_ _) | (with_reducible refine ccN ?_ _) | (with_reducible refine ccD ?_))); (case side2 => exact HC0.out); (case side3 => repeat (first | exact (Kd.C_below HR3.out HB.out) | (with_reducible refine ccA ?_ _) | (with_reducible refine ccN ?_ _) | (with_reducible refine ccD ?_))); (case side4 => exact HC3.out); rintro e w' ⟨rfl, ⟨nd, rfl⟩⟩; (try first | exact ⟨rfl, _, wwN _ _ _⟩ | exact ⟨rfl, _, ww3 _ _ _ _⟩))))
     go_meet
     case rel => exact ⟨_, (true), (by first | rfl | (simp; done) | (simp [*]; done)), H', ⟨by first | omega | exact Nat.le_refl _⟩, ⟨by repeat (first | (with_reducible first | exact HB.out | apply zzA | apply zzN | apply zzD) | exact HB.out)⟩⟩
  case rest =>
   clear HC7
   try clear c1
   try clear p2
   try clear c3
   try clear c6
   try clear c8
   try clear c10
   obtain ⟨kq, x32_6, rfl, HA, HJ6, HB⟩ := hcut
   cases kq with
   | zero => exact absurd HA.out (by simp [thrumlaw10_QuantTurned.j0])
   | succ kj6 =>
    have H := HA.out
    clear HA
    simp only [thrumlaw10_QuantTurned.j0] at H
    by_cases c11 : x32_6 = true
    ·
     subst c11
     have H1 : (some true) = some r := by rw [if_pos rfl] at H; exact H
     clear H
     have H := H1
     clear H1
     focus
      obtain rfl := Option.some.inj H
      go_wp2
      repeat (go_quiet (fail); try go_wp2)
      go_ret
      exact ⟨by first | rfl | (simp [errW_none, errW_some] <;> rfl) | (simp [*, errW_none, errW_some] <;> rfl), by repeat (first | (with_reducible first | exact HB.out | apply zzA | apply zzN | apply zzD) | exact HB.out)⟩
    ·
     replace c11 := Bool.eq_false_iff.mpr c11
     subst c11
     have H1 : ((quant_Press.f kj6 l0 a1 a2 l3).bind fun bt201 => (thrumlaw10_QuantTurned.l0 kj6 l0 a1 a2 l3 true bt201.2.2.2.2.2.2.2.2 ([] : List Int) l0 (l0.length : Int) 0 bt201.1 bt201.2.1 bt201.2.2.1 bt201.2.2.2.1 bt201.2.2.2.2.1 bt201.2.2.2.2.2.1 bt201.2.2.2.2.2.2.1 bt201.2.2.2.2.2.2.2.1)) = some r := by rw [if_neg (show ¬ (false = true) by decide)] at H; exact H
     clear H
     have H := H1
     clear H1
     replace H := Option.bind_eq_some_iff.mp H
     obtain ⟨⟨t201, t202, t203, t206, t209, t210, t211, t214, t217⟩, A120, H⟩ := H
     replace H : (thrumlaw10_QuantTurned.l0 kj6 l0 a1 a2 l3 true t217 ([] : List Int) l0 (l0.length : Int) 0 t201 t202 t203 t206 t209 t210 t211 t214) = some r := H
     have A12 := Aside0.mk A120
     clear A120
     have H' := Aside0.mk H
     clear H
     go_wp2_with (first | (go_at_call 46; (with_reducible refine (quant_Press.calls kj6 _ _ l0 a1 a2 _ _ l3 t201 t202 t203 t206 t209 t210 t211 t214 t217 _ ?side1 ?side2 ?side3 ?side4 A12.out).mono ?_); (case side1 => repeat (first | exact (Kd.C_below HR0.out HB.out) | (with_reducible refine ccA ?_ _) | (with_reducible refine ccN ?_ _) | (with_reducible refine ccD ?_))); (case side2 => exact HC0.out); (case side3 => repeat (first | exact (Kd.C_below HR3.out HB.out) | (with_reducible refine ccA ?_ _) | (with_reducible refine ccN ?_ _) | (with_reducible refine ccD ?_))); (case side4 => exact HC3.out); rintro e w13 ⟨v204, v207, v212, v215, rfl, ho0, ho1, ho2, ho3, hb⟩; have n0_ := Aside0.mk (Kd.R_lower ho0 (zzS (by repeat (first | (with_reducible first | exact HB.out | apply zzA | apply zzN | apply zzD) | exact HB.out)))); have n1_ := Aside0.mk (Kd.R_lower ho1 (zzS (by repeat (first | (with_reducible first | exact HB.out | apply zzA | apply zzN | apply zzD) | exact HB.out)))); have n2_ := Aside0.mk (Kd.R_lower ho2 (zzS (by repeat (first | (with_reducible first | exact HB.out | apply zzA | apply zzN | apply zzD) | exact HB.out)))); have n3_ := Aside0.mk (Kd.R_lower ho3 (zzS (by repeat (first | (with_reducible first | exact HB.out | apply zzA | apply zzN | apply zzD) | exact HB.out)))); have n4_ := Aside0.mk (zzT (by repeat (first | (with_reducible first | exact HB.out | apply zzA | apply zzN | apply zzD) | exact HB.out)) hb); clear HB; have HO205 := n0_; have HO208 := n1_; have HO213 := n2_; have HO216 := n3_; have HB := n4_; clear n0_ n1_ n2_ n3_ n4_; (try clear hb); (try clear ho1); (try clear ho2); (try clear ho3)) | ((with_reducible refine gate_dst (N := 10) rfl ?_); (try (refine gate_guard (by rfl) ?_; dsimp only)); refine box_event ?hg (N := 10) ?hd (cs := #[.int .i64 0, .int .i64 0, .slice none 0 0, .slice none 0 0, .int .i64 0, .int .i64 0, .slice none 0 0, .slice none 0 0]) (t := 30) ?hr ?_; (case hd => rfl); (case hg => rfl); (case hr => first | (go_simp; done) | (go_simp; rfl)); intro gb218 hg w14 hbox hb; have n0_ := Aside0.mk (Kd.R_below (by (with_reducible repeat (first | apply rrA | apply rrN | apply rrD)); exact HO205.out) hb); have n1_ := Aside0.mk (Kd.R_below (by (with_reducible repeat (first | apply rrA | apply rrN | apply rrD)); exact HO208.out) hb); have n2_ := Aside0.mk (Kd.R_below (by (with_reducible repeat (first | apply rrA | apply rrN | apply rrD)); exact HO213.out) hb); have n3_ := Aside0.mk (Kd.R_below (by (with_reducible repeat (first | apply rrA | apply rrN | apply rrD)); exact HO216.out) hb); have n4_ := Aside0.mk (zzT (by repeat (first | (with_reducible first | exact HB.out | apply zzA | apply zzN | apply zzD) | exact HB.out)) hb); have n5_ := Aside0.mk (hbox); have n6_ := Aside0.mk ((by rw [hg]; exact (zzS (by repeat (first | (with_reducible first | exact HB.out | apply zzA | apply zzN | apply zzD) | exact HB.out))) : w.heap.size ≤ gb218)); have n7_ := Aside0.mk ((by rw [hg]; exact (zzS (by repeat (first | (with_reducible first | exact HB.out | apply zzA | apply zzN | apply zzD) | exact HB.out))) : w.heap.size ≤ gb218)); clear HO205; clear HO208; clear HO213; clear HO216; clear HB; have HO205 := n0_; have HO208 := n1_; have HO213 := n2_; have HO216 := n3_; have HB := n4_; have BK218 := n5_; have GW218 := n6_; have GE218 := n7_; clear n0_ n1_ n2_ n3_ n4_ n5_ n6_ n7_; clear hb hbox hg; have hcz15_0 : w14.cell? ⟨gb218, 0, none⟩ = some (.int .i64 0) := (blk_cell BK218.out 0).trans rfl; have hcz15_1 : w14.cell? ⟨gb218, 1, none⟩ = some (.int .i64 0) := (blk_cell BK218.out 1).trans rfl; have hcz15_2 : w14.cell? ⟨gb218, 2, none⟩ = some (.slice none 0 0) := (blk_cell BK218.out 2).trans rfl; have hcz15_3 : w14.cell? ⟨gb218, 3, none⟩ = some (.slice none 0 0) := (blk_cell BK218.out 3).trans rfl; have hcz15_4 : w14.cell? ⟨gb218, 4, none⟩ = some (.int .i64 0) := (blk_cell BK218.out 4).trans rfl; have hcz15_5 : w14.cell? ⟨gb218, 5, none⟩ = some (.int .i64 0) := (blk_cell BK218.out 5).trans rfl; have hcz15_6 : w14.cell? ⟨gb218, 6, none⟩ = some (.slice none 0 0) := (blk_cell BK218.out 6).trans rfl; have hcz15_7 : w14.cell? ⟨gb218, 7, none⟩ = some (.slice none 0 0) := (blk_cell BK218.out 7).trans rfl; have hfz15_0 := blk_frozen BK218.out 0; have hfz15_1 := blk_frozen BK218.out 1; have hfz15_2 := blk_frozen BK218.out 2; have hfz15_3 := blk_frozen BK218.out 3; have hfz15_4 := blk_frozen BK218.out 4; have hfz15_5 := blk_frozen BK218.out 5; have hfz15_6 := blk_frozen BK218.out 6; have hfz15_7 := blk_frozen BK218.out 7; obtain ⟨Ao16, co16, eo16⟩ := Kd.R_slice HO205.out; subst eo16; obtain ⟨Ao17, co17, eo17⟩ := Kd.R_slice HO208.out; subst eo17; obtain ⟨Ao18, co18, eo18⟩ := Kd.R_slice HO213.out; subst eo18; obtain ⟨Ao19, co19, eo19⟩ := Kd.R_slice HO216.out; subst eo19))
     repeat (go_quiet (first | (go_at_call 46; (with_reducible refine (quant_Press.calls kj6 _ _ l0 a1 a2 _ _ l3 t201 t202 t203 t206 t209 t210 t211 t214 t217 _ ?side1 ?side2 ?side3 ?side4 A12.out).mono ?_); (case side1 => repeat (first | exact (Kd.C_below HR0.out HB.out) | (with_reducible refine ccA ?_ _) | (with_reducible refine ccN ?_ _) | (with_reducible refine ccD ?_))); (case side2 => exact HC0.out); (case side3 => repeat (first | exact (Kd.C_below HR3.out HB.out) | (with_reducible refine ccA ?_ _) | (with_reducible refine ccN ?_ _) | (with_reducible refine ccD ?_))); (case side4 => exact HC3.out); rintro e w13 ⟨v204, v207, v212, v215, rfl, ho0, ho1, ho2, ho3, hb⟩; have n0_ := Aside0.mk (Kd.R_lower ho0 (zzS (by repeat (first | (with_reducible first | exact HB.out | apply zzA | apply zzN | apply zzD) | exact HB.out)))); have n1_ := Aside0.mk (Kd.R_lower ho1 (zzS (by repeat (first | (with_reducible first | exact HB.out | apply zzA | apply zzN | apply zzD) | exact HB.out)))); have n2_ := Aside0.mk (Kd.R_lower ho2 (zzS (by repeat (first | (with_reducible first | exact HB.out | apply zzA | apply zzN | apply zzD) | exact HB.out)))); have n3_ := Aside0.mk (Kd.R_lower ho3 (zzS (by repeat (first | (with_reducible first | exact HB.out | apply zzA | apply zzN | apply zzD) | exact HB.out)))); have n4_ := Aside0.mk (zzT (by repeat (first | (with_reducible first | exact HB.out | apply zzA | apply zzN | apply zzD) | exact HB.out)) hb); clear HB; have HO205 := n0_; have HO208 := n1_; have HO213 := n2_; have HO216 := n3_; have HB := n4_; clear n0_ n1_ n2_ n3_ n4_; (try clear hb); (try clear ho1); (try clear ho2); (try clear ho3)) | ((with_reducible refine gate_dst (N := 10) rfl ?_); (try (refine gate_guard (by rfl) ?_; dsimp only)); refine box_event ?hg (N := 10) ?hd (cs := #[.int .i64 0, .int .i64 0, .slice none 0 0, .slice none 0 0, .int .i64 0, .int .i64 0, .slice none 0 0, .slice none 0 0]) (t := 30) ?hr ?_; (case hd => rfl); (case hg => rfl); (case hr => first | (go_simp; done) | (go_simp; rfl)); intro gb218 hg w14 hbox hb; have n0_ := Aside0.mk (Kd.R_below (by (with_reducible repeat (first | apply rrA | apply rrN | apply rrD)); exact HO205.out) hb); have n1_ := Aside0.mk (Kd.R_below (by (with_reducible repeat (first | apply rrA | apply rrN | apply rrD)); exact HO208.out) hb); have n2_ := Aside0.mk (Kd.R_below (by (with_reducible repeat (first | apply rrA | apply rrN | apply rrD)); exact HO213.out) hb); have n3_ := Aside0.mk (Kd.R_below (by (with_reducible repeat (first | apply rrA | apply rrN | apply rrD)); exact HO216.out) hb); have n4_ := Aside0.mk (zzT (by repeat (first | (with_reducible first | exact HB.out | apply zzA | apply zzN | apply zzD) | exact HB.out)) hb); have n5_ := Aside0.mk (hbox); have n6_ := Aside0.mk ((by rw [hg]; exact (zzS (by repeat (first | (with_reducible first | exact HB.out | apply zzA | apply zzN | apply zzD) | exact HB.out))) : w.heap.size ≤ gb218)); have n7_ := Aside0.mk ((by rw [hg]; exact (zzS (by repeat (first | (with_reducible first | exact HB.out | apply zzA | apply zzN | apply zzD) | exact HB.out))) : w.heap.size ≤ gb218)); clear HO205; clear HO208; clear HO213; clear HO216; clear HB; have HO205 := n0_; have HO208 := n1_; have HO213 := n2_; have HO216 := n3_; have HB := n4_; have BK218 := n5_; have GW218 := n6_; have GE218 := n7_; clear n0_ n1_ n2_ n3_ n4_ n5_ n6_ n7_; clear hb hbox hg; have hcz15_0 : w14.cell? ⟨gb218, 0, none⟩ = some (.int .i64 0) := (blk_cell BK218.out 0).trans rfl; have hcz15_1 : w14.cell? ⟨gb218, 1, none⟩ = some (.int .i64 0) := (blk_cell BK218.out 1).trans rfl; have hcz15_2 : w14.cell? ⟨gb218, 2, none⟩ = some (.slice none 0 0) := (blk_cell BK218.out 2).trans rfl; have hcz15_3 : w14.cell? ⟨gb218, 3, none⟩ = some (.slice none 0 0) := (blk_cell BK218.out 3).trans rfl; have hcz15_4 : w14.cell? ⟨gb218, 4, none⟩ = some (.int .i64 0) := (blk_cell BK218.out 4).trans rfl; have hcz15_5 : w14.cell? ⟨gb218, 5, none⟩ = some (.int .i64 0) := (blk_cell BK218.out 5).trans rfl; have hcz15_6 : w14.cell? ⟨gb218, 6, none⟩ = some (.slice none 0 0) := (blk_cell BK218.out 6).trans rfl; have hcz15_7 : w14.cell? ⟨gb218, 7, none⟩ = some (.slice none 0 0) := (blk_cell BK218.out 7).trans rfl; have hfz15_0 := blk_frozen BK218.out 0; have hfz15_1 := blk_frozen BK218.out 1; have hfz15_2 := blk_frozen BK218.out 2; have hfz15_3 := blk_frozen BK218.out 3; have hfz15_4 := blk_frozen BK218.out 4; have hfz15_5 := blk_frozen BK218.out 5; have hfz15_6 := blk_frozen BK218.out 6; have hfz15_7 := blk_frozen BK218.out 7; obtain ⟨Ao16, co16, eo16⟩ := Kd.R_slice HO205.out; subst eo16; obtain ⟨Ao17, co17, eo17⟩ := Kd.R_slice HO208.out; subst eo17; obtain ⟨Ao18, co18, eo18⟩ := Kd.R_slice HO213.out; subst eo18; obtain ⟨Ao19, co19, eo19⟩ := Kd.R_slice HO216.out; subst eo19)); try go_wp2_with (first | (go_at_call 46; (with_reducible refine (quant_Press.calls kj6 _ _ l0 a1 a2 _ _ l3 t201 t202 t203 t206 t209 t210 t211 t214 t217 _ ?side1 ?side2 ?side3 ?side4 A12.out).mono ?_); (case side1 => repeat (first | exact (Kd.C_below HR0.out HB.out) | (with_reducible refine ccA ?_ _) | (with_reducible refine ccN ?_ _) | (with_reducible refine ccD ?_))); (case side2 => exact HC0.out); (case side3 => repeat (first | exact (Kd.C_below HR3.out HB.out) | (with_reducible refine ccA ?_ _) | (with_reducible refine ccN ?_ _) | (with_reducible refine ccD ?_))); (case side4 => exact HC3.out); rintro e w13 ⟨v204, v207, v212, v215, rfl, ho0, ho1, ho2, ho3, hb⟩; have n0_ := Aside0.mk (Kd.R_lower ho0 (zzS (by repeat (first | (with_reducible first | exact HB.out | apply zzA | apply zzN | apply zzD) | exact HB.out)))); have n1_ := Aside0.mk (Kd.R_lower ho1 (zzS (by repeat (first | (with_reducible first | exact HB.out | apply zzA | apply zzN | apply zzD) | exact HB.out)))); have n2_ := Aside0.mk (Kd.R_lower ho2 (zzS (by repeat (first | (with_reducible first | exact HB.out | apply zzA | apply zzN | apply zzD) | exact HB.out)))); have n3_ := Aside0.mk (Kd.R_lower ho3 (zzS (by repeat (first | (with_reducible first | exact HB.out | apply zzA | apply zzN | apply zzD) | exact HB.out)))); have n4_ := Aside0.mk (zzT (by repeat (first | (with_reducible first | exact HB.out | apply zzA | apply zzN | apply zzD) | exact HB.out)) hb); clear HB; have HO205 := n0_; have HO208 := n1_; have HO213 := n2_; have HO216 := n3_; have HB := n4_; clear n0_ n1_ n2_ n3_ n4_; (try clear hb); (try clear ho1); (try clear ho2); (try clear ho3)) | ((with_reducible refine gate_dst (N := 10) rfl ?_); (try (refine gate_guard (by rfl) ?_; dsimp only)); refine box_event ?hg (N := 10) ?hd (cs := #[.int .i64 0, .int .i64 0, .slice none 0 0, .slice none 0 0, .int .i64 0, .int .i64 0, .slice none 0 0, .slice none 0 0]) (t := 30) ?hr ?_; (case hd => rfl); (case hg => rfl); (case hr => first | (go_simp; done) | (go_simp; rfl)); intro gb218 hg w14 hbox hb; have n0_ := Aside0.mk (Kd.R_below (by (with_reducible repeat (first | apply rrA | apply rrN | apply rrD)); exact HO205.out) hb); have n1_ := Aside0.mk (Kd.R_below (by (with_reducible repeat (first | apply rrA | apply rrN | apply rrD)); exact HO208.out) hb); have n2_ := Aside0.mk (Kd.R_below (by (with_reducible repeat (first | apply rrA | apply rrN | apply rrD)); exact HO213.out) hb); have n3_ := Aside0.mk (Kd.R_below (by (with_reducible repeat (first | apply rrA | apply rrN | apply rrD)); exact HO216.out) hb); have n4_ := Aside0.mk (zzT (by repeat (first | (with_reducible first | exact HB.out | apply zzA | apply zzN | apply zzD) | exact HB.out)) hb); have n5_ := Aside0.mk (hbox); have n6_ := Aside0.mk ((by rw [hg]; exact (zzS (by repeat (first | (with_reducible first | exact HB.out | apply zzA | apply zzN | apply zzD) | exact HB.out))) : w.heap.size ≤ gb218)); have n7_ := Aside0.mk ((by rw [hg]; exact (zzS (by repeat (first | (with_reducible first | exact HB.out | apply zzA | apply zzN | apply zzD) | exact HB.out))) : w.heap.size ≤ gb218)); clear HO205; clear HO208; clear HO213; clear HO216; clear HB; have HO205 := n0_; have HO208 := n1_; have HO213 := n2_; have HO216 := n3_; have HB := n4_; have BK218 := n5_; have GW218 := n6_; have GE218 := n7_; clear n0_ n1_ n2_ n3_ n4_ n5_ n6_ n7_; clear hb hbox hg; have hcz15_0 : w14.cell? ⟨gb218, 0, none⟩ = some (.int .i64 0) := (blk_cell BK218.out 0).trans rfl; have hcz15_1 : w14.cell? ⟨gb218, 1, none⟩ = some (.int .i64 0) := (blk_cell BK218.out 1).trans rfl; have hcz15_2 : w14.cell? ⟨gb218, 2, none⟩ = some (.slice none 0 0) := (blk_cell BK218.out 2).trans rfl; have hcz15_3 : w14.cell? ⟨gb218, 3, none⟩ = some (.slice none 0 0) := (blk_cell BK218.out 3).trans rfl; have hcz15_4 : w14.cell? ⟨gb218, 4, none⟩ = some (.int .i64 0) := (blk_cell BK218.out 4).trans rfl; have hcz15_5 : w14.cell? ⟨gb218, 5, none⟩ = some (.int .i64 0) := (blk_cell BK218.out 5).trans rfl; have hcz15_6 : w14.cell? ⟨gb218, 6, none⟩ = some (.slice none 0 0) := (blk_cell BK218.out 6).trans rfl; have hcz15_7 : w14.cell? ⟨gb218, 7, none⟩ = some (.slice none 0 0) := (blk_cell BK218.out 7).trans rfl; have hfz15_0 := blk_frozen BK218.out 0; have hfz15_1 := blk_frozen BK218.out 1; have hfz15_2 := blk_frozen BK218.out 2; have hfz15_3 := blk_frozen BK218.out 3; have hfz15_4 := blk_frozen BK218.out 4; have hfz15_5 := blk_frozen BK218.out 5; have hfz15_6 := blk_frozen BK218.out 6; have hfz15_7 := blk_frozen BK218.out 7; obtain ⟨Ao16, co16, eo16⟩ := Kd.R_slice HO205.out; subst eo16; obtain ⟨Ao17, co17, eo17⟩ := Kd.R_slice HO208.out; subst eo17; obtain ⟨Ao18, co18, eo18⟩ := Kd.R_slice HO213.out; subst eo18; obtain ⟨Ao19, co19, eo19⟩ := Kd.R_slice HO216.out; subst eo19)))
     go_loopg [12, 44] kj6 (fun kq v12 v44 w' => ∃ (x12_2 : List Int) (x44_2 : Int), v44 = .int .i64 x44_2 ∧ Aside0 (thrumlaw10_QuantTurned.l0 kq l0 a1 a2 l3 true t217 x12_2 l0 (l0.length : Int) x44_2 t201 t202 t203 t206 t209 t210 t211 t214 = some r) ∧ Aside0 (kq ≤ kj6) ∧ Aside0 (Kd.R (Kd.int .i64) 2 w' w.heap.size (fun k_ => some k_ ≠ ((.slice Ao17 t206.length co17) : Value).ownBlock) v12 x12_2) ∧ Aside0 (Kd.R (Kd.int .i64) 3 w' w.heap.size (fun _ => True) (.slice Ao16 t203.length co16) t203) ∧ Aside0 (Kd.R (Kd.int .i64) 2 w' w.heap.size (fun k_ => some k_ ≠ (v12 : Value).ownBlock) (.slice Ao17 t206.length co17) t206) ∧ Aside0 (Kd.R (Kd.int .u64) 64 w' w.heap.size (fun _ => True) (.slice Ao18 t211.length co18) t211) ∧ Aside0 (Kd.R Kd.bool 4 w' w.heap.size (fun _ => True) (.slice Ao19 t214.length co19) t214) ∧ Aside0 (w'.heap[gb218]? = some (.cells #[.int .i64 t201, .int .i64 t202, (.slice Ao16 t203.length co16), (.slice Ao17 t206.length co17), .int .i64 t209, .int .i64 t210, (.slice Ao18 t211.length co18), (.slice Ao19 t214.length co19)] 30 (0, 0))) ∧ Aside0 (Below w.heap.size w w'))
     case atStart => exact ⟨(([] : List Int)), (0), (by first | rfl | (simp; done) | (simp [*]; done)), H', ⟨Nat.le_refl _⟩, ⟨by first | exact Kd.R_nil _ _ _ _ _ | exact Kd.N_nil _ _ _ _ _ | exact Kd.V_nil _ _ _ _ _ | exact Kd.Q_nil _ _ _ _ _ | exact Kd.S_nil _ _ _ _ _⟩, ⟨by (with_reducible repeat (first | apply rrA | apply rrN | apply rrD)); exact Kd.R_mono (Kd.R_far (p := ⟨gb218, 7, none⟩) (Kd.R_far (p := ⟨gb218, 6, none⟩) (Kd.R_far (p := ⟨gb218, 5, none⟩) (Kd.R_far (p := ⟨gb218, 4, none⟩) (Kd.R_far (p := ⟨gb218, 3, none⟩) (Kd.R_far (p := ⟨gb218, 2, none⟩) (Kd.R_far (p := ⟨gb218, 1, none⟩) (Kd.R_far (p := ⟨gb218, 0, none⟩) (Kd.R_types HO205.out BK218.out (by decide)) (fun _ hk => hk.2) (.int .i64 t201)) (fun _ hk => hk.2) (.int .i64 t202)) (fun _ hk => hk.2) (.slice Ao16 t203.length co16)) (fun _ hk => hk.2) (.slice Ao17 t206.length co17)) (fun _ hk => hk.2) (.int .i64 t209)) (fun _ hk => hk.2) (.int .i64 t210)) (fun _ hk => hk.2) (.slice Ao18 t211.length co18)) (fun _ hk => hk.2) (.slice Ao19 t214.length co19)) (fun _ hk => trivial)⟩, ⟨by (with_reducible repeat (first | apply rrA | apply rrN | apply rrD)); exact Kd.R_mono (Kd.R_far (p := ⟨gb218, 7, none⟩) (Kd.R_far (p := ⟨gb218, 6, none⟩) (Kd.R_far (p := ⟨gb218, 5, none⟩) (Kd.R_far (p := ⟨gb218, 4, none⟩) (Kd.R_far (p := ⟨gb218, 3, none⟩) (Kd.R_far (p := ⟨gb218, 2, none⟩) (Kd.R_far (p := ⟨gb218, 1, none⟩) (Kd.R_far (p := ⟨gb218, 0, none⟩) (Kd.R_types HO208.out BK218.out (by decide)) (fun _ hk => hk.2) (.int .i64 t201)) (fun _ hk => hk.2) (.int .i64 t202)) (fun _ hk => hk.2) (.slice Ao16 t203.length co16)) (fun _ hk => hk.2) (.slice Ao17 t206.length co17)) (fun _ hk => hk.2) (.int .i64 t209)) (fun _ hk => hk.2) (.int .i64 t210)) (fun _ hk => hk.2) (.slice Ao18 t211.length co18)) (fun _ hk => hk.2) (.slice Ao19 t214.length co19)) (fun _ hk => (by simp [Value.ownBlock]))⟩, ⟨by (with_reducible repeat (first | apply rrA | apply rrN | apply rrD)); exact Kd.R_mono (Kd.R_far (p := ⟨gb218, 7, none⟩) (Kd.R_far (p := ⟨gb218, 6, none⟩) (Kd.R_far (p := ⟨gb218, 5, none⟩) (Kd.R_far (p := ⟨gb218, 4, none⟩) (Kd.R_far (p := ⟨gb218, 3, none⟩) (Kd.R_far (p := ⟨gb218, 2, none⟩) (Kd.R_far (p := ⟨gb218, 1, none⟩) (Kd.R_far (p := ⟨gb218, 0, none⟩) (Kd.R_types HO213.out BK218.out (by decide)) (fun _ hk => hk.2) (.int .i64 t201)) (fun _ hk => hk.2) (.int .i64 t202)) (fun _ hk => hk.2) (.slice Ao16 t203.length co16)) (fun _ hk => hk.2) (.slice Ao17 t206.length co17)) (fun _ hk => hk.2) (.int .i64 t209)) (fun _ hk => hk.2) (.int .i64 t210)) (fun _ hk => hk.2) (.slice Ao18 t211.length co18)) (fun _ hk => hk.2) (.slice Ao19 t214.length co19)) (fun _ hk => trivial)⟩, ⟨by (with_reducible repeat (first | apply rrA | apply rrN | apply rrD)); exact Kd.R_mono (Kd.R_far (p := ⟨gb218, 7, none⟩) (Kd.R_far (p := ⟨gb218, 6, none⟩) (Kd.R_far (p := ⟨gb218, 5, none⟩) (Kd.R_far (p := ⟨gb218, 4, none⟩) (Kd.R_far (p := ⟨gb218, 3, none⟩) (Kd.R_far (p := ⟨gb218, 2, none⟩) (Kd.R_far (p := ⟨gb218, 1, none⟩) (Kd.R_far (p := ⟨gb218, 0, none⟩) (Kd.R_types HO216.out BK218.out (by decide)) (fun _ hk => hk.2) (.int .i64 t201)) (fun _ hk => hk.2) (.int .i64 t202)) (fun _ hk => hk.2) (.slice Ao16 t203.length co16)) (fun _ hk => hk.2) (.slice Ao17 t206.length co17)) (fun _ hk => hk.2) (.int .i64 t209)) (fun _ hk => hk.2) (.int .i64 t210)) (fun _ hk => hk.2) (.slice Ao18 t211.length co18)) (fun _ hk => hk.2) (.slice Ao19 t214.length co19)) (fun _ hk => trivial)⟩, ⟨by (with_reducible repeat (first | refine kkN ?_ _ | refine kkD ?_ | refine kkA ?_ _)); refine blk_put (cs := #[.int .i64 t201, .int .i64 t202, .slice Ao16 t203.length co16, .slice Ao17 t206.length co17, .int .i64 t209, .int .i64 t210, .slice Ao18 t211.length co18, .slice none 0 0]) ?_ 7 _ rfl; (with_reducible repeat (first | refine kkN ?_ _ | refine kkD ?_ | refine kkA ?_ _)); refine blk_put (cs := #[.int .i64 t201, .int .i64 t202, .slice Ao16 t203.length co16, .slice Ao17 t206.length co17, .int .i64 t209, .int .i64 t210, .slice none 0 0, .slice none 0 0]) ?_ 6 _ rfl; (with_reducible repeat (first | refine kkN ?_ _ | refine kkD ?_ | refine kkA ?_ _)); refine blk_put (cs := #[.int .i64 t201, .int .i64 t202, .slice Ao16 t203.length co16, .slice Ao17 t206.length co17, .int .i64 t209, .int .i64 0, .slice none 0 0, .slice none 0 0]) ?_ 5 _ rfl; (with_reducible repeat (first | refine kkN ?_ _ | refine kkD ?_ | refine kkA ?_ _)); refine blk_put (cs := #[.int .i64 t201, .int .i64 t202, .slice Ao16 t203.length co16, .slice Ao17 t206.length co17, .int .i64 0, .int .i64 0, .slice none 0 0, .slice none 0 0]) ?_ 4 _ rfl; (with_reducible repeat (first | refine kkN ?_ _ | refine kkD ?_ | refine kkA ?_ _)); refine blk_put (cs := #[.int .i64 t201, .int .i64 t202, .slice Ao16 t203.length co16, .slice none 0 0, .int .i64 0, .int .i64 0, .slice none 0 0, .slice none 0 0]) ?_ 3 _ rfl; (with_reducible repeat (first | refine kkN ?_ _ | refine kkD ?_ | refine kkA ?_ _)); refine blk_put (cs := #[.int .i64 t201, .int .i64 t202, .slice none 0 0, .slice none 0 0, .int .i64 0, .int .i64 0, .slice none 0 0, .slice none 0 0]) ?_ 2 _ rfl; (with_reducible repeat (first | refine kkN ?_ _ | refine kkD ?_ | refine kkA ?_ _)); refine blk_put (cs := #[.int .i64 t201, .int .i64 0, .slice none 0 0, .slice none 0 0, .int .i64 0, .int .i64 0, .slice none 0 0, .slice none 0 0]) ?_ 1 _ rfl; (with_reducible repeat (first | refine kkN ?_ _ | refine kkD ?_ | refine kkA ?_ _)); refine blk_put (cs := #[.int .i64 0, .int .i64 0, .slice none 0 0, .slice none 0 0, .int .i64 0, .int .i64 0, .slice none 0 0, .slice none 0 0]) ?_ 0 _ rfl; (with_reducible repeat (first | refine kkN ?_ _ | refine kkD ?_ | refine kkA ?_ _)); exact BK218.out⟩, ⟨by repeat (first | (with_reducible first | exact HB.out | apply zzA | apply zzN | apply zzD | refine below_set ?_ GE218.out) | exact HB.out)⟩⟩
     case round =>
      clear H'
      try clear c1
      try clear p2
      try clear c3
      try clear c6
      try clear c8
      try clear c10
      try clear c11
      try clear hcz15_0
      try clear hcz15_1
      try clear hcz15_2
      try clear hcz15_3
      try clear hcz15_4
      try clear hcz15_5
      try clear hcz15_6
      try clear hcz15_7
      try clear hfz15_0
      try clear hfz15_1
      try clear hfz15_2
      try clear hfz15_3
      try clear hfz15_4
      try clear hfz15_5
      try clear hfz15_6
      try clear hfz15_7
      try clear p2
      obtain ⟨x12_2, x44_2, rfl, HA, HK2, HO_12, HO_219002, HO_219003, HO_219006, HO_219007, BK218, HB⟩ := hrel
      cases gk with
      | zero => exact absurd HA.out (by simp [thrumlaw10_QuantTurned.l0])
      | succ k2 =>
       have H := HA.out
       clear HA
       simp only [thrumlaw10_QuantTurned.l0] at H
       by_cases c20 : x44_2 < (l0.length : Int)
       ·
        rw [if_pos c20] at H
        have c20b0 : decide (x44_2 < (l0.length : Int)) = true := decide_eq_true c20
        clear c20
        by_cases c21 : 0 ≤ x44_2
        ·
         rw [if_pos c21] at H
         have c21b0 : decide (0 ≤ x44_2) = true := decide_eq_true c21
         clear c21
         by_cases c22 : x44_2 < (l0.length : Int)
         ·
          rw [if_pos c22] at H
          have c22b0 : decide (x44_2 < (l0.length : Int)) = true := decide_eq_true c22
          clear c22
          by_cases c23 : x12_2.length < 17592186044416
          ·
           rw [if_pos c23] at H
           have LMc23 := Aside0.mk c23
           clear c23
           obtain ⟨y220, hy220⟩ : ∃ y_ : List Int, y_ = (x12_2 ++ [wrap64 (-(rd l0 x44_2))]) := ⟨_, rfl⟩
           replace H : (thrumlaw10_QuantTurned.l0 k2 l0 a1 a2 l3 true t217 y220 l0 (l0.length : Int) (wrap64 (x44_2 + 1)) t201 t202 t203 t206 t209 t210 t211 t214) = some r := by first | (rw [hy220]; with_reducible exact H) | (have H2_ := (Option.bind_some _ _).symm.trans H; rw [hy220]; with_reducible exact H2_) | (have H2_ := (Option.bind_some _ _).symm.trans H; with_reducible exact H2_) | with_reducible exact H | (rw [hy220]; exact H) | exact H
           have Ny220 := Aside0.mk hy220
           clear hy220
           focus
            have H' := Aside0.mk H
            clear H
            have p219 : 0 ≤ (x44_2 : Int) := of_decide_eq_true (by first | (with_reducible assumption) | assumption)
            have q219 : x44_2 < (l0.length : Int) := of_decide_eq_true (by first | (with_reducible assumption) | assumption)
            obtain ⟨ad219, e219, hx219_0⟩ := Kd.at_int HR0.out x44_2 p219 q219
            cases e219
            replace hx219_0 := (HB.out.cell (World.block_lt_of_cell? w _ hx219_0)).trans hx219_0
            replace p219 := eq_true p219
            replace q219 := eq_true q219
            go_wp2_with (first | ((with_reducible refine gate_builtin (b := .append) (xs := #[.tmp 48, .tmp 51]) rfl ?_); (try (refine gate_guard (by rfl) ?_; dsimp only)); at_builtin; refine Kd.R_append (Kd.int .i64) (w0 := w) w.heap.size rfl (.tmp 48) (.tmp 51) 27 2 (.int .i64 0) 8 rfl Try.underlying27 info2 rfl (by decide) (by omega) u12 x12_2 (wrap64 (-(rd l0 x44_2))) [.int .i64 (wrap64 (-(rd l0 x44_2)))] (fun k_ => some k_ ≠ (.slice Ao17 t206.length co17 : Value).ownBlock) (fun _ => False) rfl rfl ?aP (fun _ hk => hk.elim) ?aF ?aO ?aB ?aS ?aL ?_; (case aP => exact rfl); (case aB => exact (by repeat (first | (with_reducible first | exact HB.out | apply zzA | apply zzN | apply zzD | refine below_set ?_ GE218.out) | exact HB.out))); (case aF => exact (fun k_ hk => Kd.fresh' (Kd.R_lt (by (with_reducible repeat (first | apply rrA | apply rrN | apply rrD)); exact HO_219003.out)) k_ hk)); (case aO => exact (by (with_reducible repeat (first | apply rrA | apply rrN | apply rrD)); exact HO_12.out)); (case aS => exact (zzS (by repeat (first | (with_reducible first | exact HB.out | apply zzA | apply zzN | apply zzD | refine below_set ?_ GE218.out) | exact HB.out)))); (case aL => have := LMc23.out; omega); intro v221 w24 ho hb hg hat; rw [← Ny220.out] at ho; have n0_ := Aside0.mk (Kd.R_over' (by (with_reducible repeat (first | apply rrA | apply rrN | apply rrD)); exact HO_219002.out) (Kd.R_typed (by (with_reducible repeat (first | apply rrA | apply rrN | apply rrD)); exact HO_12.out)) (by decide) hg); have n1_ := Aside0.mk (Kd.R_after (ok := (fun _ => True)) (by (with_reducible repeat (first | apply rrA | apply rrN | apply rrD)); exact Kd.R_mono HO_219003.out (fun _ hk => ⟨trivial, hk⟩)) hg hat); have n2_ := Aside0.mk (Kd.R_over' (by (with_reducible repeat (first | apply rrA | apply rrN | apply rrD)); exact HO_219006.out) (Kd.R_typed (by (with_reducible repeat (first | apply rrA | apply rrN | apply rrD)); exact HO_12.out)) (by decide) hg); have n3_ := Aside0.mk (Kd.R_over' (by (with_reducible repeat (first | apply rrA | apply rrN | apply rrD)); exact HO_219007.out) (Kd.R_typed (by (with_reducible repeat (first | apply rrA | apply rrN | apply rrD)); exact HO_12.out)) (by decide) hg); have n4_ := Aside0.mk (blk_grown (g := gb218) (o := .cells #[.int .i64 t201, .int .i64 t202, .slice Ao16 t203.length co16, .slice Ao17 t206.length co17, .int .i64 t209, .int .i64 t210, .slice Ao18 t211.length co18, .slice Ao19 t214.length co19] 30 (0, 0)) (by (with_reducible repeat (first | refine kkN ?_ _ | refine kkD ?_ | refine kkA ?_ _)); exact BK218.out) hg (Kd.R_ne HO_12.out BK218.out (by decide))); have n5_ := Aside0.mk (hb); have n6_ := Aside0.mk (ho); clear HO_219002; clear HO_219003; clear HO_219006; clear HO_219007; clear BK218; clear HB; clear HO_12; have HO_219002 := n0_; have HO_219003 := n1_; have HO_219006 := n2_; have HO_219007 := n3_; have BK218 := n4_; have HB := n5_; have HO222 := n6_; clear n0_ n1_ n2_ n3_ n4_ n5_ n6_; clear ho hb hg hat))
            repeat (go_quiet (first | ((with_reducible refine gate_builtin (b := .append) (xs := #[.tmp 48, .tmp 51]) rfl ?_); (try (refine gate_guard (by rfl) ?_; dsimp only)); at_builtin; refine Kd.R_append (Kd.int .i64) (w0 := w) w.heap.size rfl (.tmp 48) (.tmp 51) 27 2 (.int .i64 0) 8 rfl Try.underlying27 info2 rfl (by decide) (by omega) u12 x12_2 (wrap64 (-(rd l0 x44_2))) [.int .i64 (wrap64 (-(rd l0 x44_2)))] (fun k_ => some k_ ≠ (.slice Ao17 t206.length co17 : Value).ownBlock) (fun _ => False) rfl rfl ?aP (fun _ hk => hk.elim) ?aF ?aO ?aB ?aS ?aL ?_; (case aP => exact rfl); (case aB => exact (by repeat (first | (with_reducible first | exact HB.out | apply zzA | apply zzN | apply zzD | refine below_set ?_ GE218.out) | exact HB.out))); (case aF => exact (fun k_ hk => Kd.fresh' (Kd.R_lt (by (with_reducible repeat (first | apply rrA | apply rrN | apply rrD)); exact HO_219003.out)) k_ hk)); (case aO => exact (by (with_reducible repeat (first | apply rrA | apply rrN | apply rrD)); exact HO_12.out)); (case aS => exact (zzS (by repeat (first | (with_reducible first | exact HB.out | apply zzA | apply zzN | apply zzD | refine below_set ?_ GE218.out) | exact HB.out)))); (case aL => have := LMc23.out; omega); intro v221 w24 ho hb hg hat; rw [← Ny220.out] at ho; have n0_ := Aside0.mk (Kd.R_over' (by (with_reducible repeat (first | apply rrA | apply rrN | apply rrD)); exact HO_219002.out) (Kd.R_typed (by (with_reducible repeat (first | apply rrA | apply rrN | apply rrD)); exact HO_12.out)) (by decide) hg); have n1_ := Aside0.mk (Kd.R_after (ok := (fun _ => True)) (by (with_reducible repeat (first | apply rrA | apply rrN | apply rrD)); exact Kd.R_mono HO_219003.out (fun _ hk => ⟨trivial, hk⟩)) hg hat); have n2_ := Aside0.mk (Kd.R_over' (by (with_reducible repeat (first | apply rrA | apply rrN | apply rrD)); exact HO_219006.out) (Kd.R_typed (by (with_reducible repeat (first | apply rrA | apply rrN | apply rrD)); exact HO_12.out)) (by decide) hg); have n3_ := Aside0.mk (Kd.R_over' (by (with_reducible repeat (first | apply rrA | apply rrN | apply rrD)); exact HO_219007.out) (Kd.R_typed (by (with_reducible repeat (first | apply rrA | apply rrN | apply rrD)); exact HO_12.out)) (by decide) hg); have n4_ := Aside0.mk (blk_grown (g := gb218) (o := .cells #[.int .i64 t201, .int .i64 t202, .slice Ao16 t203.length co16, .slice Ao17 t206.length co17, .int .i64 t209, .int .i64 t210, .slice Ao18 t211.length co18, .slice Ao19 t214.length co19] 30 (0, 0)) (by (with_reducible repeat (first | refine kkN ?_ _ | refine kkD ?_ | refine kkA ?_ _)); exact BK218.out) hg (Kd.R_ne HO_12.out BK218.out (by decide))); have n5_ := Aside0.mk (hb); have n6_ := Aside0.mk (ho); clear HO_219002; clear HO_219003; clear HO_219006; clear HO_219007; clear BK218; clear HB; clear HO_12; have HO_219002 := n0_; have HO_219003 := n1_; have HO_219006 := n2_; have HO_219007 := n3_; have BK218 := n4_; have HB := n5_; have HO222 := n6_; clear n0_ n1_ n2_ n3_ n4_ n5_ n6_; clear ho hb hg hat)); try go_wp2_with (first | ((with_reducible refine gate_builtin (b := .append) (xs := #[.tmp 48, .tmp 51]) rfl ?_); (try (refine gate_guard (by rfl) ?_; dsimp only)); at_builtin; refine Kd.R_append (Kd.int .i64) (w0 := w) w.heap.size rfl (.tmp 48) (.tmp 51) 27 2 (.int .i64 0) 8 rfl Try.underlying27 info2 rfl (by decide) (by omega) u12 x12_2 (wrap64 (-(rd l0 x44_2))) [.int .i64 (wrap64 (-(rd l0 x44_2)))] (fun k_ => some k_ ≠ (.slice Ao17 t206.length co17 : Value).ownBlock) (fun _ => False) rfl rfl ?aP (fun _ hk => hk.elim) ?aF ?aO ?aB ?aS ?aL ?_; (case aP => exact rfl); (case aB => exact (by repeat (first | (with_reducible first | exact HB.out | apply zzA | apply zzN | apply zzD | refine below_set ?_ GE218.out) | exact HB.out))); (case aF => exact (fun k_ hk => Kd.fresh' (Kd.R_lt (by (with_reducible repeat (first | apply rrA | apply rrN | apply rrD)); exact HO_219003.out)) k_ hk)); (case aO => exact (by (with_reducible repeat (first | apply rrA | apply rrN | apply rrD)); exact HO_12.out)); (case aS => exact (zzS (by repeat (first | (with_reducible first | exact HB.out | apply zzA | apply zzN | apply zzD | refine below_set ?_ GE218.out) | exact HB.out)))); (case aL => have := LMc23.out; omega); intro v221 w24 ho hb hg hat; rw [← Ny220.out] at ho; have n0_ := Aside0.mk (Kd.R_over' (by (with_reducible repeat (first | apply rrA | apply rrN | apply rrD)); exact HO_219002.out) (Kd.R_typed (by (with_reducible repeat (first | apply rrA | apply rrN | apply rrD)); exact HO_12.out)) (by decide) hg); have n1_ := Aside0.mk (Kd.R_after (ok := (fun _ => True)) (by (with_reducible repeat (first | apply rrA | apply rrN | apply rrD)); exact Kd.R_mono HO_219003.out (fun _ hk => ⟨trivial, hk⟩)) hg hat); have n2_ := Aside0.mk (Kd.R_over' (by (with_reducible repeat (first | apply rrA | apply rrN | apply rrD)); exact HO_219006.out) (Kd.R_typed (by (with_reducible repeat (first | apply rrA | apply rrN | apply rrD)); exact HO_12.out)) (by decide) hg); have n3_ := Aside0.mk (Kd.R_over' (by (with_reducible repeat (first | apply rrA | apply rrN | apply rrD)); exact HO_219007.out) (Kd.R_typed (by (with_reducible repeat (first | apply rrA | apply rrN | apply rrD)); exact HO_12.out)) (by decide) hg); have n4_ := Aside0.mk (blk_grown (g := gb218) (o := .cells #[.int .i64 t201, .int .i64 t202, .slice Ao16 t203.length co16, .slice Ao17 t206.length co17, .int .i64 t209, .int .i64 t210, .slice Ao18 t211.length co18, .slice Ao19 t214.length co19] 30 (0, 0)) (by (with_reducible repeat (first | refine kkN ?_ _ | refine kkD ?_ | refine kkA ?_ _)); exact BK218.out) hg (Kd.R_ne HO_12.out BK218.out (by decide))); have n5_ := Aside0.mk (hb); have n6_ := Aside0.mk (ho); clear HO_219002; clear HO_219003; clear HO_219006; clear HO_219007; clear BK218; clear HB; clear HO_12; have HO_219002 := n0_; have HO_219003 := n1_; have HO_219006 := n2_; have HO_219007 := n3_; have BK218 := n4_; have HB := n5_; have HO222 := n6_; clear n0_ n1_ n2_ n3_ n4_ n5_ n6_; clear ho hb hg hat)))
            go_roundg k2
            case measure => have := HJ6.out; have := HK2.out; omega
            case rel => exact ⟨(y220), (wrap64 (x44_2 + 1)), (by first | rfl | (simp; done) | (simp [*]; done)), H', ⟨by have := HJ6.out; have := HK2.out; omega⟩, ⟨by (with_reducible repeat (first | apply rrA | apply rrN | apply rrD)); exact HO222.out⟩, ⟨by (with_reducible repeat (first | apply rrA | apply rrN | apply rrD)); exact HO_219002.out⟩, ⟨by (with_reducible repeat (first | apply rrA | apply rrN | apply rrD)); exact Kd.R_mono HO_219003.out (fun _ hk => hk.2)⟩, ⟨by (with_reducible repeat (first | apply rrA | apply rrN | apply rrD)); exact HO_219006.out⟩, ⟨by (with_reducible repeat (first | apply rrA | apply rrN | apply rrD)); exact HO_219007.out⟩, ⟨by (with_reducible repeat (first | refine kkN ?_ _ | refine kkD ?_ | refine kkA ?_ _)); exact BK218.out⟩, ⟨by repeat (first | (with_reducible first | exact HB.out | apply zzA | apply zzN | apply zzD | refine below_set ?_ GE218.out) | exact HB.out)⟩⟩
          ·
           rw [if_neg c23] at H
           exact absurd H (by simp)
         ·
          rw [if_neg c22] at H
          exact absurd H (by simp)
        ·
         rw [if_neg c21] at H
         exact absurd H (by simp)
       ·
        rw [if_neg c20] at H
        have c20b0 : decide (x44_2 < (l0.length : Int)) = false := decide_eq_false c20
        clear c20
        replace H := Option.bind_eq_some_iff.mp H
        obtain ⟨⟨t223, t224, t225, t228, t231, t232, t233, t236, t239⟩, A250, H⟩ := H
        replace H : (if ([] : List Int).length + l0.length < 17592186044416 then ((some (([] : List Int) ++ l0 : List Int)).bind fun y241 => (if y241.length + x12_2.length < 17592186044416 then ((quant_Press.f k2 (y241 ++ x12_2) a1 a2 l3).bind fun bt247 => (if t217 = t239 then (thrumlaw10_QuantTurned.j2 k2 l0 true t217 (t217 != bt247.2.2.2.2.2.2.2.2) t201 t202 t203 t206 t209 t210 t211 t214 t223 t224 t225 t228 t231 t232 t233 t236 bt247.1 bt247.2.1 bt247.2.2.1 bt247.2.2.2.1 bt247.2.2.2.2.1 bt247.2.2.2.2.2.1 bt247.2.2.2.2.2.2.1 bt247.2.2.2.2.2.2.2.1) else (thrumlaw10_QuantTurned.j2 k2 l0 true t217 true t201 t202 t203 t206 t209 t210 t211 t214 t223 t224 t225 t228 t231 t232 t233 t236 bt247.1 bt247.2.1 bt247.2.2.1 bt247.2.2.2.1 bt247.2.2.2.2.1 bt247.2.2.2.2.2.1 bt247.2.2.2.2.2.2.1 bt247.2.2.2.2.2.2.2.1))) else (none))) else (none)) = some r := H
        have A25 := Aside0.mk A250
        clear A250
        by_cases c26 : ([] : List Int).length + l0.length < 17592186044416
        ·
         rw [if_pos c26] at H
         have LMc26 := Aside0.mk c26
         clear c26
         obtain ⟨y241, hy241⟩ : ∃ y_ : List Int, y_ = (([] : List Int) ++ l0) := ⟨_, rfl⟩
         replace H : (if y241.length + x12_2.length < 17592186044416 then ((quant_Press.f k2 (y241 ++ x12_2) a1 a2 l3).bind fun bt247 => (if t217 = t239 then (thrumlaw10_QuantTurned.j2 k2 l0 true t217 (t217 != bt247.2.2.2.2.2.2.2.2) t201 t202 t203 t206 t209 t210 t211 t214 t223 t224 t225 t228 t231 t232 t233 t236 bt247.1 bt247.2.1 bt247.2.2.1 bt247.2.2.2.1 bt247.2.2.2.2.1 bt247.2.2.2.2.2.1 bt247.2.2.2.2.2.2.1 bt247.2.2.2.2.2.2.2.1) else (thrumlaw10_QuantTurned.j2 k2 l0 true t217 true t201 t202 t203 t206 t209 t210 t211 t214 t223 t224 t225 t228 t231 t232 t233 t236 bt247.1 bt247.2.1 bt247.2.2.1 bt247.2.2.2.1 bt247.2.2.2.2.1 bt247.2.2.2.2.2.1 bt247.2.2.2.2.2.2.1 bt247.2.2.2.2.2.2.2.1))) else (none)) = some r := by first | (rw [hy241]; with_reducible exact H) | (have H2_ := (Option.bind_some _ _).symm.trans H; rw [hy241]; with_reducible exact H2_) | (have H2_ := (Option.bind_some _ _).symm.trans H; with_reducible exact H2_) | with_reducible exact H | (rw [hy241]; exact H) | exact H
         have Ny241 := Aside0.mk hy241
         clear hy241
         by_cases c27 : y241.length + x12_2.length < 17592186044416
         ·
          rw [if_pos c27] at H
          have LMc27 := Aside0.mk c27
          clear c27
          obtain ⟨y244, hy244⟩ : ∃ y_ : List Int, y_ = (y241 ++ x12_2) := ⟨_, rfl⟩
          replace H : ((quant_Press.f k2 y244 a1 a2 l3).bind fun bt247 => (if t217 = t239 then (thrumlaw10_QuantTurned.j2 k2 l0 true t217 (t217 != bt247.2.2.2.2.2.2.2.2) t201 t202 t203 t206 t209 t210 t211 t214 t223 t224 t225 t228 t231 t232 t233 t236 bt247.1 bt247.2.1 bt247.2.2.1 bt247.2.2.2.1 bt247.2.2.2.2.1 bt247.2.2.2.2.2.1 bt247.2.2.2.2.2.2.1 bt247.2.2.2.2.2.2.2.1) else (thrumlaw10_QuantTurned.j2 k2 l0 true t217 true t201 t202 t203 t206 t209 t210 t211 t214 t223 t224 t225 t228 t231 t232 t233 t236 bt247.1 bt247.2.1 bt247.2.2.1 bt247.2.2.2.1 bt247.2.2.2.2.1 bt247.2.2.2.2.2.1 bt247.2.2.2.2.2.2.1 bt247.2.2.2.2.2.2.2.1))) = some r := by first | (rw [hy244]; with_reducible exact H) | (have H2_ := (Option.bind_some _ _).symm.trans H; rw [hy244]; with_reducible exact H2_) | (have H2_ := (Option.bind_some _ _).symm.trans H; with_reducible exact H2_) | with_reducible exact H | (rw [hy244]; exact H) | exact H
          have Ny244 := Aside0.mk hy244
          clear hy244
          replace H := Option.bind_eq_some_iff.mp H
          obtain ⟨⟨t247, t248, t249, t252, t255, t256, t257, t260, t263⟩, A280, H⟩ := H
          replace H : (if t217 = t239 then (thrumlaw10_QuantTurned.j2 k2 l0 true t217 (t217 != t263) t201 t202 t203 t206 t209 t210 t211 t214 t223 t224 t225 t228 t231 t232 t233 t236 t247 t248 t249 t252 t255 t256 t257 t260) else (thrumlaw10_QuantTurned.j2 k2 l0 true t217 true t201 t202 t203 t206 t209 t210 t211 t214 t223 t224 t225 t228 t231 t232 t233 t236 t247 t248 t249 t252 t255 t256 t257 t260)) = some r := H
          have A28 := Aside0.mk A280
          clear A280
          have HC29 := Aside0.mk H
          clear H
          obtain ⟨Ao30, co30, eo30⟩ := Kd.R_slice HO_12.out
          subst eo30
          go_upto_region 15 with (first | (go_at_call 46; (with_reducible refine (quant_Press.calls k2 _ _ x12_2 a1 a2 _ _ l3 t223 t224 t225 t228 t231 t232 t233 t236 t239 _ ?side1 ?side2 ?side3 ?side4 A25.out).mono ?_); (case side1 => repeat (first | exact (Kd.R_reads' HO_12.out).2.2 | (with_reducible refine ccA ?_ _) | (with_reducible refine ccN ?_ _) | (with_reducible refine ccD ?_))); (case side2 => exact (Kd.R_reads' HO_12.out).2.1); (case side3 => repeat (first | exact (Kd.C_below HR3.out HB.out) | (with_reducible refine ccA ?_ _) | (with_reducible refine ccN ?_ _) | (with_reducible refine ccD ?_))); (case side4 => exact HC3.out); rintro e w31 ⟨v226, v229, v234, v237, rfl, ho0, ho1, ho2, ho3, hb⟩; have n0_ := Aside0.mk (Kd.R_elder' (by (with_reducible repeat (first | apply rrA | apply rrN | apply rrD)); exact HO_12.out) (Kd.R_base ho1) hb); have n1_ := Aside0.mk (Kd.R_elder' (by (with_reducible repeat (first | apply rrA | apply rrN | apply rrD)); exact HO_219002.out) (Kd.R_base ho0) hb); have n2_ := Aside0.mk (Kd.R_elder' (by (with_reducible repeat (first | apply rrA | apply rrN | apply rrD)); exact HO_219003.out) (Kd.R_base ho1) hb); have n3_ := Aside0.mk (Kd.R_elder' (by (with_reducible repeat (first | apply rrA | apply rrN | apply rrD)); exact HO_219006.out) (Kd.R_base ho2) hb); have n4_ := Aside0.mk (Kd.R_elder' (by (with_reducible repeat (first | apply rrA | apply rrN | apply rrD)); exact HO_219007.out) (Kd.R_base ho3) hb); have n5_ := Aside0.mk (Kd.R_lower (Kd.R_new' ho0 (Kd.R_lt (by (with_reducible repeat (first | apply rrA | apply rrN | apply rrD)); exact HO_219002.out))) (zzS (by repeat (first | (with_reducible first | exact HB.out | apply zzA | apply zzN | apply zzD | refine below_set ?_ GE218.out) | exact HB.out)))); have n6_ := Aside0.mk (Kd.R_lower (Kd.R_new' (Kd.R_new' ho1 (Kd.R_lt (by (with_reducible repeat (first | apply rrA | apply rrN | apply rrD)); exact HO_12.out))) (Kd.R_lt (by (with_reducible repeat (first | apply rrA | apply rrN | apply rrD)); exact HO_219003.out))) (zzS (by repeat (first | (with_reducible first | exact HB.out | apply zzA | apply zzN | apply zzD | refine below_set ?_ GE218.out) | exact HB.out)))); have n7_ := Aside0.mk (Kd.R_lower (Kd.R_new' ho2 (Kd.R_lt (by (with_reducible repeat (first | apply rrA | apply rrN | apply rrD)); exact HO_219006.out))) (zzS (by repeat (first | (with_reducible first | exact HB.out | apply zzA | apply zzN | apply zzD | refine below_set ?_ GE218.out) | exact HB.out)))); have n8_ := Aside0.mk (Kd.R_lower (Kd.R_new' ho3 (Kd.R_lt (by (with_reducible repeat (first | apply rrA | apply rrN | apply rrD)); exact HO_219007.out))) (zzS (by repeat (first | (with_reducible first | exact HB.out | apply zzA | apply zzN | apply zzD | refine below_set ?_ GE218.out) | exact HB.out)))); have n9_ := Aside0.mk (blk_below (g := gb218) (o := .cells #[.int .i64 t201, .int .i64 t202, .slice Ao16 t203.length co16, .slice Ao17 t206.length co17, .int .i64 t209, .int .i64 t210, .slice Ao18 t211.length co18, .slice Ao19 t214.length co19] 30 (0, 0)) (by (with_reducible repeat (first | refine kkN ?_ _ | refine kkD ?_ | refine kkA ?_ _)); exact BK218.out) hb); have n10_ := Aside0.mk (zzT (by repeat (first | (with_reducible first | exact HB.out | apply zzA | apply zzN | apply zzD | refine below_set ?_ GE218.out) | exact HB.out)) hb); clear HO_12; clear HO_219002; clear HO_219003; clear HO_219006; clear HO_219007; clear BK218; clear HB; have HO_12 := n0_; have HO_219002 := n1_; have HO_219003 := n2_; have HO_219006 := n3_; have HO_219007 := n4_; have HO227 := n5_; have HO230 := n6_; have HO235 := n7_; have HO238 := n8_; have BK218 := n9_; have HB := n10_; clear n0_ n1_ n2_ n3_ n4_ n5_ n6_ n7_ n8_ n9_ n10_; (try clear hb); (try clear ho1); (try clear ho2); (try clear ho3)) | ((with_reducible refine gate_dst (N := 15) rfl ?_); (try (refine gate_guard (by rfl) ?_; dsimp only)); refine box_event ?hg (N := 15) ?hd (cs := #[.int .i64 0, .int .i64 0, .slice none 0 0, .slice none 0 0, .int .i64 0, .int .i64 0, .slice none 0 0, .slice none 0 0]) (t := 30) ?hr ?_; (case hd => rfl); (case hg => rfl); (case hr => first | (go_simp; done) | (go_simp; rfl)); intro gb240 hg w32 hbox hb; have n0_ := Aside0.mk (Kd.R_below (by (with_reducible repeat (first | apply rrA | apply rrN | apply rrD)); exact HO_12.out) hb); have n1_ := Aside0.mk (Kd.R_below (by (with_reducible repeat (first | apply rrA | apply rrN | apply rrD)); exact HO_219002.out) hb); have n2_ := Aside0.mk (Kd.R_below (by (with_reducible repeat (first | apply rrA | apply rrN | apply rrD)); exact HO_219003.out) hb); have n3_ := Aside0.mk (Kd.R_below (by (with_reducible repeat (first | apply rrA | apply rrN | apply rrD)); exact HO_219006.out) hb); have n4_ := Aside0.mk (Kd.R_below (by (with_reducible repeat (first | apply rrA | apply rrN | apply rrD)); exact HO_219007.out) hb); have n5_ := Aside0.mk (Kd.R_below (by (with_reducible repeat (first | apply rrA | apply rrN | apply rrD)); exact HO227.out) hb); have n6_ := Aside0.mk (Kd.R_below (by (with_reducible repeat (first | apply rrA | apply rrN | apply rrD)); exact HO230.out) hb); have n7_ := Aside0.mk (Kd.R_below (by (with_reducible repeat (first | apply rrA | apply rrN | apply rrD)); exact HO235.out) hb); have n8_ := Aside0.mk (Kd.R_below (by (with_reducible repeat (first | apply rrA | apply rrN | apply rrD)); exact HO238.out) hb); have n9_ := Aside0.mk (blk_below (g := gb218) (o := .cells #[.int .i64 t201, .int .i64 t202, .slice Ao16 t203.length co16, .slice Ao17 t206.length co17, .int .i64 t209, .int .i64 t210, .slice Ao18 t211.length co18, .slice Ao19 t214.length co19] 30 (0, 0)) (by (with_reducible repeat (first | refine kkN ?_ _ | refine kkD ?_ | refine kkA ?_ _)); exact BK218.out) hb); have n10_ := Aside0.mk (zzT (by repeat (first | (with_reducible first | exact HB.out | apply zzA | apply zzN | apply zzD | refine below_set ?_ GE218.out) | exact HB.out)) hb); have n11_ := Aside0.mk (hbox); have n12_ := Aside0.mk ((by rw [hg]; exact (zzS (by repeat (first | (with_reducible first | exact HB.out | apply zzA | apply zzN | apply zzD | refine below_set ?_ GE218.out) | exact HB.out))) : w.heap.size ≤ gb240)); have n13_ := Aside0.mk ((by rw [hg]; exact (zzS (by repeat (first | (with_reducible first | exact HB.out | apply zzA | apply zzN | apply zzD | refine below_set ?_ GE218.out) | exact HB.out))) : w.heap.size ≤ gb240)); have n14_ := Aside0.mk ((by rw [hg]; exact Nat.ne_of_lt (blk_lt (g := gb218) (o := .cells #[.int .i64 t201, .int .i64 t202, .slice Ao16 t203.length co16, .slice Ao17 t206.length co17, .int .i64 t209, .int .i64 t210, .slice Ao18 t211.length co18, .slice Ao19 t214.length co19] 30 (0, 0)) (by (with_reducible repeat (first | refine kkN ?_ _ | refine kkD ?_ | refine kkA ?_ _)); exact BK218.out)) : gb218 ≠ gb240)); have n15_ := Aside0.mk ((by rw [hg]; exact Nat.ne_of_gt (blk_lt (g := gb218) (o := .cells #[.int .i64 t201, .int .i64 t202, .slice Ao16 t203.length co16, .slice Ao17 t206.length co17, .int .i64 t209, .int .i64 t210, .slice Ao18 t211.length co18, .slice Ao19 t214.length co19] 30 (0, 0)) (by (with_reducible repeat (first | refine kkN ?_ _ | refine kkD ?_ | refine kkA ?_ _)); exact BK218.out)) : gb240 ≠ gb218)); clear HO_12; clear HO_219002; clear HO_219003; clear HO_219006; clear HO_219007; clear HO227; clear HO230; clear HO235; clear HO238; clear BK218; clear HB; have HO_12 := n0_; have HO_219002 := n1_; have HO_219003 := n2_; have HO_219006 := n3_; have HO_219007 := n4_; have HO227 := n5_; have HO230 := n6_; have HO235 := n7_; have HO238 := n8_; have BK218 := n9_; have HB := n10_; have BK240 := n11_; have GW240 := n12_; have GE240 := n13_; have NB218_240 := n14_; have NB240_218 := n15_; clear n0_ n1_ n2_ n3_ n4_ n5_ n6_ n7_ n8_ n9_ n10_ n11_ n12_ n13_ n14_ n15_; clear hb hbox hg; have hnb33 := NB240_218.out; have hnc33 := NB218_240.out; have hcz34_0 : w32.cell? ⟨gb240, 0, none⟩ = some (.int .i64 0) := (blk_cell BK240.out 0).trans rfl; have hcz34_1 : w32.cell? ⟨gb240, 1, none⟩ = some (.int .i64 0) := (blk_cell BK240.out 1).trans rfl; have hcz34_2 : w32.cell? ⟨gb240, 2, none⟩ = some (.slice none 0 0) := (blk_cell BK240.out 2).trans rfl; have hcz34_3 : w32.cell? ⟨gb240, 3, none⟩ = some (.slice none 0 0) := (blk_cell BK240.out 3).trans rfl; have hcz34_4 : w32.cell? ⟨gb240, 4, none⟩ = some (.int .i64 0) := (blk_cell BK240.out 4).trans rfl; have hcz34_5 : w32.cell? ⟨gb240, 5, none⟩ = some (.int .i64 0) := (blk_cell BK240.out 5).trans rfl; have hcz34_6 : w32.cell? ⟨gb240, 6, none⟩ = some (.slice none 0 0) := (blk_cell BK240.out 6).trans rfl; have hcz34_7 : w32.cell? ⟨gb240, 7, none⟩ = some (.slice none 0 0) := (blk_cell BK240.out 7).trans rfl; have hfz34_0 := blk_frozen BK240.out 0; have hfz34_1 := blk_frozen BK240.out 1; have hfz34_2 := blk_frozen BK240.out 2; have hfz34_3 := blk_frozen BK240.out 3; have hfz34_4 := blk_frozen BK240.out 4; have hfz34_5 := blk_frozen BK240.out 5; have hfz34_6 := blk_frozen BK240.out 6; have hfz34_7 := blk_frozen BK240.out 7; obtain ⟨Ao35, co35, eo35⟩ := Kd.R_slice HO227.out; subst eo35; obtain ⟨Ao36, co36, eo36⟩ := Kd.R_slice HO230.out; subst eo36; obtain ⟨Ao37, co37, eo37⟩ := Kd.R_slice HO235.out; subst eo37; obtain ⟨Ao38, co38, eo38⟩ := Kd.R_slice HO238.out; subst eo38) | ((with_reducible refine gate_builtin (b := .append) (xs := #[.const (.slice none 0 0), .tmp 63]) rfl ?_); (try (refine gate_guard (by rfl) ?_; dsimp only)); at_builtin; refine Kd.R_append_rows (Kd.int .i64) (w0 := w) w.heap.size rfl (.const (.slice none 0 0)) (.tmp 63) 27 2 (.int .i64 0) 8 rfl Try.underlying27 info2 rfl (by decide) (by omega) (.slice none 0 0) ([] : List Int) l0 _ _ _ (fun k_ => some k_ ≠ (.slice Ao30 x12_2.length co30 : Value).ownBlock ∧ some k_ ≠ (.slice Ao17 t206.length co17 : Value).ownBlock ∧ some k_ ≠ (.slice Ao36 t228.length co36 : Value).ownBlock) (fun _ => False) rfl rfl ?aO ?aR (fun _ _ h => h) (fun _ h => h.elim) ?aF ?aB ?aS ?aL ?_; (case aR => exact Kd.C_below HR0.out (by repeat (first | (with_reducible first | exact HB.out | apply zzA | apply zzN | apply zzD | refine below_set ?_ GE218.out | refine below_set ?_ GE240.out) | exact HB.out))); (case aB => exact (by repeat (first | (with_reducible first | exact HB.out | apply zzA | apply zzN | apply zzD | refine below_set ?_ GE218.out | refine below_set ?_ GE240.out) | exact HB.out))); (case aF => exact (fun k_ hk => ⟨Kd.fresh' (Kd.R_lt (by (with_reducible repeat (first | apply rrA | apply rrN | apply rrD)); exact (Kd.R_mono (Kd.R_far (p := ⟨gb240, 7, none⟩) (Kd.R_far (p := ⟨gb240, 6, none⟩) (Kd.R_far (p := ⟨gb240, 5, none⟩) (Kd.R_far (p := ⟨gb240, 4, none⟩) (Kd.R_far (p := ⟨gb240, 3, none⟩) (Kd.R_far (p := ⟨gb240, 2, none⟩) (Kd.R_far (p := ⟨gb240, 1, none⟩) (Kd.R_far (p := ⟨gb240, 0, none⟩) (Kd.R_types HO_12.out BK240.out (by decide)) (fun _ hk => hk.2) (.int .i64 t223)) (fun _ hk => hk.2) (.int .i64 t224)) (fun _ hk => hk.2) (.slice Ao35 t225.length co35)) (fun _ hk => hk.2) (.slice Ao36 t228.length co36)) (fun _ hk => hk.2) (.int .i64 t231)) (fun _ hk => hk.2) (.int .i64 t232)) (fun _ hk => hk.2) (.slice Ao37 t233.length co37)) (fun _ hk => hk.2) (.slice Ao38 t236.length co38)) (fun _ h_ => h_.1)))) k_ hk, Kd.fresh' (Kd.R_lt (by (with_reducible repeat (first | apply rrA | apply rrN | apply rrD)); exact (Kd.R_mono (Kd.R_far (p := ⟨gb240, 7, none⟩) (Kd.R_far (p := ⟨gb240, 6, none⟩) (Kd.R_far (p := ⟨gb240, 5, none⟩) (Kd.R_far (p := ⟨gb240, 4, none⟩) (Kd.R_far (p := ⟨gb240, 3, none⟩) (Kd.R_far (p := ⟨gb240, 2, none⟩) (Kd.R_far (p := ⟨gb240, 1, none⟩) (Kd.R_far (p := ⟨gb240, 0, none⟩) (Kd.R_types HO_219003.out BK240.out (by decide)) (fun _ hk => hk.2) (.int .i64 t223)) (fun _ hk => hk.2) (.int .i64 t224)) (fun _ hk => hk.2) (.slice Ao35 t225.length co35)) (fun _ hk => hk.2) (.slice Ao36 t228.length co36)) (fun _ hk => hk.2) (.int .i64 t231)) (fun _ hk => hk.2) (.int .i64 t232)) (fun _ hk => hk.2) (.slice Ao37 t233.length co37)) (fun _ hk => hk.2) (.slice Ao38 t236.length co38)) (fun _ h_ => h_.1)))) k_ hk, Kd.fresh' (Kd.R_lt (by (with_reducible repeat (first | apply rrA | apply rrN | apply rrD)); exact (Kd.R_mono (Kd.R_far (p := ⟨gb240, 7, none⟩) (Kd.R_far (p := ⟨gb240, 6, none⟩) (Kd.R_far (p := ⟨gb240, 5, none⟩) (Kd.R_far (p := ⟨gb240, 4, none⟩) (Kd.R_far (p := ⟨gb240, 3, none⟩) (Kd.R_far (p := ⟨gb240, 2, none⟩) (Kd.R_far (p := ⟨gb240, 1, none⟩) (Kd.R_far (p := ⟨gb240, 0, none⟩) (Kd.R_types HO230.out BK240.out (by decide)) (fun _ hk => hk.2) (.int .i64 t223)) (fun _ hk => hk.2) (.int .i64 t224)) (fun _ hk => hk.2) (.slice Ao35 t225.length co35)) (fun _ hk => hk.2) (.slice Ao36 t228.length co36)) (fun _ hk => hk.2) (.int .i64 t231)) (fun _ hk => hk.2) (.int .i64 t232)) (fun _ hk => hk.2) (.slice Ao37 t233.length co37)) (fun _ hk => hk.2) (.slice Ao38 t236.length co38)) (fun _ h_ => h_.1)))) k_ hk⟩)); (case aO => exact ((Kd.R_nil _ _ _ _ (fun k_ => some k_ ≠ (.slice Ao30 x12_2.length co30 : Value).ownBlock ∧ some k_ ≠ (.slice Ao17 t206.length co17 : Value).ownBlock ∧ some k_ ≠ (.slice Ao36 t228.length co36 : Value).ownBlock)))); (case aS => exact (zzS (by repeat (first | (with_reducible first | exact HB.out | apply zzA | apply zzN | apply zzD | refine below_set ?_ GE218.out | refine below_set ?_ GE240.out) | exact HB.out)))); (case aL => have := LMc26.out; omega); intro v242 w39 ho hb hg hat; rw [← Ny241.out] at ho; have n0_ := Aside0.mk (Kd.R_after (Kd.R_apart_nil (by (with_reducible repeat (first | apply rrA | apply rrN | apply rrD)); exact (Kd.R_mono (Kd.R_far (p := ⟨gb240, 7, none⟩) (Kd.R_far (p := ⟨gb240, 6, none⟩) (Kd.R_far (p := ⟨gb240, 5, none⟩) (Kd.R_far (p := ⟨gb240, 4, none⟩) (Kd.R_far (p := ⟨gb240, 3, none⟩) (Kd.R_far (p := ⟨gb240, 2, none⟩) (Kd.R_far (p := ⟨gb240, 1, none⟩) (Kd.R_far (p := ⟨gb240, 0, none⟩) (Kd.R_types HO_12.out BK240.out (by decide)) (fun _ hk => hk.2) (.int .i64 t223)) (fun _ hk => hk.2) (.int .i64 t224)) (fun _ hk => hk.2) (.slice Ao35 t225.length co35)) (fun _ hk => hk.2) (.slice Ao36 t228.length co36)) (fun _ hk => hk.2) (.int .i64 t231)) (fun _ hk => hk.2) (.int .i64 t232)) (fun _ hk => hk.2) (.slice Ao37 t233.length co37)) (fun _ hk => hk.2) (.slice Ao38 t236.length co38)) (fun _ h_ => h_.1)))) hg hat); have n1_ := Aside0.mk (Kd.R_grown (by (with_reducible repeat (first | apply rrA | apply rrN | apply rrD)); exact (Kd.R_mono (Kd.R_far (p := ⟨gb240, 7, none⟩) (Kd.R_far (p := ⟨gb240, 6, none⟩) (Kd.R_far (p := ⟨gb240, 5, none⟩) (Kd.R_far (p := ⟨gb240, 4, none⟩) (Kd.R_far (p := ⟨gb240, 3, none⟩) (Kd.R_far (p := ⟨gb240, 2, none⟩) (Kd.R_far (p := ⟨gb240, 1, none⟩) (Kd.R_far (p := ⟨gb240, 0, none⟩) (Kd.R_types HO_219002.out BK240.out (by decide)) (fun _ hk => hk.2) (.int .i64 t223)) (fun _ hk => hk.2) (.int .i64 t224)) (fun _ hk => hk.2) (.slice Ao35 t225.length co35)) (fun _ hk => hk.2) (.slice Ao36 t228.length co36)) (fun _ hk => hk.2) (.int .i64 t231)) (fun _ hk => hk.2) (.int .i64 t232)) (fun _ hk => hk.2) (.slice Ao37 t233.length co37)) (fun _ hk => hk.2) (.slice Ao38 t236.length co38)) (fun _ h_ => h_.1))) hg (fun _ _ => by simp [Value.ownBlock])); have n2_ := Aside0.mk (Kd.R_after (Kd.R_apart_nil (by (with_reducible repeat (first | apply rrA | apply rrN | apply rrD)); exact (Kd.R_mono (Kd.R_far (p := ⟨gb240, 7, none⟩) (Kd.R_far (p := ⟨gb240, 6, none⟩) (Kd.R_far (p := ⟨gb240, 5, none⟩) (Kd.R_far (p := ⟨gb240, 4, none⟩) (Kd.R_far (p := ⟨gb240, 3, none⟩) (Kd.R_far (p := ⟨gb240, 2, none⟩) (Kd.R_far (p := ⟨gb240, 1, none⟩) (Kd.R_far (p := ⟨gb240, 0, none⟩) (Kd.R_types HO_219003.out BK240.out (by decide)) (fun _ hk => hk.2) (.int .i64 t223)) (fun _ hk => hk.2) (.int .i64 t224)) (fun _ hk => hk.2) (.slice Ao35 t225.length co35)) (fun _ hk => hk.2) (.slice Ao36 t228.length co36)) (fun _ hk => hk.2) (.int .i64 t231)) (fun _ hk => hk.2) (.int .i64 t232)) (fun _ hk => hk.2) (.slice Ao37 t233.length co37)) (fun _ hk => hk.2) (.slice Ao38 t236.length co38)) (fun _ h_ => h_.1)))) hg hat); have n3_ := Aside0.mk (Kd.R_grown (by (with_reducible repeat (first | apply rrA | apply rrN | apply rrD)); exact (Kd.R_mono (Kd.R_far (p := ⟨gb240, 7, none⟩) (Kd.R_far (p := ⟨gb240, 6, none⟩) (Kd.R_far (p := ⟨gb240, 5, none⟩) (Kd.R_far (p := ⟨gb240, 4, none⟩) (Kd.R_far (p := ⟨gb240, 3, none⟩) (Kd.R_far (p := ⟨gb240, 2, none⟩) (Kd.R_far (p := ⟨gb240, 1, none⟩) (Kd.R_far (p := ⟨gb240, 0, none⟩) (Kd.R_types HO_219006.out BK240.out (by decide)) (fun _ hk => hk.2) (.int .i64 t223)) (fun _ hk => hk.2) (.int .i64 t224)) (fun _ hk => hk.2) (.slice Ao35 t225.length co35)) (fun _ hk => hk.2) (.slice Ao36 t228.length co36)) (fun _ hk => hk.2) (.int .i64 t231)) (fun _ hk => hk.2) (.int .i64 t232)) (fun _ hk => hk.2) (.slice Ao37 t233.length co37)) (fun _ hk => hk.2) (.slice Ao38 t236.length co38)) (fun _ h_ => h_.1))) hg (fun _ _ => by simp [Value.ownBlock])); have n4_ := Aside0.mk (Kd.R_grown (by (with_reducible repeat (first | apply rrA | apply rrN | apply rrD)); exact (Kd.R_mono (Kd.R_far (p := ⟨gb240, 7, none⟩) (Kd.R_far (p := ⟨gb240, 6, none⟩) (Kd.R_far (p := ⟨gb240, 5, none⟩) (Kd.R_far (p := ⟨gb240, 4, none⟩) (Kd.R_far (p := ⟨gb240, 3, none⟩) (Kd.R_far (p := ⟨gb240, 2, none⟩) (Kd.R_far (p := ⟨gb240, 1, none⟩) (Kd.R_far (p := ⟨gb240, 0, none⟩) (Kd.R_types HO_219007.out BK240.out (by decide)) (fun _ hk => hk.2) (.int .i64 t223)) (fun _ hk => hk.2) (.int .i64 t224)) (fun _ hk => hk.2) (.slice Ao35 t225.length co35)) (fun _ hk => hk.2) (.slice Ao36 t228.length co36)) (fun _ hk => hk.2) (.int .i64 t231)) (fun _ hk => hk.2) (.int .i64 t232)) (fun _ hk => hk.2) (.slice Ao37 t233.length co37)) (fun _ hk => hk.2) (.slice Ao38 t236.length co38)) (fun _ h_ => h_.1))) hg (fun _ _ => by simp [Value.ownBlock])); have n5_ := Aside0.mk (blk_grown (g := gb218) (o := .cells #[.int .i64 t201, .int .i64 t202, .slice Ao16 t203.length co16, .slice Ao17 t206.length co17, .int .i64 t209, .int .i64 t210, .slice Ao18 t211.length co18, .slice Ao19 t214.length co19] 30 (0, 0)) (by (with_reducible repeat (first | refine kkN ?_ _ | refine kkD ?_ | refine kkA ?_ _)); refine blk_far ?_ NB218_240.out _; (with_reducible repeat (first | refine kkN ?_ _ | refine kkD ?_ | refine kkA ?_ _)); refine blk_far ?_ NB218_240.out _; (with_reducible repeat (first | refine kkN ?_ _ | refine kkD ?_ | refine kkA ?_ _)); refine blk_far ?_ NB218_240.out _; (with_reducible repeat (first | refine kkN ?_ _ | refine kkD ?_ | refine kkA ?_ _)); refine blk_far ?_ NB218_240.out _; (with_reducible repeat (first | refine kkN ?_ _ | refine kkD ?_ | refine kkA ?_ _)); refine blk_far ?_ NB218_240.out _; (with_reducible repeat (first | refine kkN ?_ _ | refine kkD ?_ | refine kkA ?_ _)); refine blk_far ?_ NB218_240.out _; (with_reducible repeat (first | refine kkN ?_ _ | refine kkD ?_ | refine kkA ?_ _)); refine blk_far ?_ NB218_240.out _; (with_reducible repeat (first | refine kkN ?_ _ | refine kkD ?_ | refine kkA ?_ _)); refine blk_far ?_ NB218_240.out _; (with_reducible repeat (first | refine kkN ?_ _ | refine kkD ?_ | refine kkA ?_ _)); exact BK218.out) hg (by simp [Value.ownBlock])); have n6_ := Aside0.mk (Kd.R_grown (by (with_reducible repeat (first | apply rrA | apply rrN | apply rrD)); exact (Kd.R_mono (Kd.R_far (p := ⟨gb240, 7, none⟩) (Kd.R_far (p := ⟨gb240, 6, none⟩) (Kd.R_far (p := ⟨gb240, 5, none⟩) (Kd.R_far (p := ⟨gb240, 4, none⟩) (Kd.R_far (p := ⟨gb240, 3, none⟩) (Kd.R_far (p := ⟨gb240, 2, none⟩) (Kd.R_far (p := ⟨gb240, 1, none⟩) (Kd.R_far (p := ⟨gb240, 0, none⟩) (Kd.R_types HO227.out BK240.out (by decide)) (fun _ hk => hk.2) (.int .i64 t223)) (fun _ hk => hk.2) (.int .i64 t224)) (fun _ hk => hk.2) (.slice Ao35 t225.length co35)) (fun _ hk => hk.2) (.slice Ao36 t228.length co36)) (fun _ hk => hk.2) (.int .i64 t231)) (fun _ hk => hk.2) (.int .i64 t232)) (fun _ hk => hk.2) (.slice Ao37 t233.length co37)) (fun _ hk => hk.2) (.slice Ao38 t236.length co38)) (fun _ h_ => h_.1))) hg (fun _ _ => by simp [Value.ownBlock])); have n7_ := Aside0.mk (Kd.R_after (Kd.R_apart_nil (by (with_reducible repeat (first | apply rrA | apply rrN | apply rrD)); exact (Kd.R_mono (Kd.R_far (p := ⟨gb240, 7, none⟩) (Kd.R_far (p := ⟨gb240, 6, none⟩) (Kd.R_far (p := ⟨gb240, 5, none⟩) (Kd.R_far (p := ⟨gb240, 4, none⟩) (Kd.R_far (p := ⟨gb240, 3, none⟩) (Kd.R_far (p := ⟨gb240, 2, none⟩) (Kd.R_far (p := ⟨gb240, 1, none⟩) (Kd.R_far (p := ⟨gb240, 0, none⟩) (Kd.R_types HO230.out BK240.out (by decide)) (fun _ hk => hk.2) (.int .i64 t223)) (fun _ hk => hk.2) (.int .i64 t224)) (fun _ hk => hk.2) (.slice Ao35 t225.length co35)) (fun _ hk => hk.2) (.slice Ao36 t228.length co36)) (fun _ hk => hk.2) (.int .i64 t231)) (fun _ hk => hk.2) (.int .i64 t232)) (fun _ hk => hk.2) (.slice Ao37 t233.length co37)) (fun _ hk => hk.2) (.slice Ao38 t236.length co38)) (fun _ h_ => h_.1)))) hg hat); have n8_ := Aside0.mk (Kd.R_grown (by (with_reducible repeat (first | apply rrA | apply rrN | apply rrD)); exact (Kd.R_mono (Kd.R_far (p := ⟨gb240, 7, none⟩) (Kd.R_far (p := ⟨gb240, 6, none⟩) (Kd.R_far (p := ⟨gb240, 5, none⟩) (Kd.R_far (p := ⟨gb240, 4, none⟩) (Kd.R_far (p := ⟨gb240, 3, none⟩) (Kd.R_far (p := ⟨gb240, 2, none⟩) (Kd.R_far (p := ⟨gb240, 1, none⟩) (Kd.R_far (p := ⟨gb240, 0, none⟩) (Kd.R_types HO235.out BK240.out (by decide)) (fun _ hk => hk.2) (.int .i64 t223)) (fun _ hk => hk.2) (.int .i64 t224)) (fun _ hk => hk.2) (.slice Ao35 t225.length co35)) (fun _ hk => hk.2) (.slice Ao36 t228.length co36)) (fun _ hk => hk.2) (.int .i64 t231)) (fun _ hk => hk.2) (.int .i64 t232)) (fun _ hk => hk.2) (.slice Ao37 t233.length co37)) (fun _ hk => hk.2) (.slice Ao38 t236.length co38)) (fun _ h_ => h_.1))) hg (fun _ _ => by simp [Value.ownBlock])); have n9_ := Aside0.mk (Kd.R_grown (by (with_reducible repeat (first | apply rrA | apply rrN | apply rrD)); exact (Kd.R_mono (Kd.R_far (p := ⟨gb240, 7, none⟩) (Kd.R_far (p := ⟨gb240, 6, none⟩) (Kd.R_far (p := ⟨gb240, 5, none⟩) (Kd.R_far (p := ⟨gb240, 4, none⟩) (Kd.R_far (p := ⟨gb240, 3, none⟩) (Kd.R_far (p := ⟨gb240, 2, none⟩) (Kd.R_far (p := ⟨gb240, 1, none⟩) (Kd.R_far (p := ⟨gb240, 0, none⟩) (Kd.R_types HO238.out BK240.out (by decide)) (fun _ hk => hk.2) (.int .i64 t223)) (fun _ hk => hk.2) (.int .i64 t224)) (fun _ hk => hk.2) (.slice Ao35 t225.length co35)) (fun _ hk => hk.2) (.slice Ao36 t228.length co36)) (fun _ hk => hk.2) (.int .i64 t231)) (fun _ hk => hk.2) (.int .i64 t232)) (fun _ hk => hk.2) (.slice Ao37 t233.length co37)) (fun _ hk => hk.2) (.slice Ao38 t236.length co38)) (fun _ h_ => h_.1))) hg (fun _ _ => by simp [Value.ownBlock])); have n10_ := Aside0.mk (blk_grown (g := gb240) (o := .cells #[.int .i64 t223, .int .i64 t224, .slice Ao35 t225.length co35, .slice Ao36 t228.length co36, .int .i64 t231, .int .i64 t232, .slice Ao37 t233.length co37, .slice Ao38 t236.length co38] 30 (0, 0)) (by (with_reducible repeat (first | refine kkN ?_ _ | refine kkD ?_ | refine kkA ?_ _)); refine blk_put (cs := #[.int .i64 t223, .int .i64 t224, .slice Ao35 t225.length co35, .slice Ao36 t228.length co36, .int .i64 t231, .int .i64 t232, .slice Ao37 t233.length co37, .slice none 0 0]) ?_ 7 _ rfl; (with_reducible repeat (first | refine kkN ?_ _ | refine kkD ?_ | refine kkA ?_ _)); refine blk_put (cs := #[.int .i64 t223, .int .i64 t224, .slice Ao35 t225.length co35, .slice Ao36 t228.length co36, .int .i64 t231, .int .i64 t232, .slice none 0 0, .slice none 0 0]) ?_ 6 _ rfl; (with_reducible repeat (first | refine kkN ?_ _ | refine kkD ?_ | refine kkA ?_ _)); refine blk_put (cs := #[.int .i64 t223, .int .i64 t224, .slice Ao35 t225.length co35, .slice Ao36 t228.length co36, .int .i64 t231, .int .i64 0, .slice none 0 0, .slice none 0 0]) ?_ 5 _ rfl; (with_reducible repeat (first | refine kkN ?_ _ | refine kkD ?_ | refine kkA ?_ _)); refine blk_put (cs := #[.int .i64 t223, .int .i64 t224, .slice Ao35 t225.length co35, .slice Ao36 t228.length co36, .int .i64 0, .int .i64 0, .slice none 0 0, .slice none 0 0]) ?_ 4 _ rfl; (with_reducible repeat (first | refine kkN ?_ _ | refine kkD ?_ | refine kkA ?_ _)); refine blk_put (cs := #[.int .i64 t223, .int .i64 t224, .slice Ao35 t225.length co35, .slice none 0 0, .int .i64 0, .int .i64 0, .slice none 0 0, .slice none 0 0]) ?_ 3 _ rfl; (with_reducible repeat (first | refine kkN ?_ _ | refine kkD ?_ | refine kkA ?_ _)); refine blk_put (cs := #[.int .i64 t223, .int .i64 t224, .slice none 0 0, .slice none 0 0, .int .i64 0, .int .i64 0, .slice none 0 0, .slice none 0 0]) ?_ 2 _ rfl; (with_reducible repeat (first | refine kkN ?_ _ | refine kkD ?_ | refine kkA ?_ _)); refine blk_put (cs := #[.int .i64 t223, .int .i64 0, .slice none 0 0, .slice none 0 0, .int .i64 0, .int .i64 0, .slice none 0 0, .slice none 0 0]) ?_ 1 _ rfl; (with_reducible repeat (first | refine kkN ?_ _ | refine kkD ?_ | refine kkA ?_ _)); refine blk_put (cs := #[.int .i64 0, .int .i64 0, .slice none 0 0, .slice none 0 0, .int .i64 0, .int .i64 0, .slice none 0 0, .slice none 0 0]) ?_ 0 _ rfl; (with_reducible repeat (first | refine kkN ?_ _ | refine kkD ?_ | refine kkA ?_ _)); exact BK240.out) hg (by simp [Value.ownBlock])); have n11_ := Aside0.mk (hb); have n12_ := Aside0.mk (ho); clear HO_12; clear HO_219002; clear HO_219003; clear HO_219006; clear HO_219007; clear BK218; clear HO227; clear HO230; clear HO235; clear HO238; clear BK240; clear HB; have HO_12 := n0_; have HO_219002 := n1_; have HO_219003 := n2_; have HO_219006 := n3_; have HO_219007 := n4_; have BK218 := n5_; have HO227 := n6_; have HO230 := n7_; have HO235 := n8_; have HO238 := n9_; have BK240 := n10_; have HB := n11_; have HO243 := n12_; clear n0_ n1_ n2_ n3_ n4_ n5_ n6_ n7_ n8_ n9_ n10_ n11_ n12_; clear ho hb hg hat) | ((with_reducible refine gate_builtin (b := .append) (xs := #[.tmp 64, .tmp 65]) rfl ?_); (try (refine gate_guard (by rfl) ?_; dsimp only)); at_builtin; refine Kd.R_append_rows (Kd.int .i64) (w0 := w) w.heap.size rfl (.tmp 64) (.tmp 65) 27 2 (.int .i64 0) 8 rfl Try.underlying27 info2 rfl (by decide) (by omega) v242 y241 x12_2 _ _ _ (fun k_ => some k_ ≠ (.slice Ao30 x12_2.length co30 : Value).ownBlock ∧ some k_ ≠ (.slice Ao17 t206.length co17 : Value).ownBlock ∧ some k_ ≠ (.slice Ao36 t228.length co36 : Value).ownBlock) (fun _ => False) rfl rfl ?aO ?aR (fun _ _ h => h) (fun _ h => h.elim) ?aF ?aB ?aS ?aL ?_; (case aR => repeat (first | exact (Kd.R_reads' HO_12.out).2.2 | (with_reducible refine ccA ?_ _) | (with_reducible refine ccN ?_ _) | (with_reducible refine ccD ?_))); (case aB => exact (by repeat (first | (with_reducible first | exact HB.out | apply zzA | apply zzN | apply zzD | refine below_set ?_ GE218.out | refine below_set ?_ GE240.out) | exact HB.out))); (case aF => exact (fun k_ hk => ⟨Kd.fresh' (Kd.R_lt (by (with_reducible repeat (first | apply rrA | apply rrN | apply rrD)); exact HO_12.out)) k_ hk, Kd.fresh' (Kd.R_lt (by (with_reducible repeat (first | apply rrA | apply rrN | apply rrD)); exact HO_219003.out)) k_ hk, Kd.fresh' (Kd.R_lt (by (with_reducible repeat (first | apply rrA | apply rrN | apply rrD)); exact HO230.out)) k_ hk⟩)); (case aO => exact (by (with_reducible repeat (first | apply rrA | apply rrN | apply rrD)); exact HO243.out)); (case aS => exact (zzS (by repeat (first | (with_reducible first | exact HB.out | apply zzA | apply zzN | apply zzD | refine below_set ?_ GE218.out | refine below_set ?_ GE240.out) | exact HB.out)))); (case aL => have := LMc27.out; omega); intro v245 w40 ho hb hg hat; rw [← Ny244.out] at ho; have n0_ := Aside0.mk (Kd.R_after (ok := (fun k_ => some k_ ≠ (.slice Ao17 t206.length co17 : Value).ownBlock ∧ some k_ ≠ (.slice Ao36 t228.length co36 : Value).ownBlock)) (by (with_reducible repeat (first | apply rrA | apply rrN | apply rrD)); exact HO_12.out) hg hat); have n1_ := Aside0.mk (Kd.R_over' (by (with_reducible repeat (first | apply rrA | apply rrN | apply rrD)); exact HO_219002.out) (Kd.R_typed (by (with_reducible repeat (first | apply rrA | apply rrN | apply rrD)); exact HO243.out)) (by decide) hg); have n2_ := Aside0.mk (Kd.R_after (ok := (fun k_ => some k_ ≠ (.slice Ao30 x12_2.length co30 : Value).ownBlock ∧ some k_ ≠ (.slice Ao36 t228.length co36 : Value).ownBlock)) (by (with_reducible repeat (first | apply rrA | apply rrN | apply rrD)); exact HO_219003.out) hg hat); have n3_ := Aside0.mk (Kd.R_over' (by (with_reducible repeat (first | apply rrA | apply rrN | apply rrD)); exact HO_219006.out) (Kd.R_typed (by (with_reducible repeat (first | apply rrA | apply rrN | apply rrD)); exact HO243.out)) (by decide) hg); have n4_ := Aside0.mk (Kd.R_over' (by (with_reducible repeat (first | apply rrA | apply rrN | apply rrD)); exact HO_219007.out) (Kd.R_typed (by (with_reducible repeat (first | apply rrA | apply rrN | apply rrD)); exact HO243.out)) (by decide) hg); have n5_ := Aside0.mk (blk_grown (g := gb218) (o := .cells #[.int .i64 t201, .int .i64 t202, .slice Ao16 t203.length co16, .slice Ao17 t206.length co17, .int .i64 t209, .int .i64 t210, .slice Ao18 t211.length co18, .slice Ao19 t214.length co19] 30 (0, 0)) (by (with_reducible repeat (first | refine kkN ?_ _ | refine kkD ?_ | refine kkA ?_ _)); exact BK218.out) hg (Kd.R_ne HO243.out BK218.out (by decide))); have n6_ := Aside0.mk (Kd.R_over' (by (with_reducible repeat (first | apply rrA | apply rrN | apply rrD)); exact HO227.out) (Kd.R_typed (by (with_reducible repeat (first | apply rrA | apply rrN | apply rrD)); exact HO243.out)) (by decide) hg); have n7_ := Aside0.mk (Kd.R_after (ok := (fun k_ => some k_ ≠ (.slice Ao30 x12_2.length co30 : Value).ownBlock ∧ some k_ ≠ (.slice Ao17 t206.length co17 : Value).ownBlock)) (by (with_reducible repeat (first | apply rrA | apply rrN | apply rrD)); exact Kd.R_mono HO230.out (fun _ hk => ⟨⟨hk.1.1.2, hk.1.2⟩, hk.2⟩)) hg hat); have n8_ := Aside0.mk (Kd.R_over' (by (with_reducible repeat (first | apply rrA | apply rrN | apply rrD)); exact HO235.out) (Kd.R_typed (by (with_reducible repeat (first | apply rrA | apply rrN | apply rrD)); exact HO243.out)) (by decide) hg); have n9_ := Aside0.mk (Kd.R_over' (by (with_reducible repeat (first | apply rrA | apply rrN | apply rrD)); exact HO238.out) (Kd.R_typed (by (with_reducible repeat (first | apply rrA | apply rrN | apply rrD)); exact HO243.out)) (by decide) hg); have n10_ := Aside0.mk (blk_grown (g := gb240) (o := .cells #[.int .i64 t223, .int .i64 t224, .slice Ao35 t225.length co35, .slice Ao36 t228.length co36, .int .i64 t231, .int .i64 t232, .slice Ao37 t233.length co37, .slice Ao38 t236.length co38] 30 (0, 0)) (by (with_reducible repeat (first | refine kkN ?_ _ | refine kkD ?_ | refine kkA ?_ _)); exact BK240.out) hg (Kd.R_ne HO243.out BK240.out (by decide))); have n11_ := Aside0.mk (hb); have n12_ := Aside0.mk (ho); clear HO_12; clear HO_219002; clear HO_219003; clear HO_219006; clear HO_219007; clear BK218; clear HO227; clear HO230; clear HO235; clear HO238; clear BK240; clear HB; clear HO243; have HO_12 := n0_; have HO_219002 := n1_; have HO_219003 := n2_; have HO_219006 := n3_; have HO_219007 := n4_; have BK218 := n5_; have HO227 := n6_; have HO230 := n7_; have HO235 := n8_; have HO238 := n9_; have BK240 := n10_; have HB := n11_; have HO246 := n12_; clear n0_ n1_ n2_ n3_ n4_ n5_ n6_ n7_ n8_ n9_ n10_ n11_ n12_; clear ho hb hg hat; obtain ⟨Ao41, co41, eo41⟩ := Kd.R_slice HO246.out; subst eo41) | (go_at_call 46; (with_reducible refine (quant_Press.calls k2 _ _ y244 a1 a2 _ _ l3 t247 t248 t249 t252 t255 t256 t257 t260 t263 _ ?side1 ?side2 ?side3 ?side4 A28.out).mono ?_); (case side1 => repeat (first | exact (Kd.R_reads' HO246.out).2.2 | (with_reducible refine ccA ?_ _) | (with_reducible refine ccN ?_ _) | (with_reducible refine ccD ?_))); (case side2 => exact (Kd.R_reads' HO246.out).2.1); (case side3 => repeat (first | exact (Kd.C_below HR3.out HB.out) | (with_reducible refine ccA ?_ _) | (with_reducible refine ccN ?_ _) | (with_reducible refine ccD ?_))); (case side4 => exact HC3.out); rintro e w42 ⟨v250, v253, v258, v261, rfl, ho0, ho1, ho2, ho3, hb⟩; have n0_ := Aside0.mk (Kd.R_elder' (by (with_reducible repeat (first | apply rrA | apply rrN | apply rrD)); exact HO_12.out) (Kd.R_base ho1) hb); have n1_ := Aside0.mk (Kd.R_elder' (by (with_reducible repeat (first | apply rrA | apply rrN | apply rrD)); exact HO_219002.out) (Kd.R_base ho0) hb); have n2_ := Aside0.mk (Kd.R_elder' (by (with_reducible repeat (first | apply rrA | apply rrN | apply rrD)); exact HO_219003.out) (Kd.R_base ho1) hb); have n3_ := Aside0.mk (Kd.R_elder' (by (with_reducible repeat (first | apply rrA | apply rrN | apply rrD)); exact HO_219006.out) (Kd.R_base ho2) hb); have n4_ := Aside0.mk (Kd.R_elder' (by (with_reducible repeat (first | apply rrA | apply rrN | apply rrD)); exact HO_219007.out) (Kd.R_base ho3) hb); have n5_ := Aside0.mk (Kd.R_elder' (by (with_reducible repeat (first | apply rrA | apply rrN | apply rrD)); exact HO227.out) (Kd.R_base ho0) hb); have n6_ := Aside0.mk (Kd.R_elder' (by (with_reducible repeat (first | apply rrA | apply rrN | apply rrD)); exact HO230.out) (Kd.R_base ho1) hb); have n7_ := Aside0.mk (Kd.R_elder' (by (with_reducible repeat (first | apply rrA | apply rrN | apply rrD)); exact HO235.out) (Kd.R_base ho2) hb); have n8_ := Aside0.mk (Kd.R_elder' (by (with_reducible repeat (first | apply rrA | apply rrN | apply rrD)); exact HO238.out) (Kd.R_base ho3) hb); have n9_ := Aside0.mk (Kd.R_elder' (by (with_reducible repeat (first | apply rrA | apply rrN | apply rrD)); exact HO246.out) (Kd.R_base ho1) hb); have n10_ := Aside0.mk (Kd.R_lower (Kd.R_new' (Kd.R_new' ho0 (Kd.R_lt (by (with_reducible repeat (first | apply rrA | apply rrN | apply rrD)); exact HO_219002.out))) (Kd.R_lt (by (with_reducible repeat (first | apply rrA | apply rrN | apply rrD)); exact HO227.out))) (zzS (by repeat (first | (with_reducible first | exact HB.out | apply zzA | apply zzN | apply zzD | refine below_set ?_ GE218.out | refine below_set ?_ GE240.out) | exact HB.out)))); have n11_ := Aside0.mk (Kd.R_lower (Kd.R_new' (Kd.R_new' (Kd.R_new' (Kd.R_new' ho1 (Kd.R_lt (by (with_reducible repeat (first | apply rrA | apply rrN | apply rrD)); exact HO_12.out))) (Kd.R_lt (by (with_reducible repeat (first | apply rrA | apply rrN | apply rrD)); exact HO_219003.out))) (Kd.R_lt (by (with_reducible repeat (first | apply rrA | apply rrN | apply rrD)); exact HO230.out))) (Kd.R_lt (by (with_reducible repeat (first | apply rrA | apply rrN | apply rrD)); exact HO246.out))) (zzS (by repeat (first | (with_reducible first | exact HB.out | apply zzA | apply zzN | apply zzD | refine below_set ?_ GE218.out | refine below_set ?_ GE240.out) | exact HB.out)))); have n12_ := Aside0.mk (Kd.R_lower (Kd.R_new' (Kd.R_new' ho2 (Kd.R_lt (by (with_reducible repeat (first | apply rrA | apply rrN | apply rrD)); exact HO_219006.out))) (Kd.R_lt (by (with_reducible repeat (first | apply rrA | apply rrN | apply rrD)); exact HO235.out))) (zzS (by repeat (first | (with_reducible first | exact HB.out | apply zzA | apply zzN | apply zzD | refine below_set ?_ GE218.out | refine below_set ?_ GE240.out) | exact HB.out)))); have n13_ := Aside0.mk (Kd.R_lower (Kd.R_new' (Kd.R_new' ho3 (Kd.R_lt (by (with_reducible repeat (first | apply rrA | apply rrN | apply rrD)); exact HO_219007.out))) (Kd.R_lt (by (with_reducible repeat (first | apply rrA | apply rrN | apply rrD)); exact HO238.out))) (zzS (by repeat (first | (with_reducible first | exact HB.out | apply zzA | apply zzN | apply zzD | refine below_set ?_ GE218.out | refine below_set ?_ GE240.out) | exact HB.out)))); have n14_ := Aside0.mk (blk_below (g := gb218) (o := .cells #[.int .i64 t201, .int .i64 t202, .slice Ao16 t203.length co16, .slice Ao17 t206.length co17, .int .i64 t209, .int .i64 t210, .slice Ao18 t211.length co18, .slice Ao19 t214.length co19] 30 (0, 0)) (by (with_reducible repeat (first | refine kkN ?_ _ | refine kkD ?_ | refine kkA ?_ _)); exact BK218.out) hb); have n15_ := Aside0.mk (blk_below (g := gb240) (o := .cells #[.int .i64 t223, .int .i64 t224, .slice Ao35 t225.length co35, .slice Ao36 t228.length co36, .int .i64 t231, .int .i64 t232, .slice Ao37 t233.length co37, .slice Ao38 t236.length co38] 30 (0, 0)) (by (with_reducible repeat (first | refine kkN ?_ _ | refine kkD ?_ | refine kkA ?_ _)); exact BK240.out) hb); have n16_ := Aside0.mk (zzT (by repeat (first | (with_reducible first | exact HB.out | apply zzA | apply zzN | apply zzD | refine below_set ?_ GE218.out | refine below_set ?_ GE240.out) | exact HB.out)) hb); clear HO_12; clear HO_219002; clear HO_219003; clear HO_219006; clear HO_219007; clear HO227; clear HO230; clear HO235; clear HO238; clear HO246; clear BK218; clear BK240; clear HB; have HO_12 := n0_; have HO_219002 := n1_; have HO_219003 := n2_; have HO_219006 := n3_; have HO_219007 := n4_; have HO227 := n5_; have HO230 := n6_; have HO235 := n7_; have HO238 := n8_; have HO246 := n9_; have HO251 := n10_; have HO254 := n11_; have HO259 := n12_; have HO262 := n13_; have BK218 := n14_; have BK240 := n15_; have HB := n16_; clear n0_ n1_ n2_ n3_ n4_ n5_ n6_ n7_ n8_ n9_ n10_ n11_ n12_ n13_ n14_ n15_ n16_; (try clear hb); (try clear ho1); (try clear ho2); (try clear ho3)) | ((with_reducible refine gate_dst (N := 17) rfl ?_); (try (refine gate_guard (by rfl) ?_; dsimp only)); refine box_event ?hg (N := 17) ?hd (cs := #[.int .i64 0, .int .i64 0, .slice none 0 0, .slice none 0 0, .int .i64 0, .int .i64 0, .slice none 0 0, .slice none 0 0]) (t := 30) ?hr ?_; (case hd => rfl); (case hg => rfl); (case hr => first | (go_simp; done) | (go_simp; rfl)); intro gb264 hg w43 hbox hb; have n0_ := Aside0.mk (Kd.R_below (by (with_reducible repeat (first | apply rrA | apply rrN | apply rrD)); exact HO_12.out) hb); have n1_ := Aside0.mk (Kd.R_below (by (with_reducible repeat (first | apply rrA | apply rrN | apply rrD)); exact HO_219002.out) hb); have n2_ := Aside0.mk (Kd.R_below (by (with_reducible repeat (first | apply rrA | apply rrN | apply rrD)); exact HO_219003.out) hb); have n3_ := Aside0.mk (Kd.R_below (by (with_reducible repeat (first | apply rrA | apply rrN | apply rrD)); exact HO_219006.out) hb); have n4_ := Aside0.mk (Kd.R_below (by (with_reducible repeat (first | apply rrA | apply rrN | apply rrD)); exact HO_219007.out) hb); have n5_ := Aside0.mk (Kd.R_below (by (with_reducible repeat (first | apply rrA | apply rrN | apply rrD)); exact HO227.out) hb); have n6_ := Aside0.mk (Kd.R_below (by (with_reducible repeat (first | apply rrA | apply rrN | apply rrD)); exact HO230.out) hb); have n7_ := Aside0.mk (Kd.R_below (by (with_reducible repeat (first | apply rrA | apply rrN | apply rrD)); exact HO235.out) hb); have n8_ := Aside0.mk (Kd.R_below (by (with_reducible repeat (first | apply rrA | apply rrN | apply rrD)); exact HO238.out) hb); have n9_ := Aside0.mk (Kd.R_below (by (with_reducible repeat (first | apply rrA | apply rrN | apply rrD)); exact HO246.out) hb); have n10_ := Aside0.mk (Kd.R_below (by (with_reducible repeat (first | apply rrA | apply rrN | apply rrD)); exact HO251.out) hb); have n11_ := Aside0.mk (Kd.R_below (by (with_reducible repeat (first | apply rrA | apply rrN | apply rrD)); exact HO254.out) hb); have n12_ := Aside0.mk (Kd.R_below (by (with_reducible repeat (first | apply rrA | apply rrN | apply rrD)); exact HO259.out) hb); have n13_ := Aside0.mk (Kd.R_below (by (with_reducible repeat (first | apply rrA | apply rrN | apply rrD)); exact HO262.out) hb); have n14_ := Aside0.mk (blk_below (g := gb218) (o := .cells #[.int .i64 t201, .int .i64 t202, .slice Ao16 t203.length co16, .slice Ao17 t206.length co17, .int .i64 t209, .int .i64 t210, .slice Ao18 t211.length co18, .slice Ao19 t214.length co19] 30 (0, 0)) (by (with_reducible repeat (first | refine kkN ?_ _ | refine kkD ?_ | refine kkA ?_ _)); exact BK218.out) hb); have n15_ := Aside0.mk (blk_below (g := gb240) (o := .cells #[.int .i64 t223, .int .i64 t224, .slice Ao35 t225.length co35, .slice Ao36 t228.length co36, .int .i64 t231, .int .i64 t232, .slice Ao37 t233.length co37, .slice Ao38 t236.length co38] 30 (0, 0)) (by (with_reducible repeat (first | refine kkN ?_ _ | refine kkD ?_ | refine kkA ?_ _)); exact BK240.out) hb); have n16_ := Aside0.mk (zzT (by repeat (first | (with_reducible first | exact HB.out | apply zzA | apply zzN | apply zzD | refine below_set ?_ GE218.out | refine below_set ?_ GE240.out) | exact HB.out)) hb); have n17_ := Aside0.mk (hbox); have n18_ := Aside0.mk ((by rw [hg]; exact (zzS (by repeat (first | (with_reducible first | exact HB.out | apply zzA | apply zzN | apply zzD | refine below_set ?_ GE218.out | refine below_set ?_ GE240.out) | exact HB.out))) : w.heap.size ≤ gb264)); have n19_ := Aside0.mk ((by rw [hg]; exact (zzS (by repeat (first | (with_reducible first | exact HB.out | apply zzA | apply zzN | apply zzD | refine below_set ?_ GE218.out | refine below_set ?_ GE240.out) | exact HB.out))) : w.heap.size ≤ gb264)); have n20_ := Aside0.mk ((by rw [hg]; exact Nat.ne_of_lt (blk_lt (g := gb218) (o := .cells #[.int .i64 t201, .int .i64 t202, .slice Ao16 t203.length co16, .slice Ao17 t206.length co17, .int .i64 t209, .int .i64 t210, .slice Ao18 t211.length co18, .slice Ao19 t214.length co19] 30 (0, 0)) (by (with_reducible repeat (first | refine kkN ?_ _ | refine kkD ?_ | refine kkA ?_ _)); exact BK218.out)) : gb218 ≠ gb264)); have n21_ := Aside0.mk ((by rw [hg]; exact Nat.ne_of_gt (blk_lt (g := gb218) (o := .cells #[.int .i64 t201, .int .i64 t202, .slice Ao16 t203.length co16, .slice Ao17 t206.length co17, .int .i64 t209, .int .i64 t210, .slice Ao18 t211.length co18, .slice Ao19 t214.length co19] 30 (0, 0)) (by (with_reducible repeat (first | refine kkN ?_ _ | refine kkD ?_ | refine kkA ?_ _)); exact BK218.out)) : gb264 ≠ gb218)); have n22_ := Aside0.mk ((by rw [hg]; exact Nat.ne_of_lt (blk_lt (g := gb240) (o := .cells #[.int .i64 t223, .int .i64 t224, .slice Ao35 t225.length co35, .slice Ao36 t228.length co36, .int .i64 t231, .int .i64 t232, .slice Ao37 t233.length co37, .slice Ao38 t236.length co38] 30 (0, 0)) (by (with_reducible repeat (first | refine kkN ?_ _ | refine kkD ?_ | refine kkA ?_ _)); exact BK240.out)) : gb240 ≠ gb264)); have n23_ := Aside0.mk ((by rw [hg]; exact Nat.ne_of_gt (blk_lt (g := gb240) (o := .cells #[.int .i64 t223, .int .i64 t224, .slice Ao35 t225.length co35, .slice Ao36 t228.length co36, .int .i64 t231, .int .i64 t232, .slice Ao37 t233.length co37, .slice Ao38 t236.length co38] 30 (0, 0)) (by (with_reducible repeat (first | refine kkN ?_ _ | refine kkD ?_ | refine kkA ?_ _)); exact BK240.out)) : gb264 ≠ gb240)); clear HO_12; clear HO_219002; clear HO_219003; clear HO_219006; clear HO_219007; clear HO227; clear HO230; clear HO235; clear HO238; clear HO246; clear HO251; clear HO254; clear HO259; clear HO262; clear BK218; clear BK240; clear HB; have HO_12 := n0_; have HO_219002 := n1_; have HO_219003 := n2_; have HO_219006 := n3_; have HO_219007 := n4_; have HO227 := n5_; have HO230 := n6_; have HO235 := n7_; have HO238 := n8_; have HO246 := n9_; have HO251 := n10_; have HO254 := n11_; have HO259 := n12_; have HO262 := n13_; have BK218 := n14_; have BK240 := n15_; have HB := n16_; have BK264 := n17_; have GW264 := n18_; have GE264 := n19_; have NB218_264 := n20_; have NB264_218 := n21_; have NB240_264 := n22_; have NB264_240 := n23_; clear n0_ n1_ n2_ n3_ n4_ n5_ n6_ n7_ n8_ n9_ n10_ n11_ n12_ n13_ n14_ n15_ n16_ n17_ n18_ n19_ n20_ n21_ n22_ n23_; clear hb hbox hg; have hnb44 := NB264_218.out; have hnc44 := NB218_264.out; have hnb45 := NB264_240.out; have hnc45 := NB240_264.out; have hcz46_0 : w43.cell? ⟨gb264, 0, none⟩ = some (.int .i64 0) := (blk_cell BK264.out 0).trans rfl; have hcz46_1 : w43.cell? ⟨gb264, 1, none⟩ = some (.int .i64 0) := (blk_cell BK264.out 1).trans rfl; have hcz46_2 : w43.cell? ⟨gb264, 2, none⟩ = some (.slice none 0 0) := (blk_cell BK264.out 2).trans rfl; have hcz46_3 : w43.cell? ⟨gb264, 3, none⟩ = some (.slice none 0 0) := (blk_cell BK264.out 3).trans rfl; have hcz46_4 : w43.cell? ⟨gb264, 4, none⟩ = some (.int .i64 0) := (blk_cell BK264.out 4).trans rfl; have hcz46_5 : w43.cell? ⟨gb264, 5, none⟩ = some (.int .i64 0) := (blk_cell BK264.out 5).trans rfl; have hcz46_6 : w43.cell? ⟨gb264, 6, none⟩ = some (.slice none 0 0) := (blk_cell BK264.out 6).trans rfl; have hcz46_7 : w43.cell? ⟨gb264, 7, none⟩ = some (.slice none 0 0) := (blk_cell BK264.out 7).trans rfl; have hfz46_0 := blk_frozen BK264.out 0; have hfz46_1 := blk_frozen BK264.out 1; have hfz46_2 := blk_frozen BK264.out 2; have hfz46_3 := blk_frozen BK264.out 3; have hfz46_4 := blk_frozen BK264.out 4; have hfz46_5 := blk_frozen BK264.out 5; have hfz46_6 := blk_frozen BK264.out 6; have hfz46_7 := blk_frozen BK264.out 7; obtain ⟨Ao47, co47, eo47⟩ := Kd.R_slice HO251.out; subst eo47; obtain ⟨Ao48, co48, eo48⟩ := Kd.R_slice HO254.out; subst eo48; obtain ⟨Ao49, co49, eo49⟩ := Kd.R_slice HO259.out; subst eo49; obtain ⟨Ao50, co50, eo50⟩ := Kd.R_slice HO262.out; subst eo50))
          repeat (go_quiet (first | (go_at_call 46; (with_reducible refine (quant_Press.calls k2 _ _ x12_2 a1 a2 _ _ l3 t223 t224 t225 t228 t231 t232 t233 t236 t239 _ ?side1 ?side2 ?side3 ?side4 A25.out).mono ?_); (case side1 => repeat (first | exact (Kd.R_reads' HO_12.out).2.2 | (with_reducible refine ccA ?_ _) | (with_reducible refine ccN ?_ _) | (with_reducible refine ccD ?_))); (case side2 => exact (Kd.R_reads' HO_12.out).2.1); (case side3 => repeat (first | exact (Kd.C_below HR3.out HB.out) | (with_reducible refine ccA ?_ _) | (with_reducible refine ccN ?_ _) | (with_reducible refine ccD ?_))); (case side4 => exact HC3.out); rintro e w31 ⟨v226, v229, v234, v237, rfl, ho0, ho1, ho2, ho3, hb⟩; have n0_ := Aside0.mk (Kd.R_elder' (by (with_reducible repeat (first | apply rrA | apply rrN | apply rrD)); exact HO_12.out) (Kd.R_base ho1) hb); have n1_ := Aside0.mk (Kd.R_elder' (by (with_reducible repeat (first | apply rrA | apply rrN | apply rrD)); exact HO_219002.out) (Kd.R_base ho0) hb); have n2_ := Aside0.mk (Kd.R_elder' (by (with_reducible repeat (first | apply rrA | apply rrN | apply rrD)); exact HO_219003.out) (Kd.R_base ho1) hb); have n3_ := Aside0.mk (Kd.R_elder' (by (with_reducible repeat (first | apply rrA | apply rrN | apply rrD)); exact HO_219006.out) (Kd.R_base ho2) hb); have n4_ := Aside0.mk (Kd.R_elder' (by (with_reducible repeat (first | apply rrA | apply rrN | apply rrD)); exact HO_219007.out) (Kd.R_base ho3) hb); have n5_ := Aside0.mk (Kd.R_lower (Kd.R_new' ho0 (Kd.R_lt (by (with_reducible repeat (first | apply rrA | apply rrN | apply rrD)); exact HO_219002.out))) (zzS (by repeat (first | (with_reducible first | exact HB.out | apply zzA | apply zzN | apply zzD | refine below_set ?_ GE218.out) | exact HB.out)))); have n6_ := Aside0.mk (Kd.R_lower (Kd.R_new' (Kd.R_new' ho1 (Kd.R_lt (by (with_reducible repeat (first | apply rrA | apply rrN | apply rrD)); exact HO_12.out))) (Kd.R_lt (by (with_reducible repeat (first | apply rrA | apply rrN | apply rrD)); exact HO_219003.out))) (zzS (by repeat (first | (with_reducible first | exact HB.out | apply zzA | apply zzN | apply zzD | refine below_set ?_ GE218.out) | exact HB.out)))); have n7_ := Aside0.mk (Kd.R_lower (Kd.R_new' ho2 (Kd.R_lt (by (with_reducible repeat (first | apply rrA | apply rrN | apply rrD)); exact HO_219006.out))) (zzS (by repeat (first | (with_reducible first | exact HB.out | apply zzA | apply zzN | apply zzD | refine below_set ?_ GE218.out) | exact HB.out)))); have n8_ := Aside0.mk (Kd.R_lower (Kd.R_new' ho3 (Kd.R_lt (by (with_reducible repeat (first | apply rrA | apply rrN | apply rrD)); exact HO_219007.out))) (zzS (by repeat (first | (with_reducible first | exact HB.out | apply zzA | apply zzN | apply zzD | refine below_set ?_ GE218.out) | exact HB.out)))); have n9_ := Aside0.mk (blk_below (g := gb218) (o := .cells #[.int .i64 t201, .int .i64 t202, .slice Ao16 t203.length co16, .slice Ao17 t206.length co17, .int .i64 t209, .int .i64 t210, .slice Ao18 t211.length co18, .slice Ao19 t214.length co19] 30 (0, 0)) (by (with_reducible repeat (first | refine kkN ?_ _ | refine kkD ?_ | refine kkA ?_ _)); exact BK218.out) hb); have n10_ := Aside0.mk (zzT (by repeat (first | (with_reducible first | exact HB.out | apply zzA | apply zzN | apply zzD | refine below_set ?_ GE218.out) | exact HB.out)) hb); clear HO_12; clear HO_219002; clear HO_219003; clear HO_219006; clear HO_219007; clear BK218; clear HB; have HO_12 := n0_; have HO_219002 := n1_; have HO_219003 := n2_; have HO_219006 := n3_; have HO_219007 := n4_; have HO227 := n5_; have HO230 := n6_; have HO235 := n7_; have HO238 := n8_; have BK218 := n9_; have HB := n10_; clear n0_ n1_ n2_ n3_ n4_ n5_ n6_ n7_ n8_ n9_ n10_; (try clear hb); (try clear ho1); (try clear ho2); (try clear ho3)) | ((with_reducible refine gate_dst (N := 15) rfl ?_); (try (refine gate_guard (by rfl) ?_; dsimp only)); refine box_event ?hg (N := 15) ?hd (cs := #[.int .i64 0, .int .i64 0, .slice none 0 0, .slice none 0 0, .int .i64 0, .int .i64 0, .slice none 0 0, .slice none 0 0]) (t := 30) ?hr ?_; (case hd => rfl); (case hg => rfl); (case hr => first | (go_simp; done) | (go_simp; rfl)); intro gb240 hg w32 hbox hb; have n0_ := Aside0.mk (Kd.R_below (by (with_reducible repeat (first | apply rrA | apply rrN | apply rrD)); exact HO_12.out) hb); have n1_ := Aside0.mk (Kd.R_below (by (with_reducible repeat (first | apply rrA | apply rrN | apply rrD)); exact HO_219002.out) hb); have n2_ := Aside0.mk (Kd.R_below (by (with_reducible repeat (first | apply rrA | apply rrN | apply rrD)); exact HO_219003.out) hb); have n3_ := Aside0.mk (Kd.R_below (by (with_reducible repeat (first | apply rrA | apply rrN | apply rrD)); exact HO_219006.out) hb); have n4_ := Aside0.mk (Kd.R_below (by (with_reducible repeat (first | apply rrA | apply rrN | apply rrD)); exact HO_219007.out) hb); have n5_ := Aside0.mk (Kd.R_below (by (with_reducible repeat (first | apply rrA | apply rrN | apply rrD)); exact HO227.out) hb); have n6_ := Aside0.mk (Kd.R_below (by (with_reducible repeat (first | apply rrA | apply rrN | apply rrD)); exact HO230.out) hb); have n7_ := Aside0.mk (Kd.R_below (by (with_reducible repeat (first | apply rrA | apply rrN | apply rrD)); exact HO235.out) hb); have n8_ := Aside0.mk (Kd.R_below (by (with_reducible repeat (first | apply rrA | apply rrN | apply rrD)); exact HO238.out) hb); have n9_ := Aside0.mk (blk_below (g := gb218) (o := .cells #[.int .i64 t201, .int .i64 t202, .slice Ao16 t203.length co16, .slice Ao17 t206.length co17, .int .i64 t209, .int .i64 t210, .slice Ao18 t211.length co18, .slice Ao19 t214.length co19] 30 (0, 0)) (by (with_reducible repeat (first | refine kkN ?_ _ | refine kkD ?_ | refine kkA ?_ _)); exact BK218.out) hb); have n10_ := Aside0.mk (zzT (by repeat (first | (with_reducible first | exact HB.out | apply zzA | apply zzN | apply zzD | refine below_set ?_ GE218.out) | exact HB.out)) hb); have n11_ := Aside0.mk (hbox); have n12_ := Aside0.mk ((by rw [hg]; exact (zzS (by repeat (first | (with_reducible first | exact HB.out | apply zzA | apply zzN | apply zzD | refine below_set ?_ GE218.out) | exact HB.out))) : w.heap.size ≤ gb240)); have n13_ := Aside0.mk ((by rw [hg]; exact (zzS (by repeat (first | (with_reducible first | exact HB.out | apply zzA | apply zzN | apply zzD | refine below_set ?_ GE218.out) | exact HB.out))) : w.heap.size ≤ gb240)); have n14_ := Aside0.mk ((by rw [hg]; exact Nat.ne_of_lt (blk_lt (g := gb218) (o := .cells #[.int .i64 t201, .int .i64 t202, .slice Ao16 t203.length co16, .slice Ao17 t206.length co17, .int .i64 t209, .int .i64 t210, .slice Ao18 t211.length co18, .slice Ao19 t214.length co19] 30 (0, 0)) (by (with_reducible repeat (first | refine kkN ?_ _ | refine kkD ?_ | refine kkA ?_ _)); exact BK218.out)) : gb218 ≠ gb240)); have n15_ := Aside0.mk ((by rw [hg]; exact Nat.ne_of_gt (blk_lt (g := gb218) (o := .cells #[.int .i64 t201, .int .i64 t202, .slice Ao16 t203.length co16, .slice Ao17 t206.length co17, .int .i64 t209, .int .i64 t210, .slice Ao18 t211.length co18, .slice Ao19 t214.length co19] 30 (0, 0)) (by (with_reducible repeat (first | refine kkN ?_ _ | refine kkD ?_ | refine kkA ?_ _)); exact BK218.out)) : gb240 ≠ gb218)); clear HO_12; clear HO_219002; clear HO_219003; clear HO_219006; clear HO_219007; clear HO227; clear HO230; clear HO235; clear HO238; clear BK218; clear HB; have HO_12 := n0_; have HO_219002 := n1_; have HO_219003 := n2_; have HO_219006 := n3_; have HO_219007 := n4_; have HO227 := n5_; have HO230 := n6_; have HO235 := n7_; have HO238 := n8_; have BK218 := n9_; have HB := n10_; have BK240 := n11_; have GW240 := n12_; have GE240 := n13_; have NB218_240 := n14_; have NB240_218 := n15_; clear n0_ n1_ n2_ n3_ n4_ n5_ n6_ n7_ n8_ n9_ n10_ n11_ n12_ n13_ n14_ n15_; clear hb hbox hg; have hnb33 := NB240_218.out; have hnc33 := NB218_240.out; have hcz34_0 : w32.cell? ⟨gb240, 0, none⟩ = some (.int .i64 0) := (blk_cell BK240.out 0).trans rfl; have hcz34_1 : w32.cell? ⟨gb240, 1, none⟩ = some (.int .i64 0) := (blk_cell BK240.out 1).trans rfl; have hcz34_2 : w32.cell? ⟨gb240, 2, none⟩ = some (.slice none 0 0) := (blk_cell BK240.out 2).trans rfl; have hcz34_3 : w32.cell? ⟨gb240, 3, none⟩ = some (.slice none 0 0) := (blk_cell BK240.out 3).trans rfl; have hcz34_4 : w32.cell? ⟨gb240, 4, none⟩ = some (.int .i64 0) := (blk_cell BK240.out 4).trans rfl; have hcz34_5 : w32.cell? ⟨gb240, 5, none⟩ = some (.int .i64 0) := (blk_cell BK240.out 5).trans rfl; have hcz34_6 : w32.cell? ⟨gb240, 6, none⟩ = some (.slice none 0 0) := (blk_cell BK240.out 6).trans rfl; have hcz34_7 : w32.cell? ⟨gb240, 7, none⟩ = some (.slice none 0 0) := (blk_cell BK240.out 7).trans rfl; have hfz34_0 := blk_frozen BK240.out 0; have hfz34_1 := blk_frozen BK240.out 1; have hfz34_2 := blk_frozen BK240.out 2; have hfz34_3 := blk_frozen BK240.out 3; have hfz34_4 := blk_frozen BK240.out 4; have hfz34_5 := blk_frozen BK240.out 5; have hfz34_6 := blk_frozen BK240.out 6; have hfz34_7 := blk_frozen BK240.out 7; obtain ⟨Ao35, co35, eo35⟩ := Kd.R_slice HO227.out; subst eo35; obtain ⟨Ao36, co36, eo36⟩ := Kd.R_slice HO230.out; subst eo36; obtain ⟨Ao37, co37, eo37⟩ := Kd.R_slice HO235.out; subst eo37; obtain ⟨Ao38, co38, eo38⟩ := Kd.R_slice HO238.out; subst eo38) | ((with_reducible refine gate_builtin (b := .append) (xs := #[.const (.slice none 0 0), .tmp 63]) rfl ?_); (try (refine gate_guard (by rfl) ?_; dsimp only)); at_builtin; refine Kd.R_append_rows (Kd.int .i64) (w0 := w) w.heap.size rfl (.const (.slice none 0 0)) (.tmp 63) 27 2 (.int .i64 0) 8 rfl Try.underlying27 info2 rfl (by decide) (by omega) (.slice none 0 0) ([] : List Int) l0 _ _ _ (fun k_ => some k_ ≠ (.slice Ao30 x12_2.length co30 : Value).ownBlock ∧ some k_ ≠ (.slice Ao17 t206.length co17 : Value).ownBlock ∧ some k_ ≠ (.slice Ao36 t228.length co36 : Value).ownBlock) (fun _ => False) rfl rfl ?aO ?aR (fun _ _ h => h) (fun _ h => h.elim) ?aF ?aB ?aS ?aL ?_; (case aR => exact Kd.C_below HR0.out (by repeat (first | (with_reducible first | exact HB.out | apply zzA | apply zzN | apply zzD | refine below_set ?_ GE218.out | refine below_set ?_ GE240.out) | exact HB.out))); (case aB => exact (by repeat (first | (with_reducible first | exact HB.out | apply zzA | apply zzN | apply zzD | refine below_set ?_ GE218.out | refine below_set ?_ GE240.out) | exact HB.out))); (case aF => exact (fun k_ hk => ⟨Kd.fresh' (Kd.R_lt (by (with_reducible repeat (first | apply rrA | apply rrN | apply rrD)); exact (Kd.R_mono (Kd.R_far (p := ⟨gb240, 7, none⟩) (Kd.R_far (p := ⟨gb240, 6, none⟩) (Kd.R_far (p := ⟨gb240, 5, none⟩) (Kd.R_far (p := ⟨gb240, 4, none⟩) (Kd.R_far (p := ⟨gb240, 3, none⟩) (Kd.R_far (p := ⟨gb240, 2, none⟩) (Kd.R_far (p := ⟨gb240, 1, none⟩) (Kd.R_far (p := ⟨gb240, 0, none⟩) (Kd.R_types HO_12.out BK240.out (by decide)) (fun _ hk => hk.2) (.int .i64 t223)) (fun _ hk => hk.2) (.int .i64 t224)) (fun _ hk => hk.2) (.slice Ao35 t225.length co35)) (fun _ hk => hk.2) (.slice Ao36 t228.length co36)) (fun _ hk => hk.2) (.int .i64 t231)) (fun _ hk => hk.2) (.int .i64 t232)) (fun _ hk => hk.2) (.slice Ao37 t233.length co37)) (fun _ hk => hk.2) (.slice Ao38 t236.length co38)) (fun _ h_ => h_.1)))) k_ hk, Kd.fresh' (Kd.R_lt (by (with_reducible repeat (first | apply rrA | apply rrN | apply rrD)); exact (Kd.R_mono (Kd.R_far (p := ⟨gb240, 7, none⟩) (Kd.R_far (p := ⟨gb240, 6, none⟩) (Kd.R_far (p := ⟨gb240, 5, none⟩) (Kd.R_far (p := ⟨gb240, 4, none⟩) (Kd.R_far (p := ⟨gb240, 3, none⟩) (Kd.R_far (p := ⟨gb240, 2, none⟩) (Kd.R_far (p := ⟨gb240, 1, none⟩) (Kd.R_far (p := ⟨gb240, 0, none⟩) (Kd.R_types HO_219003.out BK240.out (by decide)) (fun _ hk => hk.2) (.int .i64 t223)) (fun _ hk => hk.2) (.int .i64 t224)) (fun _ hk => hk.2) (.slice Ao35 t225.length co35)) (fun _ hk => hk.2) (.slice Ao36 t228.length co36)) (fun _ hk => hk.2) (.int .i64 t231)) (fun _ hk => hk.2) (.int .i64 t232)) (fun _ hk => hk.2) (.slice Ao37 t233.length co37)) (fun _ hk => hk.2) (.slice Ao38 t236.length co38)) (fun _ h_ => h_.1)))) k_ hk, Kd.fresh' (Kd.R_lt (by (with_reducible repeat (first | apply rrA | apply rrN | apply rrD)); exact (Kd.R_mono (Kd.R_far (p := ⟨gb240, 7, none⟩) (Kd.R_far (p := ⟨gb240, 6, none⟩) (Kd.R_far (p := ⟨gb240, 5, none⟩) (Kd.R_far (p := ⟨gb240, 4, none⟩) (Kd.R_far (p := ⟨gb240, 3, none⟩) (Kd.R_far (p := ⟨gb240, 2, none⟩) (Kd.R_far (p := ⟨gb240, 1, none⟩) (Kd.R_far (p := ⟨gb240, 0, none⟩) (Kd.R_types HO230.out BK240.out (by decide)) (fun _ hk => hk.2) (.int .i64 t223)) (fun _ hk => hk.2) (.int .i64 t224)) (fun _ hk => hk.2) (.slice Ao35 t225.length co35)) (fun _ hk => hk.2) (.slice Ao36 t228.length co36)) (fun _ hk => hk.2) (.int .i64 t231)) (fun _ hk => hk.2) (.int .i64 t232)) (fun _ hk => hk.2) (.slice Ao37 t233.length co37)) (fun _ hk => hk.2) (.slice Ao38 t236.length co38)) (fun _ h_ => h_.1)))) k_ hk⟩)); (case aO => exact ((Kd.R_nil _ _ _ _ (fun k_ => some k_ ≠ (.slice Ao30 x12_2.length co30 : Value).ownBlock ∧ some k_ ≠ (.slice Ao17 t206.length co17 : Value).ownBlock ∧ some k_ ≠ (.slice Ao36 t228.length co36 : Value).ownBlock)))); (case aS => exact (zzS (by repeat (first | (with_reducible first | exact HB.out | apply zzA | apply zzN | apply zzD | refine below_set ?_ GE218.out | refine below_set ?_ GE240.out) | exact HB.out)))); (case aL => have := LMc26.out; omega); intro v242 w39 ho hb hg hat; rw [← Ny241.out] at ho; have n0_ := Aside0.mk (Kd.R_after (Kd.R_apart_nil (by (with_reducible repeat (first | apply rrA | apply rrN | apply rrD)); exact (Kd.R_mono (Kd.R_far (p := ⟨gb240, 7, none⟩) (Kd.R_far (p := ⟨gb240, 6, none⟩) (Kd.R_far (p := ⟨gb240, 5, none⟩) (Kd.R_far (p := ⟨gb240, 4, none⟩) (Kd.R_far (p := ⟨gb240, 3, none⟩) (Kd.R_far (p := ⟨gb240, 2, none⟩) (Kd.R_far (p := ⟨gb240, 1, none⟩) (Kd.R_far (p := ⟨gb240, 0, none⟩) (Kd.R_types HO_12.out BK240.out (by decide)) (fun _ hk => hk.2) (.int .i64 t223)) (fun _ hk => hk.2) (.int .i64 t224)) (fun _ hk => hk.2) (.slice Ao35 t225.length co35)) (fun _ hk => hk.2) (.slice Ao36 t228.length co36)) (fun _ hk => hk.2) (.int .i64 t231)) (fun _ hk => hk.2) (.int .i64 t232)) (fun _ hk => hk.2) (.slice Ao37 t233.length co37)) (fun _ hk => hk.2) (.slice Ao38 t236.length co38)) (fun _ h_ => h_.1)))) hg hat); have n1_ := Aside0.mk (Kd.R_grown (by (with_reducible repeat (first | apply rrA | apply rrN | apply rrD)); exact (Kd.R_mono (Kd.R_far (p := ⟨gb240, 7, none⟩) (Kd.R_far (p := ⟨gb240, 6, none⟩) (Kd.R_far (p := ⟨gb240, 5, none⟩) (Kd.R_far (p := ⟨gb240, 4, none⟩) (Kd.R_far (p := ⟨gb240, 3, none⟩) (Kd.R_far (p := ⟨gb240, 2, none⟩) (Kd.R_far (p := ⟨gb240, 1, none⟩) (Kd.R_far (p := ⟨gb240, 0, none⟩) (Kd.R_types HO_219002.out BK240.out (by decide)) (fun _ hk => hk.2) (.int .i64 t223)) (fun _ hk => hk.2) (.int .i64 t224)) (fun _ hk => hk.2) (.slice Ao35 t225.length co35)) (fun _ hk => hk.2) (.slice Ao36 t228.length co36)) (fun _ hk => hk.2) (.int .i64 t231)) (fun _ hk => hk.2) (.int .i64 t232)) (fun _ hk => hk.2) (.slice Ao37 t233.length co37)) (fun _ hk => hk.2) (.slice Ao38 t236.length co38)) (fun _ h_ => h_.1))) hg (fun _ _ => by simp [Value.ownBlock])); have n2_ := Aside0.mk (Kd.R_after (Kd.R_apart_nil (by (with_reducible repeat (first | apply rrA | apply rrN | apply rrD)); exact (Kd.R_mono (Kd.R_far (p := ⟨gb240, 7, none⟩) (Kd.R_far (p := ⟨gb240, 6, none⟩) (Kd.R_far (p := ⟨gb240, 5, none⟩) (Kd.R_far (p := ⟨gb240, 4, none⟩) (Kd.R_far (p := ⟨gb240, 3, none⟩) (Kd.R_far (p := ⟨gb240, 2, none⟩) (Kd.R_far (p := ⟨gb240, 1, none⟩) (Kd.R_far (p := ⟨gb240, 0, none⟩) (Kd.R_types HO_219003.out BK240.out (by decide)) (fun _ hk => hk.2) (.int .i64 t223)) (fun _ hk => hk.2) (.int .i64 t224)) (fun _ hk => hk.2) (.slice Ao35 t225.length co35)) (fun _ hk => hk.2) (.slice Ao36 t228.length co36)) (fun _ hk => hk.2) (.int .i64 t231)) (fun _ hk => hk.2) (.int .i64 t232)) (fun _ hk => hk.2) (.slice Ao37 t233.length co37)) (fun _ hk => hk.2) (.slice Ao38 t236.length co38)) (fun _ h_ => h_.1)))) hg hat); have n3_ := Aside0.mk (Kd.R_grown (by (with_reducible repeat (first | apply rrA | apply rrN | apply rrD)); exact (Kd.R_mono (Kd.R_far (p := ⟨gb240, 7, none⟩) (Kd.R_far (p := ⟨gb240, 6, none⟩) (Kd.R_far (p := ⟨gb240, 5, none⟩) (Kd.R_far (p := ⟨gb240, 4, none⟩) (Kd.R_far (p := ⟨gb240, 3, none⟩) (Kd.R_far (p := ⟨gb240, 2, none⟩) (Kd.R_far (p := ⟨gb240, 1, none⟩) (Kd.R_far (p := ⟨gb240, 0, none⟩) (Kd.R_types HO_219006.out BK240.out (by decide)) (fun _ hk => hk.2) (.int .i64 t223)) (fun _ hk => hk.2) (.int .i64 t224)) (fun _ hk => hk.2) (.slice Ao35 t225.length co35)) (fun _ hk => hk.2) (.slice Ao36 t228.length co36)) (fun _ hk => hk.2) (.int .i64 t231)) (fun _ hk => hk.2) (.int .i64 t232)) (fun _ hk => hk.2) (.slice Ao37 t233.length co37)) (fun _ hk => hk.2) (.slice Ao38 t236.length co38)) (fun _ h_ => h_.1))) hg (fun _ _ => by simp [Value.ownBlock])); have n4_ := Aside0.mk (Kd.R_grown (by (with_reducible repeat (first | apply rrA | apply rrN | apply rrD)); exact (Kd.R_mono (Kd.R_far (p := ⟨gb240, 7, none⟩) (Kd.R_far (p := ⟨gb240, 6, none⟩) (Kd.R_far (p := ⟨gb240, 5, none⟩) (Kd.R_far (p := ⟨gb240, 4, none⟩) (Kd.R_far (p := ⟨gb240, 3, none⟩) (Kd.R_far (p := ⟨gb240, 2, none⟩) (Kd.R_far (p := ⟨gb240, 1, none⟩) (Kd.R_far (p := ⟨gb240, 0, none⟩) (Kd.R_types HO_219007.out BK240.out (by decide)) (fun _ hk => hk.2) (.int .i64 t223)) (fun _ hk => hk.2) (.int .i64 t224)) (fun _ hk => hk.2) (.slice Ao35 t225.length co35)) (fun _ hk => hk.2) (.slice Ao36 t228.length co36)) (fun _ hk => hk.2) (.int .i64 t231)) (fun _ hk => hk.2) (.int .i64 t232)) (fun _ hk => hk.2) (.slice Ao37 t233.length co37)) (fun _ hk => hk.2) (.slice Ao38 t236.length co38)) (fun _ h_ => h_.1))) hg (fun _ _ => by simp [Value.ownBlock])); have n5_ := Aside0.mk (blk_grown (g := gb218) (o := .cells #[.int .i64 t201, .int .i64 t202, .slice Ao16 t203.length co16, .slice Ao17 t206.length co17, .int .i64 t209, .int .i64 t210, .slice Ao18 t211.length co18, .slice Ao19 t214.length co19] 30 (0, 0)) (by (with_reducible repeat (first | refine kkN ?_ _ | refine kkD ?_ | refine kkA ?_ _)); refine blk_far ?_ NB218_240.out _; (with_reducible repeat (first | refine kkN ?_ _ | refine kkD ?_ | refine kkA ?_ _)); refine blk_far ?_ NB218_240.out _; (with_reducible repeat (first | refine kkN ?_ _ | refine kkD ?_ | refine kkA ?_ _)); refine blk_far ?_ NB218_240.out _; (with_reducible repeat (first | refine kkN ?_ _ | refine kkD ?_ | refine kkA ?_ _)); refine blk_far ?_ NB218_240.out _; (with_reducible repeat (first | refine kkN ?_ _ | refine kkD ?_ | refine kkA ?_ _)); refine blk_far ?_ NB218_240.out _; (with_reducible repeat (first | refine kkN ?_ _ | refine kkD ?_ | refine kkA ?_ _)); refine blk_far ?_ NB218_240.out _; (with_reducible repeat (first | refine kkN ?_ _ | refine kkD ?_ | refine kkA ?_ _)); refine blk_far ?_ NB218_240.out _; (with_reducible repeat (first | refine kkN ?_ _ | refine kkD ?_ | refine kkA ?_ _)); refine blk_far ?_ NB218_240.out _; (with_reducible repeat (first | refine kkN ?_ _ | refine kkD ?_ | refine kkA ?_ _)); exact BK218.out) hg (by simp [Value.ownBlock])); have n6_ := Aside0.mk (Kd.R_grown (by (with_reducible repeat (first | apply rrA | apply rrN | apply rrD)); exact (Kd.R_mono (Kd.R_far (p := ⟨gb240, 7, none⟩) (Kd.R_far (p := ⟨gb240, 6, none⟩) (Kd.R_far (p := ⟨gb240, 5, none⟩) (Kd.R_far (p := ⟨gb240, 4, none⟩) (Kd.R_far (p := ⟨gb240, 3, none⟩) (Kd.R_far (p := ⟨gb240, 2, none⟩) (Kd.R_far (p := ⟨gb240, 1, none⟩) (Kd.R_far (p := ⟨gb240, 0, none⟩) (Kd.R_types HO227.out BK240.out (by decide)) (fun _ hk => hk.2) (.int .i64 t223)) (fun _ hk => hk.2) (.int .i64 t224)) (fun _ hk => hk.2) (.slice Ao35 t225.length co35)) (fun _ hk => hk.2) (.slice Ao36 t228.length co36)) (fun _ hk => hk.2) (.int .i64 t231)) (fun _ hk => hk.2) (.int .i64 t232)) (fun _ hk => hk.2) (.slice Ao37 t233.length co37)) (fun _ hk => hk.2) (.slice Ao38 t236.length co38)) (fun _ h_ => h_.1))) hg (fun _ _ => by simp [Value.ownBlock])); have n7_ := Aside0.mk (Kd.R_after (Kd.R_apart_nil (by (with_reducible repeat (first | apply rrA | apply rrN | apply rrD)); exact (Kd.R_mono (Kd.R_far (p := ⟨gb240, 7, none⟩) (Kd.R_far (p := ⟨gb240, 6, none⟩) (Kd.R_far (p := ⟨gb240, 5, none⟩) (Kd.R_far (p := ⟨gb240, 4, none⟩) (Kd.R_far (p := ⟨gb240, 3, none⟩) (Kd.R_far (p := ⟨gb240, 2, none⟩) (Kd.R_far (p := ⟨gb240, 1, none⟩) (Kd.R_far (p := ⟨gb240, 0, none⟩) (Kd.R_types HO230.out BK240.out (by decide)) (fun _ hk => hk.2) (.int .i64 t223)) (fun _ hk => hk.2) (.int .i64 t224)) (fun _ hk => hk.2) (.slice Ao35 t225.length co35)) (fun _ hk => hk.2) (.slice Ao36 t228.length co36)) (fun _ hk => hk.2) (.int .i64 t231)) (fun _ hk => hk.2) (.int .i64 t232)) (fun _ hk => hk.2) (.slice Ao37 t233.length co37)) (fun _ hk => hk.2) (.slice Ao38 t236.length co38)) (fun _ h_ => h_.1)))) hg hat); have n8_ := Aside0.mk (Kd.R_grown (by (with_reducible repeat (first | apply rrA | apply rrN | apply rrD)); exact (Kd.R_mono (Kd.R_far (p := ⟨gb240, 7, none⟩) (Kd.R_far (p := ⟨gb240, 6, none⟩) (Kd.R_far (p := ⟨gb240, 5, none⟩) (Kd.R_far (p := ⟨gb240, 4, none⟩) (Kd.R_far (p := ⟨gb240, 3, none⟩) (Kd.R_far (p := ⟨gb240, 2, none⟩) (Kd.R_far (p := ⟨gb240, 1, none⟩) (Kd.R_far (p := ⟨gb240, 0, none⟩) (Kd.R_types HO235.out BK240.out (by decide)) (fun _ hk => hk.2) (.int .i64 t223)) (fun _ hk => hk.2) (.int .i64 t224)) (fun _ hk => hk.2) (.slice Ao35 t225.length co35)) (fun _ hk => hk.2) (.slice Ao36 t228.length co36)) (fun _ hk => hk.2) (.int .i64 t231)) (fun _ hk => hk.2) (.int .i64 t232)) (fun _ hk => hk.2) (.slice Ao37 t233.length co37)) (fun _ hk => hk.2) (.slice Ao38 t236.length co38)) (fun _ h_ => h_.1))) hg (fun _ _ => by simp [Value.ownBlock])); have n9_ := Aside0.mk (Kd.R_grown (by (with_reducible repeat (first | apply rrA | apply rrN | apply rrD)); exact (Kd.R_mono (Kd.R_far (p := ⟨gb240, 7, none⟩) (Kd.R_far (p := ⟨gb240, 6, none⟩) (Kd.R_far (p := ⟨gb240, 5, none⟩) (Kd.R_far (p := ⟨gb240, 4, none⟩) (Kd.R_far (p := ⟨gb240, 3, none⟩) (Kd.R_far (p := ⟨gb240, 2, none⟩) (Kd.R_far (p := ⟨gb240, 1, none⟩) (Kd.R_far (p := ⟨gb240, 0, none⟩) (Kd.R_types HO238.out BK240.out (by decide)) (fun _ hk => hk.2) (.int .i64 t223)) (fun _ hk => hk.2) (.int .i64 t224)) (fun _ hk => hk.2) (.slice Ao35 t225.length co35)) (fun _ hk => hk.2) (.slice Ao36 t228.length co36)) (fun _ hk => hk.2) (.int .i64 t231)) (fun _ hk => hk.2) (.int .i64 t232)) (fun _ hk => hk.2) (.slice Ao37 t233.length co37)) (fun _ hk => hk.2) (.slice Ao38 t236.length co38)) (fun _ h_ => h_.1))) hg (fun _ _ => by simp [Value.ownBlock])); have n10_ := Aside0.mk (blk_grown (g := gb240) (o := .cells #[.int .i64 t223, .int .i64 t224, .slice Ao35 t225.length co35, .slice Ao36 t228.length co36, .int .i64 t231, .int .i64 t232, .slice Ao37 t233.length co37, .slice Ao38 t236.length co38] 30 (0, 0)) (by (with_reducible repeat (first | refine kkN ?_ _ | refine kkD ?_ | refine kkA ?_ _)); refine blk_put (cs := #[.int .i64 t223, .int .i64 t224, .slice Ao35 t225.length co35, .slice Ao36 t228.length co36, .int .i64 t231, .int .i64 t232, .slice Ao37 t233.length co37, .slice none 0 0]) ?_ 7 _ rfl; (with_reducible repeat (first | refine kkN ?_ _ | refine kkD ?_ | refine kkA ?_ _)); refine blk_put (cs := #[.int .i64 t223, .int .i64 t224, .slice Ao35 t225.length co35, .slice Ao36 t228.length co36, .int .i64 t231, .int .i64 t232, .slice none 0 0, .slice none 0 0]) ?_ 6 _ rfl; (with_reducible repeat (first | refine kkN ?_ _ | refine kkD ?_ | refine kkA ?_ _)); refine blk_put (cs := #[.int .i64 t223, .int .i64 t224, .slice Ao35 t225.length co35, .slice Ao36 t228.length co36, .int .i64 t231, .int .i64 0, .slice none 0 0, .slice none 0 0]) ?_ 5 _ rfl; (with_reducible repeat (first | refine kkN ?_ _ | refine kkD ?_ | refine kkA ?_ _)); refine blk_put (cs := #[.int .i64 t223, .int .i64 t224, .slice Ao35 t225.length co35, .slice Ao36 t228.length co36, .int .i64 0, .int .i64 0, .slice none 0 0, .slice none 0 0]) ?_ 4 _ rfl; (with_reducible repeat (first | refine kkN ?_ _ | refine kkD ?_ | refine kkA ?_ _)); refine blk_put (cs := #[.int .i64 t223, .int .i64 t224, .slice Ao35 t225.length co35, .slice none 0 0, .int .i64 0, .int .i64 0, .slice none 0 0, .slice none 0 0]) ?_ 3 _ rfl; (with_reducible repeat (first | refine kkN ?_ _ | refine kkD ?_ | refine kkA ?_ _)); refine blk_put (cs := #[.int .i64 t223, .int .i64 t224, .slice none 0 0, .slice none 0 0, .int .i64 0, .int .i64 0, .slice none 0 0, .slice none 0 0]) ?_ 2 _ rfl; (with_reducible repeat (first | refine kkN ?_ _ | refine kkD ?_ | refine kkA ?_ _)); refine blk_put (cs := #[.int .i64 t223, .int .i64 0, .slice none 0 0, .slice none 0 0, .int .i64 0, .int .i64 0, .slice none 0 0, .slice none 0 0]) ?_ 1 _ rfl; (with_reducible repeat (first | refine kkN ?_ _ | refine kkD ?_ | refine kkA ?_ _)); refine blk_put (cs := #[.int .i64 0, .int .i64 0, .slice none 0 0, .slice none 0 0, .int .i64 0, .int .i64 0, .slice none 0 0, .slice none 0 0]) ?_ 0 _ rfl; (with_reducible repeat (first | refine kkN ?_ _ | refine kkD ?_ | refine kkA ?_ _)); exact BK240.out) hg (by simp [Value.ownBlock])); have n11_ := Aside0.mk (hb); have n12_ := Aside0.mk (ho); clear HO_12; clear HO_219002; clear HO_219003; clear HO_219006; clear HO_219007; clear BK218; clear HO227; clear HO230; clear HO235; clear HO238; clear BK240; clear HB; have HO_12 := n0_; have HO_219002 := n1_; have HO_219003 := n2_; have HO_219006 := n3_; have HO_219007 := n4_; have BK218 := n5_; have HO227 := n6_; have HO230 := n7_; have HO235 := n8_; have HO238 := n9_; have BK240 := n10_; have HB := n11_; have HO243 := n12_; clear n0_ n1_ n2_ n3_ n4_ n5_ n6_ n7_ n8_ n9_ n10_ n11_ n12_; clear ho hb hg hat) | ((with_reducible refine gate_builtin (b := .append) (xs := #[.tmp 64, .tmp 65]) rfl ?_); (try (refine gate_guard (by rfl) ?_; dsimp only)); at_builtin; refine Kd.R_append_rows (Kd.int .i64) (w0 := w) w.heap.size rfl (.tmp 64) (.tmp 65) 27 2 (.int .i64 0) 8 rfl Try.underlying27 info2 rfl (by decide) (by omega) v242 y241 x12_2 _ _ _ (fun k_ => some k_ ≠ (.slice Ao30 x12_2.length co30 : Value).ownBlock ∧ some k_ ≠ (.slice Ao17 t206.length co17 : Value).ownBlock ∧ some k_ ≠ (.slice Ao36 t228.length co36 : Value).ownBlock) (fun _ => False) rfl rfl ?aO ?aR (fun _ _ h => h) (fun _ h => h.elim) ?aF ?aB ?aS ?aL ?_; (case aR => repeat (first | exact (Kd.R_reads' HO_12.out).2.2 | (with_reducible refine ccA ?_ _) | (with_reducible refine ccN ?_ _) | (with_reducible refine ccD ?_))); (case aB => exact (by repeat (first | (with_reducible first | exact HB.out | apply zzA | apply zzN | apply zzD | refine below_set ?_ GE218.out | refine below_set ?_ GE240.out) | exact HB.out))); (case aF => exact (fun k_ hk => ⟨Kd.fresh' (Kd.R_lt (by (with_reducible repeat (first | apply rrA | apply rrN | apply rrD)); exact HO_12.out)) k_ hk, Kd.fresh' (Kd.R_lt (by (with_reducible repeat (first | apply rrA | apply rrN | apply rrD)); exact HO_219003.out)) k_ hk, Kd.fresh' (Kd.R_lt (by (with_reducible repeat (first | apply rrA | apply rrN | apply rrD)); exact HO230.out)) k_ hk⟩)); (case aO => exact (by (with_reducible repeat (first | apply rrA | apply rrN | apply rrD)); exact HO243.out)); (case aS => exact (zzS (by repeat (first | (with_reducible first | exact HB.out | apply zzA | apply zzN | apply zzD | refine below_set ?_ GE218.out | refine below_set ?_ GE240.out) | exact HB.out)))); (case aL => have := LMc27.out; omega); intro v245 w40 ho hb hg hat; rw [← Ny244.out] at ho; have n0_ := Aside0.mk (Kd.R_after (ok := (fun k_ => some k_ ≠ (.slice Ao17 t206.length co17 : Value).ownBlock ∧ some k_ ≠ (.slice Ao36 t228.length co36 : Value).ownBlock)) (by (with_reducible repeat (first | apply rrA | apply rrN | apply rrD)); exact HO_12.out) hg hat); have n1_ := Aside0.mk (Kd.R_over' (by (with_reducible repeat (first | apply rrA | apply rrN | apply rrD)); exact HO_219002.out) (Kd.R_typed (by (with_reducible repeat (first | apply rrA | apply rrN | apply rrD)); exact HO243.out)) (by decide) hg); have n2_ := Aside0.mk (Kd.R_after (ok := (fun k_ => some k_ ≠ (.slice Ao30 x12_2.length co30 : Value).ownBlock ∧ some k_ ≠ (.slice Ao36 t228.length co36 : Value).ownBlock)) (by (with_reducible repeat (first | apply rrA | apply rrN | apply rrD)); exact HO_219003.out) hg hat); have n3_ := Aside0.mk (Kd.R_over' (by (with_reducible repeat (first | apply rrA | apply rrN | apply rrD)); exact HO_219006.out) (Kd.R_typed (by (with_reducible repeat (first | apply rrA | apply rrN | apply rrD)); exact HO243.out)) (by decide) hg); have n4_ := Aside0.mk (Kd.R_over' (by (with_reducible repeat (first | apply rrA | apply rrN | apply rrD)); exact HO_219007.out) (Kd.R_typed (by (with_reducible repeat (first | apply rrA | apply rrN | apply rrD)); exact HO243.out)) (by decide) hg); have n5_ := Aside0.mk (blk_grown (g := gb218) (o := .cells #[.int .i64 t201, .int .i64 t202, .slice Ao16 t203.length co16, .slice Ao17 t206.length co17, .int .i64 t209, .int .i64 t210, .slice Ao18 t211.length co18, .slice Ao19 t214.length co19] 30 (0, 0)) (by (with_reducible repeat (first | refine kkN ?_ _ | refine kkD ?_ | refine kkA ?_ _)); exact BK218.out) hg (Kd.R_ne HO243.out BK218.out (by decide))); have n6_ := Aside0.mk (Kd.R_over' (by (with_reducible repeat (first | apply rrA | apply rrN | apply rrD)); exact HO227.out) (Kd.R_typed (by (with_reducible repeat (first | apply rrA | apply rrN | apply rrD)); exact HO243.out)) (by decide) hg); have n7_ := Aside0.mk (Kd.R_after (ok := (fun k_ => some k_ ≠ (.slice Ao30 x12_2.length co30 : Value).ownBlock ∧ some k_ ≠ (.slice Ao17 t206.length co17 : Value).ownBlock)) (by (with_reducible repeat (first | apply rrA | apply rrN | apply rrD)); exact Kd.R_mono HO230.out (fun _ hk => ⟨⟨hk.1.1.2, hk.1.2⟩, hk.2⟩)) hg hat); have n8_ := Aside0.mk (Kd.R_over' (by (with_reducible repeat (first | apply rrA | apply rrN | apply rrD)); exact HO235.out) (Kd.R_typed (by (with_reducible repeat (first | apply rrA | apply rrN | apply rrD)); exact HO243.out)) (by decide) hg); have n9_ := Aside0.mk (Kd.R_over' (by (with_reducible repeat (first | apply rrA | apply rrN | apply rrD)); exact HO238.out) (Kd.R_typed (by (with_reducible repeat (first | apply rrA | apply rrN | apply rrD)); exact HO243.out)) (by decide) hg); have n10_ := Aside0.mk (blk_grown (g := gb240) (o := .cells #[.int .i64 t223, .int .i64 t224, .slice Ao35 t225.length co35, .slice Ao36 t228.length co36, .int .i64 t231, .int .i64 t232, .slice Ao37 t233.length co37, .slice Ao38 t236.length co38] 30 (0, 0)) (by (with_reducible repeat (first | refine kkN ?_ _ | refine kkD ?_ | refine kkA ?_ _)); exact BK240.out) hg (Kd.R_ne HO243.out BK240.out (by decide))); have n11_ := Aside0.mk (hb); have n12_ := Aside0.mk (ho); clear HO_12; clear HO_219002; clear HO_219003; clear HO_219006; clear HO_219007; clear BK218; clear HO227; clear HO230; clear HO235; clear HO238; clear BK240; clear HB; clear HO243; have HO_12 := n0_; have HO_219002 := n1_; have HO_219003 := n2_; have HO_219006 := n3_; have HO_219007 := n4_; have BK218 := n5_; have HO227 := n6_; have HO230 := n7_; have HO235 := n8_; have HO238 := n9_; have BK240 := n10_; have HB := n11_; have HO246 := n12_; clear n0_ n1_ n2_ n3_ n4_ n5_ n6_ n7_ n8_ n9_ n10_ n11_ n12_; clear ho hb hg hat; obtain ⟨Ao41, co41, eo41⟩ := Kd.R_slice HO246.out; subst eo41) | (go_at_call 46; (with_reducible refine (quant_Press.calls k2 _ _ y244 a1 a2 _ _ l3 t247 t248 t249 t252 t255 t256 t257 t260 t263 _ ?side1 ?side2 ?side3 ?side4 A28.out).mono ?_); (case side1 => repeat (first | exact (Kd.R_reads' HO246.out).2.2 | (with_reducible refine ccA ?_ _) | (with_reducible refine ccN ?_ _) | (with_reducible refine ccD ?_))); (case side2 => exact (Kd.R_reads' HO246.out).2.1); (case side3 => repeat (first | exact (Kd.C_below HR3.out HB.out) | (with_reducible refine ccA ?_ _) | (with_reducible refine ccN ?_ _) | (with_reducible refine ccD ?_))); (case side4 => exact HC3.out); rintro e w42 ⟨v250, v253, v258, v261, rfl, ho0, ho1, ho2, ho3, hb⟩; have n0_ := Aside0.mk (Kd.R_elder' (by (with_reducible repeat (first | apply rrA | apply rrN | apply rrD)); exact HO_12.out) (Kd.R_base ho1) hb); have n1_ := Aside0.mk (Kd.R_elder' (by (with_reducible repeat (first | apply rrA | apply rrN | apply rrD)); exact HO_219002.out) (Kd.R_base ho0) hb); have n2_ := Aside0.mk (Kd.R_elder' (by (with_reducible repeat (first | apply rrA | apply rrN | apply rrD)); exact HO_219003.out) (Kd.R_base ho1) hb); have n3_ := Aside0.mk (Kd.R_elder' (by (with_reducible repeat (first | apply rrA | apply rrN | apply rrD)); exact HO_219006.out) (Kd.R_base ho2) hb); have n4_ := Aside0.mk (Kd.R_elder' (by (with_reducible repeat (first | apply rrA | apply rrN | apply rrD)); exact HO_219007.out) (Kd.R_base ho3) hb); have n5_ := Aside0.mk (Kd.R_elder' (by (with_reducible repeat (first | apply rrA | apply rrN | apply rrD)); exact HO227.out) (Kd.R_base ho0) hb); have n6_ := Aside0.mk (Kd.R_elder' (by (with_reducible repeat (first | apply rrA | apply rrN | apply rrD)); exact HO230.out) (Kd.R_base ho1) hb); have n7_ := Aside0.mk (Kd.R_elder' (by (with_reducible repeat (first | apply rrA | apply rrN | apply rrD)); exact HO235.out) (Kd.R_base ho2) hb); have n8_ := Aside0.mk (Kd.R_elder' (by (with_reducible repeat (first | apply rrA | apply rrN | apply rrD)); exact HO238.out) (Kd.R_base ho3) hb); have n9_ := Aside0.mk (Kd.R_elder' (by (with_reducible repeat (first | apply rrA | apply rrN | apply rrD)); exact HO246.out) (Kd.R_base ho1) hb); have n10_ := Aside0.mk (Kd.R_lower (Kd.R_new' (Kd.R_new' ho0 (Kd.R_lt (by (with_reducible repeat (first | apply rrA | apply rrN | apply rrD)); exact HO_219002.out))) (Kd.R_lt (by (with_reducible repeat (first | apply rrA | apply rrN | apply rrD)); exact HO227.out))) (zzS (by repeat (first | (with_reducible first | exact HB.out | apply zzA | apply zzN | apply zzD | refine below_set ?_ GE218.out | refine below_set ?_ GE240.out) | exact HB.out)))); have n11_ := Aside0.mk (Kd.R_lower (Kd.R_new' (Kd.R_new' (Kd.R_new' (Kd.R_new' ho1 (Kd.R_lt (by (with_reducible repeat (first | apply rrA | apply rrN | apply rrD)); exact HO_12.out))) (Kd.R_lt (by (with_reducible repeat (first | apply rrA | apply rrN | apply rrD)); exact HO_219003.out))) (Kd.R_lt (by (with_reducible repeat (first | apply rrA | apply rrN | apply rrD)); exact HO230.out))) (Kd.R_lt (by (with_reducible repeat (first | apply rrA | apply rrN | apply rrD)); exact HO246.out))) (zzS (by repeat (first | (with_reducible first | exact HB.out | apply zzA | apply zzN | apply zzD | refine below_set ?_ GE218.out | refine below_set ?_ GE240.out) | exact HB.out)))); have n12_ := Aside0.mk (Kd.R_lower (Kd.R_new' (Kd.R_new' ho2 (Kd.R_lt (by (with_reducible repeat (first | apply rrA | apply rrN | apply rrD)); exact HO_219006.out))) (Kd.R_lt (by (with_reducible repeat (first | apply rrA | apply rrN | apply rrD)); exact HO235.out))) (zzS (by repeat (first | (with_reducible first | exact HB.out | apply zzA | apply zzN | apply zzD | refine below_set ?_ GE218.out | refine below_set ?_ GE240.out) | exact HB.out)))); have n13_ := Aside0.mk (Kd.R_lower (Kd.R_new' (Kd.R_new' ho3 (Kd.R_lt (by (with_reducible repeat (first | apply rrA | apply rrN | apply rrD)); exact HO_219007.out))) (Kd.R_lt (by (with_reducible repeat (first | apply rrA | apply rrN | apply rrD)); exact HO238.out))) (zzS (by repeat (first | (with_reducible first | exact HB.out | apply zzA | apply zzN | apply zzD | refine below_set ?_ GE218.out | refine below_set ?_ GE240.out) | exact HB.out)))); have n14_ := Aside0.mk (blk_below (g := gb218) (o := .cells #[.int .i64 t201, .int .i64 t202, .slice Ao16 t203.length co16, .slice Ao17 t206.length co17, .int .i64 t209, .int .i64 t210, .slice Ao18 t211.length co18, .slice Ao19 t214.length co19] 30 (0, 0)) (by (with_reducible repeat (first | refine kkN ?_ _ | refine kkD ?_ | refine kkA ?_ _)); exact BK218.out) hb); have n15_ := Aside0.mk (blk_below (g := gb240) (o := .cells #[.int .i64 t223, .int .i64 t224, .slice Ao35 t225.length co35, .slice Ao36 t228.length co36, .int .i64 t231, .int .i64 t232, .slice Ao37 t233.length co37, .slice Ao38 t236.length co38] 30 (0, 0)) (by (with_reducible repeat (first | refine kkN ?_ _ | refine kkD ?_ | refine kkA ?_ _)); exact BK240.out) hb); have n16_ := Aside0.mk (zzT (by repeat (first | (with_reducible first | exact HB.out | apply zzA | apply zzN | apply zzD | refine below_set ?_ GE218.out | refine below_set ?_ GE240.out) | exact HB.out)) hb); clear HO_12; clear HO_219002; clear HO_219003; clear HO_219006; clear HO_219007; clear HO227; clear HO230; clear HO235; clear HO238; clear HO246; clear BK218; clear BK240; clear HB; have HO_12 := n0_; have HO_219002 := n1_; have HO_219003 := n2_; have HO_219006 := n3_; have HO_219007 := n4_; have HO227 := n5_; have HO230 := n6_; have HO235 := n7_; have HO238 := n8_; have HO246 := n9_; have HO251 := n10_; have HO254 := n11_; have HO259 := n12_; have HO262 := n13_; have BK218 := n14_; have BK240 := n15_; have HB := n16_; clear n0_ n1_ n2_ n3_ n4_ n5_ n6_ n7_ n8_ n9_ n10_ n11_ n12_ n13_ n14_ n15_ n16_; (try clear hb); (try clear ho1); (try clear ho2); (try clear ho3)) | ((with_reducible refine gate_dst (N := 17) rfl ?_); (try (refine gate_guard (by rfl) ?_; dsimp only)); refine box_event ?hg (N := 17) ?hd (cs := #[.int .i64 0, .int .i64 0, .slice none 0 0, .slice none 0 0, .int .i64 0, .int .i64 0, .slice none 0 0, .slice none 0 0]) (t := 30) ?hr ?_; (case hd => rfl); (case hg => rfl); (case hr => first | (go_simp; done) | (go_simp; rfl)); intro gb264 hg w43 hbox hb; have n0_ := Aside0.mk (Kd.R_below (by (with_reducible repeat (first | apply rrA | apply rrN | apply rrD)); exact HO_12.out) hb); have n1_ := Aside0.mk (Kd.R_below (by (with_reducible repeat (first | apply rrA | apply rrN | apply rrD)); exact HO_219002.out) hb); have n2_ := Aside0.mk (Kd.R_below (by (with_reducible repeat (first | apply rrA | apply rrN | apply rrD)); exact HO_219003.out) hb); have n3_ := Aside0.mk (Kd.R_below (by (with_reducible repeat (first | apply rrA | apply rrN | apply rrD)); exact HO_219006.out) hb); have n4_ := Aside0.mk (Kd.R_below (by (with_reducible repeat (first | apply rrA | apply rrN | apply rrD)); exact HO_219007.out) hb); have n5_ := Aside0.mk (Kd.R_below (by (with_reducible repeat (first | apply rrA | apply rrN | apply rrD)); exact HO227.out) hb); have n6_ := Aside0.mk (Kd.R_below (by (with_reducible repeat (first | apply rrA | apply rrN | apply rrD)); exact HO230.out) hb); have n7_ := Aside0.mk (Kd.R_below (by (with_reducible repeat (first | apply rrA | apply rrN | apply rrD)); exact HO235.out) hb); have n8_ := Aside0.mk (Kd.R_below (by (with_reducible repeat (first | apply rrA | apply rrN | apply rrD)); exact HO238.out) hb); have n9_ := Aside0.mk (Kd.R_below (by (with_reducible repeat (first | apply rrA | apply rrN | apply rrD)); exact HO246.out) hb); have n10_ := Aside0.mk (Kd.R_below (by (with_reducible repeat (first | apply rrA | apply rrN | apply rrD)); exact HO251.out) hb); have n11_ := Aside0.mk (Kd.R_below (by (with_reducible repeat (first | apply rrA | apply rrN | apply rrD)); exact HO254.out) hb); have n12_ := Aside0.mk (Kd.R_below (by (with_reducible repeat (first | apply rrA | apply rrN | apply rrD)); exact HO259.out) hb); have n13_ := Aside0.mk (Kd.R_below (by (with_reducible repeat (first | apply rrA | apply rrN | apply rrD)); exact HO262.out) hb); have n14_ := Aside0.mk (blk_below (g := gb218) (o := .cells #[.int .i64 t201, .int .i64 t202, .slice Ao16 t203.length co16, .slice Ao17 t206.length co17, .int .i64 t209, .int .i64 t210, .slice Ao18 t211.length co18, .slice Ao19 t214.length co19] 30 (0, 0)) (by (with_reducible repeat (first | refine kkN ?_ _ | refine kkD ?_ | refine kkA ?_ _)); exact BK218.out) hb); have n15_ := Aside0.mk (blk_below (g := gb240) (o := .cells #[.int .i64 t223, .int .i64 t224, .slice Ao35 t225.length co35, .slice Ao36 t228.length co36, .int .i64 t231, .int .i64 t232, .slice Ao37 t233.length co37, .slice Ao38 t236.length co38] 30 (0, 0)) (by (with_reducible repeat (first | refine kkN ?_ _ | refine kkD ?_ | refine kkA ?_ _)); exact BK240.out) hb); have n16_ := Aside0.mk (zzT (by repeat (first | (with_reducible first | exact HB.out | apply zzA | apply zzN | apply zzD | refine below_set ?_ GE218.out | refine below_set ?_ GE240.out) | exact HB.out)) hb); have n17_ := Aside0.mk (hbox); have n18_ := Aside0.mk ((by rw [hg]; exact (zzS (by repeat (first | (with_reducible first | exact HB.out | apply zzA | apply zzN | apply zzD | refine below_set ?_ GE218.out | refine below_set ?_ GE240.out) | exact HB.out))) : w.heap.size ≤ gb264)); have n19_ := Aside0.mk ((by rw [hg]; exact (zzS (by repeat (first | (with_reducible first | exact HB.out | apply zzA | apply zzN | apply zzD | refine below_set ?_ GE218.out | refine below_set ?_ GE240.out) | exact HB.out))) : w.heap.size ≤ gb264)); have n20_ := Aside0.mk ((by rw [hg]; exact Nat.ne_of_lt (blk_lt (g := gb218) (o := .cells #[.int .i64 t201, .int .i64 t202, .slice Ao16 t203.length co16, .slice Ao17 t206.length co17, .int .i64 t209, .int .i64 t210, .slice Ao18 t211.length co18, .slice Ao19 t214.length co19] 30 (0, 0)) (by (with_reducible repeat (first | refine kkN ?_ _ | refine kkD ?_ | refine kkA ?_ _)); exact BK218.out)) : gb218 ≠ gb264)); have n21_ := Aside0.mk ((by rw [hg]; exact Nat.ne_of_gt (blk_lt (g := gb218) (o := .cells #[.int .i64 t201, .int .i64 t202, .slice Ao16 t203.length co16, .slice Ao17 t206.length co17, .int .i64 t209, .int .i64 t210, .slice Ao18 t211.length co18, .slice Ao19 t214.length co19] 30 (0, 0)) (by (with_reducible repeat (first | refine kkN ?_ _ | refine kkD ?_ | refine kkA ?_ _)); exact BK218.out)) : gb264 ≠ gb218)); have n22_ := Aside0.mk ((by rw [hg]; exact Nat.ne_of_lt (blk_lt (g := gb240) (o := .cells #[.int .i64 t223, .int .i64 t224, .slice Ao35 t225.length co35, .slice Ao36 t228.length co36, .int .i64 t231, .int .i64 t232, .slice Ao37 t233.length co37, .slice Ao38 t236.length co38] 30 (0, 0)) (by (with_reducible repeat (first | refine kkN ?_ _ | refine kkD ?_ | refine kkA ?_ _)); exact BK240.out)) : gb240 ≠ gb264)); have n23_ := Aside0.mk ((by rw [hg]; exact Nat.ne_of_gt (blk_lt (g := gb240) (o := .cells #[.int .i64 t223, .int .i64 t224, .slice Ao35 t225.length co35, .slice Ao36 t228.length co36, .int .i64 t231, .int .i64 t232, .slice Ao37 t233.length co37, .slice Ao38 t236.length co38] 30 (0, 0)) (by (with_reducible repeat (first | refine kkN ?_ _ | refine kkD ?_ | refine kkA ?_ _)); exact BK240.out)) : gb264 ≠ gb240)); clear HO_12; clear HO_219002; clear HO_219003; clear HO_219006; clear HO_219007; clear HO227; clear HO230; clear HO235; clear HO238; clear HO246; clear HO251; clear HO254; clear HO259; clear HO262; clear BK218; clear BK240; clear HB; have HO_12 := n0_; have HO_219002 := n1_; have HO_219003 := n2_; have HO_219006 := n3_; have HO_219007 := n4_; have HO227 := n5_; have HO230 := n6_; have HO235 := n7_; have HO238 := n8_; have HO246 := n9_; have HO251 := n10_; have HO254 := n11_; have HO259 := n12_; have HO262 := n13_; have BK218 := n14_; have BK240 := n15_; have HB := n16_; have BK264 := n17_; have GW264 := n18_; have GE264 := n19_; have NB218_264 := n20_; have NB264_218 := n21_; have NB240_264 := n22_; have NB264_240 := n23_; clear n0_ n1_ n2_ n3_ n4_ n5_ n6_ n7_ n8_ n9_ n10_ n11_ n12_ n13_ n14_ n15_ n16_ n17_ n18_ n19_ n20_ n21_ n22_ n23_; clear hb hbox hg; have hnb44 := NB264_218.out; have hnc44 := NB218_264.out; have hnb45 := NB264_240.out; have hnc45 := NB240_264.out; have hcz46_0 : w43.cell? ⟨gb264, 0, none⟩ = some (.int .i64 0) := (blk_cell BK264.out 0).trans rfl; have hcz46_1 : w43.cell? ⟨gb264, 1, none⟩ = some (.int .i64 0) := (blk_cell BK264.out 1).trans rfl; have hcz46_2 : w43.cell? ⟨gb264, 2, none⟩ = some (.slice none 0 0) := (blk_cell BK264.out 2).trans rfl; have hcz46_3 : w43.cell? ⟨gb264, 3, none⟩ = some (.slice none 0 0) := (blk_cell BK264.out 3).trans rfl; have hcz46_4 : w43.cell? ⟨gb264, 4, none⟩ = some (.int .i64 0) := (blk_cell BK264.out 4).trans rfl; have hcz46_5 : w43.cell? ⟨gb264, 5, none⟩ = some (.int .i64 0) := (blk_cell BK264.out 5).trans rfl; have hcz46_6 : w43.cell? ⟨gb264, 6, none⟩ = some (.slice none 0 0) := (blk_cell BK264.out 6).trans rfl; have hcz46_7 : w43.cell? ⟨gb264, 7, none⟩ = some (.slice none 0 0) := (blk_cell BK264.out 7).trans rfl; have hfz46_0 := blk_frozen BK264.out 0; have hfz46_1 := blk_frozen BK264.out 1; have hfz46_2 := blk_frozen BK264.out 2; have hfz46_3 := blk_frozen BK264.out 3; have hfz46_4 := blk_frozen BK264.out 4; have hfz46_5 := blk_frozen BK264.out 5; have hfz46_6 := blk_frozen BK264.out 6; have hfz46_7 := blk_frozen BK264.out 7; obtain ⟨Ao47, co47, eo47⟩ := Kd.R_slice HO251.out; subst eo47; obtain ⟨Ao48, co48, eo48⟩ := Kd.R_slice HO254.out; subst eo48; obtain ⟨Ao49, co49, eo49⟩ := Kd.R_slice HO259.out; subst eo49; obtain ⟨Ao50, co50, eo50⟩ := Kd.R_slice HO262.out; subst eo50)); go_upto_region 15 with (first | (go_at_call 46; (with_reducible refine (quant_Press.calls k2 _ _ x12_2 a1 a2 _ _ l3 t223 t224 t225 t228 t231 t232 t233 t236 t239 _ ?side1 ?side2 ?side3 ?side4 A25.out).mono ?_); (case side1 => repeat (first | exact (Kd.R_reads' HO_12.out).2.2 | (with_reducible refine ccA ?_ _) | (with_reducible refine ccN ?_ _) | (with_reducible refine ccD ?_))); (case side2 => exact (Kd.R_reads' HO_12.out).2.1); (case side3 => repeat (first | exact (Kd.C_below HR3.out HB.out) | (with_reducible refine ccA ?_ _) | (with_reducible refine ccN ?_ _) | (with_reducible refine ccD ?_))); (case side4 => exact HC3.out); rintro e w31 ⟨v226, v229, v234, v237, rfl, ho0, ho1, ho2, ho3, hb⟩; have n0_ := Aside0.mk (Kd.R_elder' (by (with_reducible repeat (first | apply rrA | apply rrN | apply rrD)); exact HO_12.out) (Kd.R_base ho1) hb); have n1_ := Aside0.mk (Kd.R_elder' (by (with_reducible repeat (first | apply rrA | apply rrN | apply rrD)); exact HO_219002.out) (Kd.R_base ho0) hb); have n2_ := Aside0.mk (Kd.R_elder' (by (with_reducible repeat (first | apply rrA | apply rrN | apply rrD)); exact HO_219003.out) (Kd.R_base ho1) hb); have n3_ := Aside0.mk (Kd.R_elder' (by (with_reducible repeat (first | apply rrA | apply rrN | apply rrD)); exact HO_219006.out) (Kd.R_base ho2) hb); have n4_ := Aside0.mk (Kd.R_elder' (by (with_reducible repeat (first | apply rrA | apply rrN | apply rrD)); exact HO_219007.out) (Kd.R_base ho3) hb); have n5_ := Aside0.mk (Kd.R_lower (Kd.R_new' ho0 (Kd.R_lt (by (with_reducible repeat (first | apply rrA | apply rrN | apply rrD)); exact HO_219002.out))) (zzS (by repeat (first | (with_reducible first | exact HB.out | apply zzA | apply zzN | apply zzD | refine below_set ?_ GE218.out) | exact HB.out)))); have n6_ := Aside0.mk (Kd.R_lower (Kd.R_new' (Kd.R_new' ho1 (Kd.R_lt (by (with_reducible repeat (first | apply rrA | apply rrN | apply rrD)); exact HO_12.out))) (Kd.R_lt (by (with_reducible repeat (first | apply rrA | apply rrN | apply rrD)); exact HO_219003.out))) (zzS (by repeat (first | (with_reducible first | exact HB.out | apply zzA | apply zzN | apply zzD | refine below_set ?_ GE218.out) | exact HB.out)))); have n7_ := Aside0.mk (Kd.R_lower (Kd.R_new' ho2 (Kd.R_lt (by (with_reducible repeat (first | apply rrA | apply rrN | apply rrD)); exact HO_219006.out))) (zzS (by repeat (first | (with_reducible first | exact HB.out | apply zzA | apply zzN | apply zzD | refine below_set ?_ GE218.out) | exact HB.out)))); have n8_ := Aside0.mk (Kd.R_lower (Kd.R_new' ho3 (Kd.R_lt (by (with_reducible repeat (first | apply rrA | apply rrN | apply rrD)); exact HO_219007.out))) (zzS (by repeat (first | (with_reducible first | exact HB.out | apply zzA | apply zzN | apply zzD | refine below_set ?_ GE218.out) | exact HB.out)))); have n9_ := Aside0.mk (blk_below (g := gb218) (o := .cells #[.int .i64 t201, .int .i64 t202, .slice Ao16 t203.length co16, .slice Ao17 t206.length co17, .int .i64 t209, .int .i64 t210, .slice Ao18 t211.length co18, .slice Ao19 t214.length co19] 30 (0, 0)) (by (with_reducible repeat (first | refine kkN ?_ _ | refine kkD ?_ | refine kkA ?_ _)); exact BK218.out) hb); have n10_ := Aside0.mk (zzT (by repeat (first | (with_reducible first | exact HB.out | apply zzA | apply zzN | apply zzD | refine below_set ?_ GE218.out) | exact HB.out)) hb); clear HO_12; clear HO_219002; clear HO_219003; clear HO_219006; clear HO_219007; clear BK218; clear HB; have HO_12 := n0_; have HO_219002 := n1_; have HO_219003 := n2_; have HO_219006 := n3_; have HO_219007 := n4_; have HO227 := n5_; have HO230 := n6_; have HO235 := n7_; have HO238 := n8_; have BK218 := n9_; have HB := n10_; clear n0_ n1_ n2_ n3_ n4_ n5_ n6_ n7_ n8_ n9_ n10_; (try clear hb); (try clear ho1); (try clear ho2); (try clear ho3)) | ((with_reducible refine gate_dst (N := 15) rfl ?_); (try (refine gate_guard (by rfl) ?_; dsimp only)); refine box_event ?hg (N := 15) ?hd (cs := #[.int .i64 0, .int .i64 0, .slice none 0 0, .slice none 0 0, .int .i64 0, .int .i64 0, .slice none 0 0, .slice none 0 0]) (t := 30) ?hr ?_; (case hd => rfl); (case hg => rfl); (case hr => first | (go_simp; done) | (go_simp; rfl)); intro gb240 hg w32 hbox hb; have n0_ := Aside0.mk (Kd.R_below (by (with_reducible repeat (first | apply rrA | apply rrN | apply rrD)); exact HO_12.out) hb); have n1_ := Aside0.mk (Kd.R_below (by (with_reducible repeat (first | apply rrA | apply rrN | apply rrD)); exact HO_219002.out) hb); have n2_ := Aside0.mk (Kd.R_below (by (with_reducible repeat (first | apply rrA | apply rrN | apply rrD)); exact HO_219003.out) hb); have n3_ := Aside0.mk (Kd.R_below (by (with_reducible repeat (first | apply rrA | apply rrN | apply rrD)); exact HO_219006.out) hb); have n4_ := Aside0.mk (Kd.R_below (by (with_reducible repeat (first | apply rrA | apply rrN | apply rrD)); exact HO_219007.out) hb); have n5_ := Aside0.mk (Kd.R_below (by (with_reducible repeat (first | apply rrA | apply rrN | apply rrD)); exact HO227.out) hb); have n6_ := Aside0.mk (Kd.R_below (by (with_reducible repeat (first | apply rrA | apply rrN | apply rrD)); exact HO230.out) hb); have n7_ := Aside0.mk (Kd.R_below (by (with_reducible repeat (first | apply rrA | apply rrN | apply rrD)); exact HO235.out) hb); have n8_ := Aside0.mk (Kd.R_below (by (with_reducible repeat (first | apply rrA | apply rrN | apply rrD)); exact HO238.out) hb); have n9_ := Aside0.mk (blk_below (g := gb218) (o := .cells #[.int .i64 t201, .int .i64 t202, .slice Ao16 t203.length co16, .slice Ao17 t206.length co17, .int .i64 t209, .int .i64 t210, .slice Ao18 t211.length co18, .slice Ao19 t214.length co19] 30 (0, 0)) (by (with_reducible repeat (first | refine kkN ?_ _ | refine kkD ?_ | refine kkA ?_ _)); exact BK218.out) hb); have n10_ := Aside0.mk (zzT (by repeat (first | (with_reducible first | exact HB.out | apply zzA | apply zzN | apply zzD | refine below_set ?_ GE218.out) | exact HB.out)) hb); have n11_ := Aside0.mk (hbox); have n12_ := Aside0.mk ((by rw [hg]; exact (zzS (by repeat (first | (with_reducible first | exact HB.out | apply zzA | apply zzN | apply zzD | refine below_set ?_ GE218.out) | exact HB.out))) : w.heap.size ≤ gb240)); have n13_ := Aside0.mk ((by rw [hg]; exact (zzS (by repeat (first | (with_reducible first | exact HB.out | apply zzA | apply zzN | apply zzD | refine below_set ?_ GE218.out) | exact HB.out))) : w.heap.size ≤ gb240)); have n14_ := Aside0.mk ((by rw [hg]; exact Nat.ne_of_lt (blk_lt (g := gb218) (o := .cells #[.int .i64 t201, .int .i64 t202, .slice Ao16 t203.length co16, .slice Ao17 t206.length co17, .int .i64 t209, .int .i64 t210, .slice Ao18 t211.length co18, .slice Ao19 t214.length co19] 30 (0, 0)) (by (with_reducible repeat (first | refine kkN ?_ _ | refine kkD ?_ | refine kkA ?_ _)); exact BK218.out)) : gb218 ≠ gb240)); have n15_ := Aside0.mk ((by rw [hg]; exact Nat.ne_of_gt (blk_lt (g := gb218) (o := .cells #[.int .i64 t201, .int .i64 t202, .slice Ao16 t203.length co16, .slice Ao17 t206.length co17, .int .i64 t209, .int .i64 t210, .slice Ao18 t211.length co18, .slice Ao19 t214.length co19] 30 (0, 0)) (by (with_reducible repeat (first | refine kkN ?_ _ | refine kkD ?_ | refine kkA ?_ _)); exact BK218.out)) : gb240 ≠ gb218)); clear HO_12; clear HO_219002; clear HO_219003; clear HO_219006; clear HO_219007; clear HO227; clear HO230; clear HO235; clear HO238; clear BK218; clear HB; have HO_12 := n0_; have HO_219002 := n1_; have HO_219003 := n2_; have HO_219006 := n3_; have HO_219007 := n4_; have HO227 := n5_; have HO230 := n6_; have HO235 := n7_; have HO238 := n8_; have BK218 := n9_; have HB := n10_; have BK240 := n11_; have GW240 := n12_; have GE240 := n13_; have NB218_240 := n14_; have NB240_218 := n15_; clear n0_ n1_ n2_ n3_ n4_ n5_ n6_ n7_ n8_ n9_ n10_ n11_ n12_ n13_ n14_ n15_; clear hb hbox hg; have hnb33 := NB240_218.out; have hnc33 := NB218_240.out; have hcz34_0 : w32.cell? ⟨gb240, 0, none⟩ = some (.int .i64 0) := (blk_cell BK240.out 0).trans rfl; have hcz34_1 : w32.cell? ⟨gb240, 1, none⟩ = some (.int .i64 0) := (blk_cell BK240.out 1).trans rfl; have hcz34_2 : w32.cell? ⟨gb240, 2, none⟩ = some (.slice none 0 0) := (blk_cell BK240.out 2).trans rfl; have hcz34_3 : w32.cell? ⟨gb240, 3, none⟩ = some (.slice none 0 0) := (blk_cell BK240.out 3).trans rfl; have hcz34_4 : w32.cell? ⟨gb240, 4, none⟩ = some (.int .i64 0) := (blk_cell BK240.out 4).trans rfl; have hcz34_5 : w32.cell? ⟨gb240, 5, none⟩ = some (.int .i64 0) := (blk_cell BK240.out 5).trans rfl; have hcz34_6 : w32.cell? ⟨gb240, 6, none⟩ = some (.slice none 0 0) := (blk_cell BK240.out 6).trans rfl; have hcz34_7 : w32.cell? ⟨gb240, 7, none⟩ = some (.slice none 0 0) := (blk_cell BK240.out 7).trans rfl; have hfz34_0 := blk_frozen BK240.out 0; have hfz34_1 := blk_frozen BK240.out 1; have hfz34_2 := blk_frozen BK240.out 2; have hfz34_3 := blk_frozen BK240.out 3; have hfz34_4 := blk_frozen BK240.out 4; have hfz34_5 := blk_frozen BK240.out 5; have hfz34_6 := blk_frozen BK240.out 6; have hfz34_7 := blk_frozen BK240.out 7; obtain ⟨Ao35, co35, eo35⟩ := Kd.R_slice HO227.out; subst eo35; obtain ⟨Ao36, co36, eo36⟩ := Kd.R_slice HO230.out; subst eo36; obtain ⟨Ao37, co37, eo37⟩ := Kd.R_slice HO235.out; subst eo37; obtain ⟨Ao38, co38, eo38⟩ := Kd.R_slice HO238.out; subst eo38) | ((with_reducible refine gate_builtin (b := .append) (xs := #[.const (.slice none 0 0), .tmp 63]) rfl ?_); (try (refine gate_guard (by rfl) ?_; dsimp only)); at_builtin; refine Kd.R_append_rows (Kd.int .i64) (w0 := w) w.heap.size rfl (.const (.slice none 0 0)) (.tmp 63) 27 2 (.int .i64 0) 8 rfl Try.underlying27 info2 rfl (by decide) (by omega) (.slice none 0 0) ([] : List Int) l0 _ _ _ (fun k_ => some k_ ≠ (.slice Ao30 x12_2.length co30 : Value).ownBlock ∧ some k_ ≠ (.slice Ao17 t206.length co17 : Value).ownBlock ∧ some k_ ≠ (.slice Ao36 t228.length co36 : Value).ownBlock) (fun _ => False) rfl rfl ?aO ?aR (fun _ _ h => h) (fun _ h => h.elim) ?aF ?aB ?aS ?aL ?_; (case aR => exact Kd.C_below HR0.out (by repeat (first | (with_reducible first | exact HB.out | apply zzA | apply zzN | apply zzD | refine below_set ?_ GE218.out | refine below_set ?_ GE240.out) | exact HB.out))); (case aB => exact (by repeat (first | (with_reducible first | exact HB.out | apply zzA | apply zzN | apply zzD | refine below_set ?_ GE218.out | refine below_set ?_ GE240.out) | exact HB.out))); (case aF => exact (fun k_ hk => ⟨Kd.fresh' (Kd.R_lt (by (with_reducible repeat (first | apply rrA | apply rrN | apply rrD)); exact (Kd.R_mono (Kd.R_far (p := ⟨gb240, 7, none⟩) (Kd.R_far (p := ⟨gb240, 6, none⟩) (Kd.R_far (p := ⟨gb240, 5, none⟩) (Kd.R_far (p := ⟨gb240, 4, none⟩) (Kd.R_far (p := ⟨gb240, 3, none⟩) (Kd.R_far (p := ⟨gb240, 2, none⟩) (Kd.R_far (p := ⟨gb240, 1, none⟩) (Kd.R_far (p := ⟨gb240, 0, none⟩) (Kd.R_types HO_12.out BK240.out (by decide)) (fun _ hk => hk.2) (.int .i64 t223)) (fun _ hk => hk.2) (.int .i64 t224)) (fun _ hk => hk.2) (.slice Ao35 t225.length co35)) (fun _ hk => hk.2) (.slice Ao36 t228.length co36)) (fun _ hk => hk.2) (.int .i64 t231)) (fun _ hk => hk.2) (.int .i64 t232)) (fun _ hk => hk.2) (.slice Ao37 t233.length co37)) (fun _ hk => hk.2) (.slice Ao38 t236.length co38)) (fun _ h_ => h_.1)))) k_ hk, Kd.fresh' (Kd.R_lt (by (with_reducible repeat (first | apply rrA | apply rrN | apply rrD)); exact (Kd.R_mono (Kd.R_far (p := ⟨gb240, 7, none⟩) (Kd.R_far (p := ⟨gb240, 6, none⟩) (Kd.R_far (p := ⟨gb240, 5, none⟩) (Kd.R_far (p := ⟨gb240, 4, none⟩) (Kd.R_far (p := ⟨gb240, 3, none⟩) (Kd.R_far (p := ⟨gb240, 2, none⟩) (Kd.R_far (p := ⟨gb240, 1, none⟩) (Kd.R_far (p := ⟨gb240, 0, none⟩) (Kd.R_types HO_219003.out BK240.out (by decide)) (fun _ hk => hk.2) (.int .i64 t223)) (fun _ hk => hk.2) (.int .i64 t224)) (fun _ hk => hk.2) (.slice Ao35 t225.length co35)) (fun _ hk => hk.2) (.slice Ao36 t228.length co36)) (fun _ hk => hk.2) (.int .i64 t231)) (fun _ hk => hk.2) (.int .i64 t232)) (fun _ hk => hk.2) (.slice Ao37 t233.length co37)) (fun _ hk => hk.2) (.slice Ao38 t236.length co38)) (fun _ h_ => h_.1)))) k_ hk, Kd.fresh' (Kd.R_lt (by (with_reducible repeat (first | apply rrA | apply rrN | apply rrD)); exact (Kd.R_mono (Kd.R_far (p := ⟨gb240, 7, none⟩) (Kd.R_far (p := ⟨gb240, 6, none⟩) (Kd.R_far (p := ⟨gb240, 5, none⟩) (Kd.R_far (p := ⟨gb240, 4, none⟩) (Kd.R_far (p := ⟨gb240, 3, none⟩) (Kd.R_far (p := ⟨gb240, 2, none⟩) (Kd.R_far (p := ⟨gb240, 1, none⟩) (Kd.R_far (p := ⟨gb240, 0, none⟩) (Kd.R_types HO230.out BK240.out (by decide)) (fun _ hk => hk.2) (.int .i64 t223)) (fun _ hk => hk.2) (.int .i64 t224)) (fun _ hk => hk.2) (.slice Ao35 t225.length co35)) (fun _ hk => hk.2) (.slice Ao36 t228.length co36)) (fun _ hk => hk.2) (.int .i64 t231)) (fun _ hk => hk.2) (.int .i64 t232)) (fun _ hk => hk.2) (.slice Ao37 t233.length co37)) (fun _ hk => hk.2) (.slice Ao38 t236.length co38)) (fun _ h_ => h_.1)))) k_ hk⟩)); (case aO => exact ((Kd.R_nil _ _ _ _ (fun k_ => some k_ ≠ (.slice Ao30 x12_2.length co30 : Value).ownBlock ∧ some k_ ≠ (.slice Ao17 t206.length co17 : Value).ownBlock ∧ some k_ ≠ (.slice Ao36 t228.length co36 : Value).ownBlock)))); (case aS => exact (zzS (by repeat (first | (with_reducible first | exact HB.out | apply zzA | apply zzN | apply zzD | refine below_set ?_ GE218.out | refine below_set ?_ GE240.out) | exact HB.out)))); (case aL => have := LMc26.out; omega); intro v242 w39 ho hb hg hat; rw [← Ny241.out] at ho; have n0_ := Aside0.mk (Kd.R_after (Kd.R_apart_nil (by (with_reducible repeat (first | apply rrA | apply rrN | apply rrD)); exact (Kd.R_mono (Kd.R_far (p := ⟨gb240, 7, none⟩) (Kd.R_far (p := ⟨gb240, 6, none⟩) (Kd.R_far (p := ⟨gb240, 5, none⟩) (Kd.R_far (p := ⟨gb240, 4, none⟩) (Kd.R_far (p := ⟨gb240, 3, none⟩) (Kd.R_far (p := ⟨gb240, 2, none⟩) (Kd.R_far (p := ⟨gb240, 1, none⟩) (Kd.R_far (p := ⟨gb240, 0, none⟩) (Kd.R_types HO_12.out BK240.out (by decide)) (fun _ hk => hk.2) (.int .i64 t223)) (fun _ hk => hk.2) (.int .i64 t224)) (fun _ hk => hk.2) (.slice Ao35 t225.length co35)) (fun _ hk => hk.2) (.slice Ao36 t228.length co36)) (fun _ hk => hk.2) (.int .i64 t231)) (fun _ hk => hk.2) (.int .i64 t232)) (fun _ hk => hk.2) (.slice Ao37 t233.length co37)) (fun _ hk => hk.2) (.slice Ao38 t236.length co38)) (fun _ h_ => h_.1)))) hg hat); have n1_ := Aside0.mk (Kd.R_grown (by (with_reducible repeat (first | apply rrA | apply rrN | apply rrD)); exact (Kd.R_mono (Kd.R_far (p := ⟨gb240, 7, none⟩) (Kd.R_far (p := ⟨gb240, 6, none⟩) (Kd.R_far (p := ⟨gb240, 5, none⟩) (Kd.R_far (p := ⟨gb240, 4, none⟩) (Kd.R_far (p := ⟨gb240, 3, none⟩) (Kd.R_far (p := ⟨gb240, 2, none⟩) (Kd.R_far (p := ⟨gb240, 1, none⟩) (Kd.R_far (p := ⟨gb240, 0, none⟩) (Kd.R_types HO_219002.out BK240.out (by decide)) (fun _ hk => hk.2) (.int .i64 t223)) (fun _ hk => hk.2) (.int .i64 t224)) (fun _ hk => hk.2) (.slice Ao35 t225.length co35)) (fun _ hk => hk.2) (.slice Ao36 t228.length co36)) (fun _ hk => hk.2) (.int .i64 t231)) (fun _ hk => hk.2) (.int .i64 t232)) (fun _ hk => hk.2) (.slice Ao37 t233.length co37)) (fun _ hk => hk.2) (.slice Ao38 t236.length co38)) (fun _ h_ => h_.1))) hg (fun _ _ => by simp [Value.ownBlock])); have n2_ := Aside0.mk (Kd.R_after (Kd.R_apart_nil (by (with_reducible repeat (first | apply rrA | apply rrN | apply rrD)); exact (Kd.R_mono (Kd.R_far (p := ⟨gb240, 7, none⟩) (Kd.R_far (p := ⟨gb240, 6, none⟩) (Kd.R_far (p := ⟨gb240, 5, none⟩) (Kd.R_far (p := ⟨gb240, 4, none⟩) (Kd.R_far (p := ⟨gb240, 3, none⟩) (Kd.R_far (p := ⟨gb240, 2, none⟩) (Kd.R_far (p := ⟨gb240, 1, none⟩) (Kd.R_far (p := ⟨gb240, 0, none⟩) (Kd.R_types HO_219003.out BK240.out (by decide)) (fun _ hk => hk.2) (.int .i64 t223)) (fun _ hk => hk.2) (.int .i64 t224)) (fun _ hk => hk.2) (.slice Ao35 t225.length co35)) (fun _ hk => hk.2) (.slice Ao36 t228.length co36)) (fun _ hk => hk.2) (.int .i64 t231)) (fun _ hk => hk.2) (.int .i64 t232)) (fun _ hk => hk.2) (.slice Ao37 t233.length co37)) (fun _ hk => hk.2) (.slice Ao38 t236.length co38)) (fun _ h_ => h_.1)))) hg hat); have n3_ := Aside0.mk (Kd.R_grown (by (with_reducible repeat (first | apply rrA | apply rrN | apply rrD)); exact (Kd.R_mono (Kd.R_far (p := ⟨gb240, 7, none⟩) (Kd.R_far (p := ⟨gb240, 6, none⟩) (Kd.R_far (p := ⟨gb240, 5, none⟩) (Kd.R_far (p := ⟨gb240, 4, none⟩) (Kd.R_far (p := ⟨gb240, 3, none⟩) (Kd.R_far (p := ⟨gb240, 2, none⟩) (Kd.R_far (p := ⟨gb240, 1, none⟩) (Kd.R_far (p := ⟨gb240, 0, none⟩) (Kd.R_types HO_219006.out BK240.out (by decide)) (fun _ hk => hk.2) (.int .i64 t223)) (fun _ hk => hk.2) (.int .i64 t224)) (fun _ hk => hk.2) (.slice Ao35 t225.length co35)) (fun _ hk => hk.2) (.slice Ao36 t228.length co36)) (fun _ hk => hk.2) (.int .i64 t231)) (fun _ hk => hk.2) (.int .i64 t232)) (fun _ hk => hk.2) (.slice Ao37 t233.length co37)) (fun _ hk => hk.2) (.slice Ao38 t236.length co38)) (fun _ h_ => h_.1))) hg (fun _ _ => by simp [Value.ownBlock])); have n4_ := Aside0.mk (Kd.R_grown (by (with_reducible repeat (first | apply rrA | apply rrN | apply rrD)); exact (Kd.R_mono (Kd.R_far (p := ⟨gb240, 7, none⟩) (Kd.R_far (p := ⟨gb240, 6, none⟩) (Kd.R_far (p := ⟨gb240, 5, none⟩) (Kd.R_far (p := ⟨gb240, 4, none⟩) (Kd.R_far (p := ⟨gb240, 3, none⟩) (Kd.R_far (p := ⟨gb240, 2, none⟩) (Kd.R_far (p := ⟨gb240, 1, none⟩) (Kd.R_far (p := ⟨gb240, 0, none⟩) (Kd.R_types HO_219007.out BK240.out (by decide)) (fun _ hk => hk.2) (.int .i64 t223)) (fun _ hk => hk.2) (.int .i64 t224)) (fun _ hk => hk.2) (.slice Ao35 t225.length co35)) (fun _ hk => hk.2) (.slice Ao36 t228.length co36)) (fun _ hk => hk.2) (.int .i64 t231)) (fun _ hk => hk.2) (.int .i64 t232)) (fun _ hk => hk.2) (.slice Ao37 t233.length co37)) (fun _ hk => hk.2) (.slice Ao38 t236.length co38)) (fun _ h_ => h_.1))) hg (fun _ _ => by simp [Value.ownBlock])); have n5_ := Aside0.mk (blk_grown (g := gb218) (o := .cells #[.int .i64 t201, .int .i64 t202, .slice Ao16 t203.length co16, .slice Ao17 t206.length co17, .int .i64 t209, .int .i64 t210, .slice Ao18 t211.length co18, .slice Ao19 t214.length co19] 30 (0, 0)) (by (with_reducible repeat (first | refine kkN ?_ _ | refine kkD ?_ | refine kkA ?_ _)); refine blk_far ?_ NB218_240.out _; (with_reducible repeat (first | refine kkN ?_ _ | refine kkD ?_ | refine kkA ?_ _)); refine blk_far ?_ NB218_240.out _; (with_reducible repeat (first | refine kkN ?_ _ | refine kkD ?_ | refine kkA ?_ _)); refine blk_far ?_ NB218_240.out _; (with_reducible repeat (first | refine kkN ?_ _ | refine kkD ?_ | refine kkA ?_ _)); refine blk_far ?_ NB218_240.out _; (with_reducible repeat (first | refine kkN ?_ _ | refine kkD ?_ | refine kkA ?_ _)); refine blk_far ?_ NB218_240.out _; (with_reducible repeat (first | refine kkN ?_ _ | refine kkD ?_ | refine kkA ?_ _)); refine blk_far ?_ NB218_240.out _; (with_reducible repeat (first | refine kkN ?_ _ | refine kkD ?_ | refine kkA ?_ _)); refine blk_far ?_ NB218_240.out _; (with_reducible repeat (first | refine kkN ?_ _ | refine kkD ?_ | refine kkA ?_ _)); refine blk_far ?_ NB218_240.out _; (with_reducible repeat (first | refine kkN ?_ _ | refine kkD ?_ | refine kkA ?_ _)); exact BK218.out) hg (by simp [Value.ownBlock])); have n6_ := Aside0.mk (Kd.R_grown (by (with_reducible repeat (first | apply rrA | apply rrN | apply rrD)); exact (Kd.R_mono (Kd.R_far (p := ⟨gb240, 7, none⟩) (Kd.R_far (p := ⟨gb240, 6, none⟩) (Kd.R_far (p := ⟨gb240, 5, none⟩) (Kd.R_far (p := ⟨gb240, 4, none⟩) (Kd.R_far (p := ⟨gb240, 3, none⟩) (Kd.R_far (p := ⟨gb240, 2, none⟩) (Kd.R_far (p := ⟨gb240, 1, none⟩) (Kd.R_far (p := ⟨gb240, 0, none⟩) (Kd.R_types HO227.out BK240.out (by decide)) (fun _ hk => hk.2) (.int .i64 t223)) (fun _ hk => hk.2) (.int .i64 t224)) (fun _ hk => hk.2) (.slice Ao35 t225.length co35)) (fun _ hk => hk.2) (.slice Ao36 t228.length co36)) (fun _ hk => hk.2) (.int .i64 t231)) (fun _ hk => hk.2) (.int .i64 t232)) (fun _ hk => hk.2) (.slice Ao37 t233.length co37)) (fun _ hk => hk.2) (.slice Ao38 t236.length co38)) (fun _ h_ => h_.1))) hg (fun _ _ => by simp [Value.ownBlock])); have n7_ := Aside0.mk (Kd.R_after (Kd.R_apart_nil (by (with_reducible repeat (first | apply rrA | apply rrN | apply rrD)); exact (Kd.R_mono (Kd.R_far (p := ⟨gb240, 7, none⟩) (Kd.R_far (p := ⟨gb240, 6, none⟩) (Kd.R_far (p := ⟨gb240, 5, none⟩) (Kd.R_far (p := ⟨gb240, 4, none⟩) (Kd.R_far (p := ⟨gb240, 3, none⟩) (Kd.R_far (p := ⟨gb240, 2, none⟩) (Kd.R_far (p := ⟨gb240, 1, none⟩) (Kd.R_far (p := ⟨gb240, 0, none⟩) (Kd.R_types HO230.out BK240.out (by decide)) (fun _ hk => hk.2) (.int .i64 t223)) (fun _ hk => hk.2) (.int .i64 t224)) (fun _ hk => hk.2) (.slice Ao35 t225.length co35)) (fun _ hk => hk.2) (.slice Ao36 t228.length co36)) (fun _ hk => hk.2) (.int .i64 t231)) (fun _ hk => hk.2) (.int .i64 t232)) (fun _ hk => hk.2) (.slice Ao37 t233.length co37)) (fun _ hk => hk.2) (.slice Ao38 t236.length co38)) (fun _ h_ => h_.1)))) hg hat); have n8_ := Aside0.mk (Kd.R_grown (by (with_reducible repeat (first | apply rrA | apply rrN | apply rrD)); exact (Kd.R_mono (Kd.R_far (p := ⟨gb240, 7, none⟩) (Kd.R_far (p := ⟨gb240, 6, none⟩) (Kd.R_far (p := ⟨gb240, 5, none⟩) (Kd.R_far (p := ⟨gb240, 4, none⟩) (Kd.R_far (p := ⟨gb240, 3, none⟩) (Kd.R_far (p := ⟨gb240, 2, none⟩) (Kd.R_far (p := ⟨gb240, 1, none⟩) (Kd.R_far (p := ⟨gb240, 0, none⟩) (Kd.R_types HO235.out BK240.out (by decide)) (fun _ hk => hk.2) (.int .i64 t223)) (fun _ hk => hk.2) (.int .i64 t224)) (fun _ hk => hk.2) (.slice Ao35 t225.length co35)) (fun _ hk => hk.2) (.slice Ao36 t228.length co36)) (fun _ hk => hk.2) (.int .i64 t231)) (fun _ hk => hk.2) (.int .i64 t232)) (fun _ hk => hk.2) (.slice Ao37 t233.length co37)) (fun _ hk => hk.2) (.slice Ao38 t236.length co38)) (fun _ h_ => h_.1))) hg (fun _ _ => by simp [Value.ownBlock])); have n9_ := Aside0.mk (Kd.R_grown (by (with_reducible repeat (first | apply rrA | apply rrN | apply rrD)); exact (Kd.R_mono (Kd.R_far (p := ⟨gb240, 7, none⟩) (Kd.R_far (p := ⟨gb240, 6, none⟩) (Kd.R_far (p := ⟨gb240, 5, none⟩) (Kd.R_far (p := ⟨gb240, 4, none⟩) (Kd.R_far (p := ⟨gb240, 3, none⟩) (Kd.R_far (p := ⟨gb240, 2, none⟩) (Kd.R_far (p := ⟨gb240, 1, none⟩) (Kd.R_far (p := ⟨gb240, 0, none⟩) (Kd.R_types HO238.out BK240.out (by decide)) (fun _ hk => hk.2) (.int .i64 t223)) (fun _ hk => hk.2) (.int .i64 t224)) (fun _ hk => hk.2) (.slice Ao35 t225.length co35)) (fun _ hk => hk.2) (.slice Ao36 t228.length co36)) (fun _ hk => hk.2) (.int .i64 t231)) (fun _ hk => hk.2) (.int .i64 t232)) (fun _ hk => hk.2) (.slice Ao37 t233.length co37)) (fun _ hk => hk.2) (.slice Ao38 t236.length co38)) (fun _ h_ => h_.1))) hg (fun _ _ => by simp [Value.ownBlock])); have n10_ := Aside0.mk (blk_grown (g := gb240) (o := .cells #[.int .i64 t223, .int .i64 t224, .slice Ao35 t225.length co35, .slice Ao36 t228.length co36, .int .i64 t231, .int .i64 t232, .slice Ao37 t233.length co37, .slice Ao38 t236.length co38] 30 (0, 0)) (by (with_reducible repeat (first | refine kkN ?_ _ | refine kkD ?_ | refine kkA ?_ _)); refine blk_put (cs := #[.int .i64 t223, .int .i64 t224, .slice Ao35 t225.length co35, .slice Ao36 t228.length co36, .int .i64 t231, .int .i64 t232, .slice Ao37 t233.length co37, .slice none 0 0]) ?_ 7 _ rfl; (with_reducible repeat (first | refine kkN ?_ _ | refine kkD ?_ | refine kkA ?_ _)); refine blk_put (cs := #[.int .i64 t223, .int .i64 t224, .slice Ao35 t225.length co35, .slice Ao36 t228.length co36, .int .i64 t231, .int .i64 t232, .slice none 0 0, .slice none 0 0]) ?_ 6 _ rfl; (with_reducible repeat (first | refine kkN ?_ _ | refine kkD ?_ | refine kkA ?_ _)); refine blk_put (cs := #[.int .i64 t223, .int .i64 t224, .slice Ao35 t225.length co35, .slice Ao36 t228.length co36, .int .i64 t231, .int .i64 0, .slice none 0 0, .slice none 0 0]) ?_ 5 _ rfl; (with_reducible repeat (first | refine kkN ?_ _ | refine kkD ?_ | refine kkA ?_ _)); refine blk_put (cs := #[.int .i64 t223, .int .i64 t224, .slice Ao35 t225.length co35, .slice Ao36 t228.length co36, .int .i64 0, .int .i64 0, .slice none 0 0, .slice none 0 0]) ?_ 4 _ rfl; (with_reducible repeat (first | refine kkN ?_ _ | refine kkD ?_ | refine kkA ?_ _)); refine blk_put (cs := #[.int .i64 t223, .int .i64 t224, .slice Ao35 t225.length co35, .slice none 0 0, .int .i64 0, .int .i64 0, .slice none 0 0, .slice none 0 0]) ?_ 3 _ rfl; (with_reducible repeat (first | refine kkN ?_ _ | refine kkD ?_ | refine kkA ?_ _)); refine blk_put (cs := #[.int .i64 t223, .int .i64 t224, .slice none 0 0, .slice none 0 0, .int .i64 0, .int .i64 0, .slice none 0 0, .slice none 0 0]) ?_ 2 _ rfl; (with_reducible repeat (first | refine kkN ?_ _ | refine kkD ?_ | refine kkA ?_ _)); refine blk_put (cs := #[.int .i64 t223, .int .i64 0, .slice none 0 0, .slice none 0 0, .int .i64 0, .int .i64 0, .slice none 0 0, .slice none 0 0]) ?_ 1 _ rfl; (with_reducible repeat (first | refine kkN ?_ _ | refine kkD ?_ | refine kkA ?_ _)); refine blk_put (cs := #[.int .i64 0, .int .i64 0, .slice none 0 0, .slice none 0 0, .int .i64 0, .int .i64 0, .slice none 0 0, .slice none 0 0]) ?_ 0 _ rfl; (with_reducible repeat (first | refine kkN ?_ _ | refine kkD ?_ | refine kkA ?_ _)); exact BK240.out) hg (by simp [Value.ownBlock])); have n11_ := Aside0.mk (hb); have n12_ := Aside0.mk (ho); clear HO_12; clear HO_219002; clear HO_219003; clear HO_219006; clear HO_219007; clear BK218; clear HO227; clear HO230; clear HO235; clear HO238; clear BK240; clear HB; have HO_12 := n0_; have HO_219002 := n1_; have HO_219003 := n2_; have HO_219006 := n3_; have HO_219007 := n4_; have BK218 := n5_; have HO227 := n6_; have HO230 := n7_; have HO235 := n8_; have HO238 := n9_; have BK240 := n10_; have HB := n11_; have HO243 := n12_; clear n0_ n1_ n2_ n3_ n4_ n5_ n6_ n7_ n8_ n9_ n10_ n11_ n12_; clear ho hb hg hat) | ((with_reducible refine gate_builtin (b := .append) (xs := #[.tmp 64, .tmp 65]) rfl ?_); (try (refine gate_guard (by rfl) ?_; dsimp only)); at_builtin; refine Kd.R_append_rows (Kd.int .i64) (w0 := w) w.heap.size rfl (.tmp 64) (.tmp 65) 27 2 (.int .i64 0) 8 rfl Try.underlying27 info2 rfl (by decide) (by omega) v242 y241 x12_2 _ _ _ (fun k_ => some k_ ≠ (.slice Ao30 x12_2.length co30 : Value).ownBlock ∧ some k_ ≠ (.slice Ao17 t206.length co17 : Value).ownBlock ∧ some k_ ≠ (.slice Ao36 t228.length co36 : Value).ownBlock) (fun _ => False) rfl rfl ?aO ?aR (fun _ _ h => h) (fun _ h => h.elim) ?aF ?aB ?aS ?aL ?_; (case aR => repeat (first | exact (Kd.R_reads' HO_12.out).2.2 | (with_reducible refine ccA ?_ _) | (with_reducible refine ccN ?_ _) | (with_reducible refine ccD ?_))); (case aB => exact (by repeat (first | (with_reducible first | exact HB.out | apply zzA | apply zzN | apply zzD | refine below_set ?_ GE218.out | refine below_set ?_ GE240.out) | exact HB.out))); (case aF => exact (fun k_ hk => ⟨Kd.fresh' (Kd.R_lt (by (with_reducible repeat (first | apply rrA | apply rrN | apply rrD)); exact HO_12.out)) k_ hk, Kd.fresh' (Kd.R_lt (by (with_reducible repeat (first | apply rrA | apply rrN | apply rrD)); exact HO_219003.out)) k_ hk, Kd.fresh' (Kd.R_lt (by (with_reducible repeat (first | apply rrA | apply rrN | apply rrD)); exact HO230.out)) k_ hk⟩)); (case aO => exact (by (with_reducible repeat (first | apply rrA | apply rrN | apply rrD)); exact HO243.out)); (case aS => exact (zzS (by repeat (first | (with_reducible first | exact HB.out | apply zzA | apply zzN | apply zzD | refine below_set ?_ GE218.out | refine below_set ?_ GE240.out) | exact HB.out)))); (case aL => have := LMc27.out; omega); intro v245 w40 ho hb hg hat; rw [← Ny244.out] at ho; have n0_ := Aside0.mk (Kd.R_after (ok := (fun k_ => some k_ ≠ (.slice Ao17 t206.length co17 : Value).ownBlock ∧ some k_ ≠ (.slice Ao36 t228.length co36 : Value).ownBlock)) (by (with_reducible repeat (first | apply rrA | apply rrN | apply rrD)); exact HO_12.out) hg hat); have n1_ := Aside0.mk (Kd.R_over' (by (with_reducible repeat (first | apply rrA | apply rrN | apply rrD)); exact HO_219002.out) (Kd.R_typed (by (with_reducible repeat (first | apply rrA | apply rrN | apply rrD)); exact HO243.out)) (by decide) hg); have n2_ := Aside0.mk (Kd.R_after (ok := (fun k_ => some k_ ≠ (.slice Ao30 x12_2.length co30 : Value).ownBlock ∧ some k_ ≠ (.slice Ao36 t228.length co36 : Value).ownBlock)) (by (with_reducible repeat (first | apply rrA | apply rrN | apply rrD)); exact HO_219003.out) hg hat); have n3_ := Aside0.mk (Kd.R_over' (by (with_reducible repeat (first | apply rrA | apply rrN | apply rrD)); exact HO_219006.out) (Kd.R_typed (by (with_reducible repeat (first | apply rrA | apply rrN | apply rrD)); exact HO243.out)) (by decide) hg); have n4_ := Aside0.mk (Kd.R_over' (by (with_reducible repeat (first | apply rrA | apply rrN | apply rrD)); exact HO_219007.out) (Kd.R_typed (by (with_reducible repeat (first | apply rrA | apply rrN | apply rrD)); exact HO243.out)) (by decide) hg); have n5_ := Aside0.mk (blk_grown (g := gb218) (o := .cells #[.int .i64 t201, .int .i64 t202, .slice Ao16 t203.length co16, .slice Ao17 t206.length co17, .int .i64 t209, .int .i64 t210, .slice Ao18 t211.length co18, .slice Ao19 t214.length co19] 30 (0, 0)) (by (with_reducible repeat (first | refine kkN ?_ _ | refine kkD ?_ | refine kkA ?_ _)); exact BK218.out) hg (Kd.R_ne HO243.out BK218.out (by decide))); have n6_ := Aside0.mk (Kd.R_over' (by (with_reducible repeat (first | apply rrA | apply rrN | apply rrD)); exact HO227.out) (Kd.R_typed (by (with_reducible repeat (first | apply rrA | apply rrN | apply rrD)); exact HO243.out)) (by decide) hg); have n7_ := Aside0.mk (Kd.R_after (ok := (fun k_ => some k_ ≠ (.slice Ao30 x12_2.length co30 : Value).ownBlock ∧ some k_ ≠ (.slice Ao17 t206.length co17 : Value).ownBlock)) (by (with_reducible repeat (first | apply rrA | apply rrN | apply rrD)); exact Kd.R_mono HO230.out (fun _ hk => ⟨⟨hk.1.1.2, hk.1.2⟩, hk.2⟩)) hg hat); have n8_ := Aside0.mk (Kd.R_over' (by (with_reducible repeat (first | apply rrA | apply rrN | apply rrD)); exact HO235.out) (Kd.R_typed (by (with_reducible repeat (first | apply rrA | apply rrN | apply rrD)); exact HO243.out)) (by decide) hg); have n9_ := Aside0.mk (Kd.R_over' (by (with_reducible repeat (first | apply rrA | apply rrN | apply rrD)); exact HO238.out) (Kd.R_typed (by (with_reducible repeat (first | apply rrA | apply rrN | apply rrD)); exact HO243.out)) (by decide) hg); have n10_ := Aside0.mk (blk_grown (g := gb240) (o := .cells #[.int .i64 t223, .int .i64 t224, .slice Ao35 t225.length co35, .slice Ao36 t228.length co36, .int .i64 t231, .int .i64 t232, .slice Ao37 t233.length co37, .slice Ao38 t236.length co38] 30 (0, 0)) (by (with_reducible repeat (first | refine kkN ?_ _ | refine kkD ?_ | refine kkA ?_ _)); exact BK240.out) hg (Kd.R_ne HO243.out BK240.out (by decide))); have n11_ := Aside0.mk (hb); have n12_ := Aside0.mk (ho); clear HO_12; clear HO_219002; clear HO_219003; clear HO_219006; clear HO_219007; clear BK218; clear HO227; clear HO230; clear HO235; clear HO238; clear BK240; clear HB; clear HO243; have HO_12 := n0_; have HO_219002 := n1_; have HO_219003 := n2_; have HO_219006 := n3_; have HO_219007 := n4_; have BK218 := n5_; have HO227 := n6_; have HO230 := n7_; have HO235 := n8_; have HO238 := n9_; have BK240 := n10_; have HB := n11_; have HO246 := n12_; clear n0_ n1_ n2_ n3_ n4_ n5_ n6_ n7_ n8_ n9_ n10_ n11_ n12_; clear ho hb hg hat; obtain ⟨Ao41, co41, eo41⟩ := Kd.R_slice HO246.out; subst eo41) | (go_at_call 46; (with_reducible refine (quant_Press.calls k2 _ _ y244 a1 a2 _ _ l3 t247 t248 t249 t252 t255 t256 t257 t260 t263 _ ?side1 ?side2 ?side3 ?side4 A28.out).mono ?_); (case side1 => repeat (first | exact (Kd.R_reads' HO246.out).2.2 | (with_reducible refine ccA ?_ _) | (with_reducible refine ccN ?_ _) | (with_reducible refine ccD ?_))); (case side2 => exact (Kd.R_reads' HO246.out).2.1); (case side3 => repeat (first | exact (Kd.C_below HR3.out HB.out) | (with_reducible refine ccA ?_ _) | (with_reducible refine ccN ?_ _) | (with_reducible refine ccD ?_))); (case side4 => exact HC3.out); rintro e w42 ⟨v250, v253, v258, v261, rfl, ho0, ho1, ho2, ho3, hb⟩; have n0_ := Aside0.mk (Kd.R_elder' (by (with_reducible repeat (first | apply rrA | apply rrN | apply rrD)); exact HO_12.out) (Kd.R_base ho1) hb); have n1_ := Aside0.mk (Kd.R_elder' (by (with_reducible repeat (first | apply rrA | apply rrN | apply rrD)); exact HO_219002.out) (Kd.R_base ho0) hb); have n2_ := Aside0.mk (Kd.R_elder' (by (with_reducible repeat (first | apply rrA | apply rrN | apply rrD)); exact HO_219003.out) (Kd.R_base ho1) hb); have n3_ := Aside0.mk (Kd.R_elder' (by (with_reducible repeat (first | apply rrA | apply rrN | apply rrD)); exact HO_219006.out) (Kd.R_base ho2) hb); have n4_ := Aside0.mk (Kd.R_elder' (by (with_reducible repeat (first | apply rrA | apply rrN | apply rrD)); exact HO_219007.out) (Kd.R_base ho3) hb); have n5_ := Aside0.mk (Kd.R_elder' (by (with_reducible repeat (first | apply rrA | apply rrN | apply rrD)); exact HO227.out) (Kd.R_base ho0) hb); have n6_ := Aside0.mk (Kd.R_elder' (by (with_reducible repeat (first | apply rrA | apply rrN | apply rrD)); exact HO230.out) (Kd.R_base ho1) hb); have n7_ := Aside0.mk (Kd.R_elder' (by (with_reducible repeat (first | apply rrA | apply rrN | apply rrD)); exact HO235.out) (Kd.R_base ho2) hb); have n8_ := Aside0.mk (Kd.R_elder' (by (with_reducible repeat (first | apply rrA | apply rrN | apply rrD)); exact HO238.out) (Kd.R_base ho3) hb); have n9_ := Aside0.mk (Kd.R_elder' (by (with_reducible repeat (first | apply rrA | apply rrN | apply rrD)); exact HO246.out) (Kd.R_base ho1) hb); have n10_ := Aside0.mk (Kd.R_lower (Kd.R_new' (Kd.R_new' ho0 (Kd.R_lt (by (with_reducible repeat (first | apply rrA | apply rrN | apply rrD)); exact HO_219002.out))) (Kd.R_lt (by (with_reducible repeat (first | apply rrA | apply rrN | apply rrD)); exact HO227.out))) (zzS (by repeat (first | (with_reducible first | exact HB.out | apply zzA | apply zzN | apply zzD | refine below_set ?_ GE218.out | refine below_set ?_ GE240.out) | exact HB.out)))); have n11_ := Aside0.mk (Kd.R_lower (Kd.R_new' (Kd.R_new' (Kd.R_new' (Kd.R_new' ho1 (Kd.R_lt (by (with_reducible repeat (first | apply rrA | apply rrN | apply rrD)); exact HO_12.out))) (Kd.R_lt (by (with_reducible repeat (first | apply rrA | apply rrN | apply rrD)); exact HO_219003.out))) (Kd.R_lt (by (with_reducible repeat (first | apply rrA | apply rrN | apply rrD)); exact HO230.out))) (Kd.R_lt (by (with_reducible repeat (first | apply rrA | apply rrN | apply rrD)); exact HO246.out))) (zzS (by repeat (first | (with_reducible first | exact HB.out | apply zzA | apply zzN | apply zzD | refine below_set ?_ GE218.out | refine below_set ?_ GE240.out) | exact HB.out)))); have n12_ := Aside0.mk (Kd.R_lower (Kd.R_new' (Kd.R_new' ho2 (Kd.R_lt (by (with_reducible repeat (first | apply rrA | apply rrN | apply rrD)); exact HO_219006.out))) (Kd.R_lt (by (with_reducible repeat (first | apply rrA | apply rrN | apply rrD)); exact HO235.out))) (zzS (by repeat (first | (with_reducible first | exact HB.out | apply zzA | apply zzN | apply zzD | refine below_set ?_ GE218.out | refine below_set ?_ GE240.out) | exact HB.out)))); have n13_ := Aside0.mk (Kd.R_lower (Kd.R_new' (Kd.R_new' ho3 (Kd.R_lt (by (with_reducible repeat (first | apply rrA | apply rrN | apply rrD)); exact HO_219007.out))) (Kd.R_lt (by (with_reducible repeat (first | apply rrA | apply rrN | apply rrD)); exact HO238.out))) (zzS (by repeat (first | (with_reducible first | exact HB.out | apply zzA | apply zzN | apply zzD | refine below_set ?_ GE218.out | refine below_set ?_ GE240.out) | exact HB.out)))); have n14_ := Aside0.mk (blk_below (g := gb218) (o := .cells #[.int .i64 t201, .int .i64 t202, .slice Ao16 t203.length co16, .slice Ao17 t206.length co17, .int .i64 t209, .int .i64 t210, .slice Ao18 t211.length co18, .slice Ao19 t214.length co19] 30 (0, 0)) (by (with_reducible repeat (first | refine kkN ?_ _ | refine kkD ?_ | refine kkA ?_ _)); exact BK218.out) hb); have n15_ := Aside0.mk (blk_below (g := gb240) (o := .cells #[.int .i64 t223, .int .i64 t224, .slice Ao35 t225.length co35, .slice Ao36 t228.length co36, .int .i64 t231, .int .i64 t232, .slice Ao37 t233.length co37, .slice Ao38 t236.length co38] 30 (0, 0)) (by (with_reducible repeat (first | refine kkN ?_ _ | refine kkD ?_ | refine kkA ?_ _)); exact BK240.out) hb); have n16_ := Aside0.mk (zzT (by repeat (first | (with_reducible first | exact HB.out | apply zzA | apply zzN | apply zzD | refine below_set ?_ GE218.out | refine below_set ?_ GE240.out) | exact HB.out)) hb); clear HO_12; clear HO_219002; clear HO_219003; clear HO_219006; clear HO_219007; clear HO227; clear HO230; clear HO235; clear HO238; clear HO246; clear BK218; clear BK240; clear HB; have HO_12 := n0_; have HO_219002 := n1_; have HO_219003 := n2_; have HO_219006 := n3_; have HO_219007 := n4_; have HO227 := n5_; have HO230 := n6_; have HO235 := n7_; have HO238 := n8_; have HO246 := n9_; have HO251 := n10_; have HO254 := n11_; have HO259 := n12_; have HO262 := n13_; have BK218 := n14_; have BK240 := n15_; have HB := n16_; clear n0_ n1_ n2_ n3_ n4_ n5_ n6_ n7_ n8_ n9_ n10_ n11_ n12_ n13_ n14_ n15_ n16_; (try clear hb); (try clear ho1); (try clear ho2); (try clear ho3)) | ((with_reducible refine gate_dst (N := 17) rfl ?_); (try (refine gate_guard (by rfl) ?_; dsimp only)); refine box_event ?hg (N := 17) ?hd (cs := #[.int .i64 0, .int .i64 0, .slice none 0 0, .slice none 0 0, .int .i64 0, .int .i64 0, .slice none 0 0, .slice none 0 0]) (t := 30) ?hr ?_; (case hd => rfl); (case hg => rfl); (case hr => first | (go_simp; done) | (go_simp; rfl)); intro gb264 hg w43 hbox hb; have n0_ := Aside0.mk (Kd.R_below (by (with_reducible repeat (first | apply rrA | apply rrN | apply rrD)); exact HO_12.out) hb); have n1_ := Aside0.mk (Kd.R_below (by (with_reducible repeat (first | apply rrA | apply rrN | apply rrD)); exact HO_219002.out) hb); have n2_ := Aside0.mk (Kd.R_below (by (with_reducible repeat (first | apply rrA | apply rrN | apply rrD)); exact HO_219003.out) hb); have n3_ := Aside0.mk (Kd.R_below (by (with_reducible repeat (first | apply rrA | apply rrN | apply rrD)); exact HO_219006.out) hb); have n4_ := Aside0.mk (Kd.R_below (by (with_reducible repeat (first | apply rrA | apply rrN | apply rrD)); exact HO_219007.out) hb); have n5_ := Aside0.mk (Kd.R_below (by (with_reducible repeat (first | apply rrA | apply rrN | apply rrD)); exact HO227.out) hb); have n6_ := Aside0.mk (Kd.R_below (by (with_reducible repeat (first | apply rrA | apply rrN | apply rrD)); exact HO230.out) hb); have n7_ := Aside0.mk (Kd.R_below (by (with_reducible repeat (first | apply rrA | apply rrN | apply rrD)); exact HO235.out) hb); have n8_ := Aside0.mk (Kd.R_below (by (with_reducible repeat (first | apply rrA | apply rrN | apply rrD)); exact HO238.out) hb); have n9_ := Aside0.mk (Kd.R_below (by (with_reducible repeat (first | apply rrA | apply rrN | apply rrD)); exact HO246.out) hb); have n10_ := Aside0.mk (Kd.R_below (by (with_reducible repeat (first | apply rrA | apply rrN | apply rrD)); exact HO251.out) hb); have n11_ := Aside0.mk (Kd.R_below (by (with_reducible repeat (first | apply rrA | apply rrN | apply rrD)); exact HO254.out) hb); have n12_ := Aside0.mk (Kd.R_below (by (with_reducible repeat (first | apply rrA | apply rrN | apply rrD)); exact HO259.out) hb); have n13_ := Aside0.mk (Kd.R_below (by (with_reducible repeat (first | apply rrA | apply rrN | apply rrD)); exact HO262.out) hb); have n14_ := Aside0.mk (blk_below (g := gb218) (o := .cells #[.int .i64 t201, .int .i64 t202, .slice Ao16 t203.length co16, .slice Ao17 t206.length co17, .int .i64 t209, .int .i64 t210, .slice Ao18 t211.length co18, .slice Ao19 t214.length co19] 30 (0, 0)) (by (with_reducible repeat (first | refine kkN ?_ _ | refine kkD ?_ | refine kkA ?_ _)); exact BK218.out) hb); have n15_ := Aside0.mk (blk_below (g := gb240) (o := .cells #[.int .i64 t223, .int .i64 t224, .slice Ao35 t225.length co35, .slice Ao36 t228.length co36, .int .i64 t231, .int .i64 t232, .slice Ao37 t233.length co37, .slice Ao38 t236.length co38] 30 (0, 0)) (by (with_reducible repeat (first | refine kkN ?_ _ | refine kkD ?_ | refine kkA ?_ _)); exact BK240.out) hb); have n16_ := Aside0.mk (zzT (by repeat (first | (with_reducible first | exact HB.out | apply zzA | apply zzN | apply zzD | refine below_set ?_ GE218.out | refine below_set ?_ GE240.out) | exact HB.out)) hb); have n17_ := Aside0.mk (hbox); have n18_ := Aside0.mk ((by rw [hg]; exact (zzS (by repeat (first | (with_reducible first | exact HB.out | apply zzA | apply zzN | apply zzD | refine below_set ?_ GE218.out | refine below_set ?_ GE240.out) | exact HB.out))) : w.heap.size ≤ gb264)); have n19_ := Aside0.mk ((by rw [hg]; exact (zzS (by repeat (first | (with_reducible first | exact HB.out | apply zzA | apply zzN | apply zzD | refine below_set ?_ GE218.out | refine below_set ?_ GE240.out) | exact HB.out))) : w.heap.size ≤ gb264)); have n20_ := Aside0.mk ((by rw [hg]; exact Nat.ne_of_lt (blk_lt (g := gb218) (o := .cells #[.int .i64 t201, .int .i64 t202, .slice Ao16 t203.length co16, .slice Ao17 t206.length co17, .int .i64 t209, .int .i64 t210, .slice Ao18 t211.length co18, .slice Ao19 t214.length co19] 30 (0, 0)) (by (with_reducible repeat (first | refine kkN ?_ _ | refine kkD ?_ | refine kkA ?_ _)); exact BK218.out)) : gb218 ≠ gb264)); have n21_ := Aside0.mk ((by rw [hg]; exact Nat.ne_of_gt (blk_lt (g := gb218) (o := .cells #[.int .i64 t201, .int .i64 t202, .slice Ao16 t203.length co16, .slice Ao17 t206.length co17, .int .i64 t209, .int .i64 t210, .slice Ao18 t211.length co18, .slice Ao19 t214.length co19] 30 (0, 0)) (by (with_reducible repeat (first | refine kkN ?_ _ | refine kkD ?_ | refine kkA ?_ _)); exact BK218.out)) : gb264 ≠ gb218)); have n22_ := Aside0.mk ((by rw [hg]; exact Nat.ne_of_lt (blk_lt (g := gb240) (o := .cells #[.int .i64 t223, .int .i64 t224, .slice Ao35 t225.length co35, .slice Ao36 t228.length co36, .int .i64 t231, .int .i64 t232, .slice Ao37 t233.length co37, .slice Ao38 t236.length co38] 30 (0, 0)) (by (with_reducible repeat (first | refine kkN ?_ _ | refine kkD ?_ | refine kkA ?_ _)); exact BK240.out)) : gb240 ≠ gb264)); have n23_ := Aside0.mk ((by rw [hg]; exact Nat.ne_of_gt (blk_lt (g := gb240) (o := .cells #[.int .i64 t223, .int .i64 t224, .slice Ao35 t225.length co35, .slice Ao36 t228.length co36, .int .i64 t231, .int .i64 t232, .slice Ao37 t233.length co37, .slice Ao38 t236.length co38] 30 (0, 0)) (by (with_reducible repeat (first | refine kkN ?_ _ | refine kkD ?_ | refine kkA ?_ _)); exact BK240.out)) : gb264 ≠ gb240)); clear HO_12; clear HO_219002; clear HO_219003; clear HO_219006; clear HO_219007; clear HO227; clear HO230; clear HO235; clear HO238; clear HO246; clear HO251; clear HO254; clear HO259; clear HO262; clear BK218; clear BK240; clear HB; have HO_12 := n0_; have HO_219002 := n1_; have HO_219003 := n2_; have HO_219006 := n3_; have HO_219007 := n4_; have HO227 := n5_; have HO230 := n6_; have HO235 := n7_; have HO238 := n8_; have HO246 := n9_; have HO251 := n10_; have HO254 := n11_; have HO259 := n12_; have HO262 := n13_; have BK218 := n14_; have BK240 := n15_; have HB := n16_; have BK264 := n17_; have GW264 := n18_; have GE264 := n19_; have NB218_264 := n20_; have NB264_218 := n21_; have NB240_264 := n22_; have NB264_240 := n23_; clear n0_ n1_ n2_ n3_ n4_ n5_ n6_ n7_ n8_ n9_ n10_ n11_ n12_ n13_ n14_ n15_ n16_ n17_ n18_ n19_ n20_ n21_ n22_ n23_; clear hb hbox hg; have hnb44 := NB264_218.out; have hnc44 := NB218_264.out; have hnb45 := NB264_240.out; have hnc45 := NB240_264.out; have hcz46_0 : w43.cell? ⟨gb264, 0, none⟩ = some (.int .i64 0) := (blk_cell BK264.out 0).trans rfl; have hcz46_1 : w43.cell? ⟨gb264, 1, none⟩ = some (.int .i64 0) := (blk_cell BK264.out 1).trans rfl; have hcz46_2 : w43.cell? ⟨gb264, 2, none⟩ = some (.slice none 0 0) := (blk_cell BK264.out 2).trans rfl; have hcz46_3 : w43.cell? ⟨gb264, 3, none⟩ = some (.slice none 0 0) := (blk_cell BK264.out 3).trans rfl; have hcz46_4 : w43.cell? ⟨gb264, 4, none⟩ = some (.int .i64 0) := (blk_cell BK264.out 4).trans rfl; have hcz46_5 : w43.cell? ⟨gb264, 5, none⟩ = some (.int .i64 0) := (blk_cell BK264.out 5).trans rfl; have hcz46_6 : w43.cell? ⟨gb264, 6, none⟩ = some (.slice none 0 0) := (blk_cell BK264.out 6).trans rfl; have hcz46_7 : w43.cell? ⟨gb264, 7, none⟩ = some (.slice none 0 0) := (blk_cell BK264.out 7).trans rfl; have hfz46_0 := blk_frozen BK264.out 0; have hfz46_1 := blk_frozen BK264.out 1; have hfz46_2 := blk_frozen BK264.out 2; have hfz46_3 := blk_frozen BK264.out 3; have hfz46_4 := blk_frozen BK264.out 4; have hfz46_5 := blk_frozen BK264.out 5; have hfz46_6 := blk_frozen BK264.out 6; have hfz46_7 := blk_frozen BK264.out 7; obtain ⟨Ao47, co47, eo47⟩ := Kd.R_slice HO251.out; subst eo47; obtain ⟨Ao48, co48, eo48⟩ := Kd.R_slice HO254.out; subst eo48; obtain ⟨Ao49, co49, eo49⟩ := Kd.R_slice HO259.out; subst eo49; obtain ⟨Ao50, co50, eo50⟩ := Kd.R_slice HO262.out; subst eo50)))
          (try simp only [Act.put, List.setIfInBounds_toArray, List.set_cons_zero, List.set_cons_succ])
          go_cut [80] (fun v80 wc => ∃ (kq : Nat) (x80_28 : Bool), v80 = .bool x80_28 ∧ Aside0 (thrumlaw10_QuantTurned.j2 kq l0 true t217 x80_28 t201 t202 t203 t206 t209 t210 t211 t214 t223 t224 t225 t228 t231 t232 t233 t236 t247 t248 t249 t252 t255 t256 t257 t260 = some r) ∧ Aside0 (kq ≤ k2) ∧ Aside0 (Kd.R (Kd.int .i64) 3 wc w.heap.size (fun k_ => some k_ ≠ ((.slice Ao35 t225.length co35) : Value).ownBlock ∧ some k_ ≠ ((.slice Ao47 t249.length co47) : Value).ownBlock) (.slice Ao16 t203.length co16) t203) ∧ Aside0 (Kd.R (Kd.int .i64) 2 wc w.heap.size (fun k_ => some k_ ≠ ((.slice Ao36 t228.length co36) : Value).ownBlock ∧ some k_ ≠ ((.slice Ao48 t252.length co48) : Value).ownBlock) (.slice Ao17 t206.length co17) t206) ∧ Aside0 (Kd.R (Kd.int .u64) 64 wc w.heap.size (fun k_ => some k_ ≠ ((.slice Ao37 t233.length co37) : Value).ownBlock ∧ some k_ ≠ ((.slice Ao49 t257.length co49) : Value).ownBlock) (.slice Ao18 t211.length co18) t211) ∧ Aside0 (Kd.R Kd.bool 4 wc w.heap.size (fun k_ => some k_ ≠ ((.slice Ao38 t236.length co38) : Value).ownBlock ∧ some k_ ≠ ((.slice Ao50 t260.length co50) : Value).ownBlock) (.slice Ao19 t214.length co19) t214) ∧ Aside0 (Kd.R (Kd.int .i64) 3 wc w.heap.size (fun k_ => some k_ ≠ ((.slice Ao16 t203.length co16) : Value).ownBlock ∧ some k_ ≠ ((.slice Ao47 t249.length co47) : Value).ownBlock) (.slice Ao35 t225.length co35) t225) ∧ Aside0 (Kd.R (Kd.int .i64) 2 wc w.heap.size (fun k_ => some k_ ≠ ((.slice Ao17 t206.length co17) : Value).ownBlock ∧ some k_ ≠ ((.slice Ao48 t252.length co48) : Value).ownBlock) (.slice Ao36 t228.length co36) t228) ∧ Aside0 (Kd.R (Kd.int .u64) 64 wc w.heap.size (fun k_ => some k_ ≠ ((.slice Ao18 t211.length co18) : Value).ownBlock ∧ some k_ ≠ ((.slice Ao49 t257.length co49) : Value).ownBlock) (.slice Ao37 t233.length co37) t233) ∧ Aside0 (Kd.R Kd.bool 4 wc w.heap.size (fun k_ => some k_ ≠ ((.slice Ao19 t214.length co19) : Value).ownBlock ∧ some k_ ≠ ((.slice Ao50 t260.length co50) : Value).ownBlock) (.slice Ao38 t236.length co38) t236) ∧ Aside0 (Kd.R (Kd.int .i64) 3 wc w.heap.size (fun k_ => some k_ ≠ ((.slice Ao16 t203.length co16) : Value).ownBlock ∧ some k_ ≠ ((.slice Ao35 t225.length co35) : Value).ownBlock) (.slice Ao47 t249.length co47) t249) ∧ Aside0 (Kd.R (Kd.int .i64) 2 wc w.heap.size (fun k_ => some k_ ≠ ((.slice Ao17 t206.length co17) : Value).ownBlock ∧ some k_ ≠ ((.slice Ao36 t228.length co36) : Value).ownBlock) (.slice Ao48 t252.length co48) t252) ∧ Aside0 (Kd.R (Kd.int .u64) 64 wc w.heap.size (fun k_ => some k_ ≠ ((.slice Ao18 t211.length co18) : Value).ownBlock ∧ some k_ ≠ ((.slice Ao37 t233.length co37) : Value).ownBlock) (.slice Ao49 t257.length co49) t257) ∧ Aside0 (Kd.R Kd.bool 4 wc w.heap.size (fun k_ => some k_ ≠ ((.slice Ao19 t214.length co19) : Value).ownBlock ∧ some k_ ≠ ((.slice Ao38 t236.length co38) : Value).ownBlock) (.slice Ao50 t260.length co50) t260) ∧ Aside0 (wc.heap[gb218]? = some (.cells #[.int .i64 t201, .int .i64 t202, (.slice Ao16 t203.length co16), (.slice Ao17 t206.length co17), .int .i64 t209, .int .i64 t210, (.slice Ao18 t211.length co18), (.slice Ao19 t214.length co19)] 30 (0, 0))) ∧ Aside0 (wc.heap[gb240]? = some (.cells #[.int .i64 t223, .int .i64 t224, (.slice Ao35 t225.length co35), (.slice Ao36 t228.length co36), .int .i64 t231, .int .i64 t232, (.slice Ao37 t233.length co37), (.slice Ao38 t236.length co38)] 30 (0, 0))) ∧ Aside0 (wc.heap[gb264]? = some (.cells #[.int .i64 t247, .int .i64 t248, (.slice Ao47 t249.length co47), (.slice Ao48 t252.length co48), .int .i64 t255, .int .i64 t256, (.slice Ao49 t257.length co49), (.slice Ao50 t260.length co50)] 30 (0, 0))) ∧ Aside0 (Below w.heap.size w wc))
          case first =>
           have H := HC29.out
           clear HC29
           by_cases c51 : t217 = t239
           ·
            rw [if_pos c51] at H
            have c51b0 : (t217 == t239) = true := beq_iff_eq.mpr c51
            have c51b1 : (t217 != t239) = false := bne_eq_false_iff_eq.mpr c51
            clear c51
            (first | rw [c51b0] | (simp only [i64_w, i32_w]; rw [c51b0]) | skip)
            focus
             have H' := Aside0.mk H
             clear H
             go_wp2
             repeat (go_quiet (fail); try go_wp2)
             go_meet
             case rel => exact ⟨_, ((t217 != t263)), (by first | rfl | (simp; done) | (simp [*]; done)), H', ⟨by have := HJ6.out; have := HK2.out; first | omega | exact Nat.le_refl _⟩, ⟨by (with_reducible repeat (first | apply rrA | apply rrN | apply rrD)); exact Kd.R_mono (Kd.R_far (p := ⟨gb264, 7, none⟩) (Kd.R_far (p := ⟨gb264, 6, none⟩) (Kd.R_far (p := ⟨gb264, 5, none⟩) (Kd.R_far (p := ⟨gb264, 4, none⟩) (Kd.R_far (p := ⟨gb264, 3, none⟩) (Kd.R_far (p := ⟨gb264, 2, none⟩) (Kd.R_far (p := ⟨gb264, 1, none⟩) (Kd.R_far (p := ⟨gb264, 0, none⟩) (Kd.R_types HO_219002.out BK264.out (by decide)) (fun _ hk => hk.2) (.int .i64 t247)) (fun _ hk => hk.2) (.int .i64 t248)) (fun _ hk => hk.2) (.slice Ao47 t249.length co47)) (fun _ hk => hk.2) (.slice Ao48 t252.length co48)) (fun _ hk => hk.2) (.int .i64 t255)) (fun _ hk => hk.2) (.int .i64 t256)) (fun _ hk => hk.2) (.slice Ao49 t257.length co49)) (fun _ hk => hk.2) (.slice Ao50 t260.length co50)) (fun _ hk => ⟨hk.1.1.2, hk.1.2⟩)⟩, ⟨by (with_reducible repeat (first | apply rrA | apply rrN | apply rrD)); exact Kd.R_mono (Kd.R_far (p := ⟨gb264, 7, none⟩) (Kd.R_far (p := ⟨gb264, 6, none⟩) (Kd.R_far (p := ⟨gb264, 5, none⟩) (Kd.R_far (p := ⟨gb264, 4, none⟩) (Kd.R_far (p := ⟨gb264, 3, none⟩) (Kd.R_far (p := ⟨gb264, 2, none⟩) (Kd.R_far (p := ⟨gb264, 1, none⟩) (Kd.R_far (p := ⟨gb264, 0, none⟩) (Kd.R_types HO_219003.out BK264.out (by decide)) (fun _ hk => hk.2) (.int .i64 t247)) (fun _ hk => hk.2) (.int .i64 t248)) (fun _ hk => hk.2) (.slice Ao47 t249.length co47)) (fun _ hk => hk.2) (.slice Ao48 t252.length co48)) (fun _ hk => hk.2) (.int .i64 t255)) (fun _ hk => hk.2) (.int .i64 t256)) (fun _ hk => hk.2) (.slice Ao49 t257.length co49)) (fun _ hk => hk.2) (.slice Ao50 t260.length co50)) (fun _ hk => ⟨hk.1.1.1.2, hk.1.2⟩)⟩, ⟨by (with_reducible repeat (first | apply rrA | apply rrN | apply rrD)); exact Kd.R_mono (Kd.R_far (p := ⟨gb264, 7, none⟩) (Kd.R_far (p := ⟨gb264, 6, none⟩) (Kd.R_far (p := ⟨gb264, 5, none⟩) (Kd.R_far (p := ⟨gb264, 4, none⟩) (Kd.R_far (p := ⟨gb264, 3, none⟩) (Kd.R_far (p := ⟨gb264, 2, none⟩) (Kd.R_far (p := ⟨gb264, 1, none⟩) (Kd.R_far (p := ⟨gb264, 0, none⟩) (Kd.R_types HO_219006.out BK264.out (by decide)) (fun _ hk => hk.2) (.int .i64 t247)) (fun _ hk => hk.2) (.int .i64 t248)) (fun _ hk => hk.2) (.slice Ao47 t249.length co47)) (fun _ hk => hk.2) (.slice Ao48 t252.length co48)) (fun _ hk => hk.2) (.int .i64 t255)) (fun _ hk => hk.2) (.int .i64 t256)) (fun _ hk => hk.2) (.slice Ao49 t257.length co49)) (fun _ hk => hk.2) (.slice Ao50 t260.length co50)) (fun _ hk => ⟨hk.1.1.2, hk.1.2⟩)⟩, ⟨by (with_reducible repeat (first | apply rrA | apply rrN | apply rrD)); exact Kd.R_mono (Kd.R_far (p := ⟨gb264, 7, none⟩) (Kd.R_far (p := ⟨gb264, 6, none⟩) (Kd.R_far (p := ⟨gb264, 5, none⟩) (Kd.R_far (p := ⟨gb264, 4, none⟩) (Kd.R_far (p := ⟨gb264, 3, none⟩) (Kd.R_far (p := ⟨gb264, 2, none⟩) (Kd.R_far (p := ⟨gb264, 1, none⟩) (Kd.R_far (p := ⟨gb264, 0, none⟩) (Kd.R_types HO_219007.out BK264.out (by decide)) (fun _ hk => hk.2) (.int .i64 t247)) (fun _ hk => hk.2) (.int .i64 t248)) (fun _ hk => hk.2) (.slice Ao47 t249.length co47)) (fun _ hk => hk.2) (.slice Ao48 t252.length co48)) (fun _ hk => hk.2) (.int .i64 t255)) (fun _ hk => hk.2) (.int .i64 t256)) (fun _ hk => hk.2) (.slice Ao49 t257.length co49)) (fun _ hk => hk.2) (.slice Ao50 t260.length co50)) (fun _ hk => ⟨hk.1.1.2, hk.1.2⟩)⟩, ⟨by (with_reducible repeat (first | apply rrA | apply rrN | apply rrD)); exact Kd.R_mono (Kd.R_far (p := ⟨gb264, 7, none⟩) (Kd.R_far (p := ⟨gb264, 6, none⟩) (Kd.R_far (p := ⟨gb264, 5, none⟩) (Kd.R_far (p := ⟨gb264, 4, none⟩) (Kd.R_far (p := ⟨gb264, 3, none⟩) (Kd.R_far (p := ⟨gb264, 2, none⟩) (Kd.R_far (p := ⟨gb264, 1, none⟩) (Kd.R_far (p := ⟨gb264, 0, none⟩) (Kd.R_types HO227.out BK264.out (by decide)) (fun _ hk => hk.2) (.int .i64 t247)) (fun _ hk => hk.2) (.int .i64 t248)) (fun _ hk => hk.2) (.slice Ao47 t249.length co47)) (fun _ hk => hk.2) (.slice Ao48 t252.length co48)) (fun _ hk => hk.2) (.int .i64 t255)) (fun _ hk => hk.2) (.int .i64 t256)) (fun _ hk => hk.2) (.slice Ao49 t257.length co49)) (fun _ hk => hk.2) (.slice Ao50 t260.length co50)) (fun _ hk => ⟨hk.1.1.2, hk.1.2⟩)⟩, ⟨by (with_reducible repeat (first | apply rrA | apply rrN | apply rrD)); exact Kd.R_mono (Kd.R_far (p := ⟨gb264, 7, none⟩) (Kd.R_far (p := ⟨gb264, 6, none⟩) (Kd.R_far (p := ⟨gb264, 5, none⟩) (Kd.R_far (p := ⟨gb264, 4, none⟩) (Kd.R_far (p := ⟨gb264, 3, none⟩) (Kd.R_far (p := ⟨gb264, 2, none⟩) (Kd.R_far (p := ⟨gb264, 1, none⟩) (Kd.R_far (p := ⟨gb264, 0, none⟩) (Kd.R_types HO230.out BK264.out (by decide)) (fun _ hk => hk.2) (.int .i64 t247)) (fun _ hk => hk.2) (.int .i64 t248)) (fun _ hk => hk.2) (.slice Ao47 t249.length co47)) (fun _ hk => hk.2) (.slice Ao48 t252.length co48)) (fun _ hk => hk.2) (.int .i64 t255)) (fun _ hk => hk.2) (.int .i64 t256)) (fun _ hk => hk.2) (.slice Ao49 t257.length co49)) (fun _ hk => hk.2) (.slice Ao50 t260.length co50)) (fun _ hk => ⟨hk.1.1.1.2, hk.1.2⟩)⟩, ⟨by (with_reducible repeat (first | apply rrA | apply rrN | apply rrD)); exact Kd.R_mono (Kd.R_far (p := ⟨gb264, 7, none⟩) (Kd.R_far (p := ⟨gb264, 6, none⟩) (Kd.R_far (p := ⟨gb264, 5, none⟩) (Kd.R_far (p := ⟨gb264, 4, none⟩) (Kd.R_far (p := ⟨gb264, 3, none⟩) (Kd.R_far (p := ⟨gb264, 2, none⟩) (Kd.R_far (p := ⟨gb264, 1, none⟩) (Kd.R_far (p := ⟨gb264, 0, none⟩) (Kd.R_types HO235.out BK264.out (by decide)) (fun _ hk => hk.2) (.int .i64 t247)) (fun _ hk => hk.2) (.int .i64 t248)) (fun _ hk => hk.2) (.slice Ao47 t249.length co47)) (fun _ hk => hk.2) (.slice Ao48 t252.length co48)) (fun _ hk => hk.2) (.int .i64 t255)) (fun _ hk => hk.2) (.int .i64 t256)) (fun _ hk => hk.2) (.slice Ao49 t257.length co49)) (fun _ hk => hk.2) (.slice Ao50 t260.length co50)) (fun _ hk => ⟨hk.1.1.2, hk.1.2⟩)⟩, ⟨by (with_reducible repeat (first | apply rrA | apply rrN | apply rrD)); exact Kd.R_mono (Kd.R_far (p := ⟨gb264, 7, none⟩) (Kd.R_far (p := ⟨gb264, 6, none⟩) (Kd.R_far (p := ⟨gb264, 5, none⟩) (Kd.R_far (p := ⟨gb264, 4, none⟩) (Kd.R_far (p := ⟨gb264, 3, none⟩) (Kd.R_far (p := ⟨gb264, 2, none⟩) (Kd.R_far (p := ⟨gb264, 1, none⟩) (Kd.R_far (p := ⟨gb264, 0, none⟩) (Kd.R_types HO238.out BK264.out (by decide)) (fun _ hk => hk.2) (.int .i64 t247)) (fun _ hk => hk.2) (.int .i64 t248)) (fun _ hk => hk.2) (.slice Ao47 t249.length co47)) (fun _ hk => hk.2) (.slice Ao48 t252.length co48)) (fun _ hk => hk.2) (.int .i64 t255)) (fun _ hk => hk.2) (.int .i64 t256)) (fun _ hk => hk.2) (.slice Ao49 t257.length co49)) (fun _ hk => hk.2) (.slice Ao50 t260.length co50)) (fun _ hk => ⟨hk.1.1.2, hk.1.2⟩)⟩, ⟨by (with_reducible repeat (first | apply rrA | apply rrN | apply rrD)); exact Kd.R_mono (Kd.R_far (p := ⟨gb264, 7, none⟩) (Kd.R_far (p := ⟨gb264, 6, none⟩) (Kd.R_far (p := ⟨gb264, 5, none⟩) (Kd.R_far (p := ⟨gb264, 4, none⟩) (Kd.R_far (p := ⟨gb264, 3, none⟩) (Kd.R_far (p := ⟨gb264, 2, none⟩) (Kd.R_far (p := ⟨gb264, 1, none⟩) (Kd.R_far (p := ⟨gb264, 0, none⟩) (Kd.R_types HO251.out BK264.out (by decide)) (fun _ hk => hk.2) (.int .i64 t247)) (fun _ hk => hk.2) (.int .i64 t248)) (fun _ hk => hk.2) (.slice Ao47 t249.length co47)) (fun _ hk => hk.2) (.slice Ao48 t252.length co48)) (fun _ hk => hk.2) (.int .i64 t255)) (fun _ hk => hk.2) (.int .i64 t256)) (fun _ hk => hk.2) (.slice Ao49 t257.length co49)) (fun _ hk => hk.2) (.slice Ao50 t260.length co50)) (fun _ hk => ⟨hk.1.1.2, hk.1.2⟩)⟩, ⟨by (with_reducible repeat (first | apply rrA | apply rrN | apply rrD)); exact Kd.R_mono (Kd.R_far (p := ⟨gb264, 7, none⟩) (Kd.R_far (p := ⟨gb264, 6, none⟩) (Kd.R_far (p := ⟨gb264, 5, none⟩) (Kd.R_far (p := ⟨gb264, 4, none⟩) (Kd.R_far (p := ⟨gb264, 3, none⟩) (Kd.R_far (p := ⟨gb264, 2, none⟩) (Kd.R_far (p := ⟨gb264, 1, none⟩) (Kd.R_far (p := ⟨gb264, 0, none⟩) (Kd.R_types HO254.out BK264.out (by decide)) (fun _ hk => hk.2) (.int .i64 t247)) (fun _ hk => hk.2) (.int .i64 t248)) (fun _ hk => hk.2) (.slice Ao47 t249.length co47)) (fun _ hk => hk.2) (.slice Ao48 t252.length co48)) (fun _ hk => hk.2) (.int .i64 t255)) (fun _ hk => hk.2) (.int .i64 t256)) (fun _ hk => hk.2) (.slice Ao49 t257.length co49)) (fun _ hk => hk.2) (.slice Ao50 t260.length co50)) (fun _ hk => ⟨hk.1.1.1.2, hk.1.1.2⟩)⟩, ⟨by (with_reducible repeat (first | apply rrA | apply rrN | apply rrD)); exact Kd.R_mono (Kd.R_far (p := ⟨gb264, 7, none⟩) (Kd.R_far (p := ⟨gb264, 6, none⟩) (Kd.R_far (p := ⟨gb264, 5, none⟩) (Kd.R_far (p := ⟨gb264, 4, none⟩) (Kd.R_far (p := ⟨gb264, 3, none⟩) (Kd.R_far (p := ⟨gb264, 2, none⟩) (Kd.R_far (p := ⟨gb264, 1, none⟩) (Kd.R_far (p := ⟨gb264, 0, none⟩) (Kd.R_types HO259.out BK264.out (by decide)) (fun _ hk => hk.2) (.int .i64 t247)) (fun _ hk => hk.2) (.int .i64 t248)) (fun _ hk => hk.2) (.slice Ao47 t249.length co47)) (fun _ hk => hk.2) (.slice Ao48 t252.length co48)) (fun _ hk => hk.2) (.int .i64 t255)) (fun _ hk => hk.2) (.int .i64 t256)) (fun _ hk => hk.2) (.slice Ao49 t257.length co49)) (fun _ hk => hk.2) (.slice Ao50 t260.length co50)) (fun _ hk => ⟨hk.1.1.2, hk.1.2⟩)⟩, ⟨by (with_reducible repeat (first | apply rrA | apply rrN | apply rrD)); exact Kd.R_mono (Kd.R_far (p := ⟨gb264, 7, none⟩) (Kd.R_far (p := ⟨gb264, 6, none⟩) (Kd.R_far (p := ⟨gb264, 5, none⟩) (Kd.R_far (p := ⟨gb264, 4, none⟩) (Kd.R_far (p := ⟨gb264, 3, none⟩) (Kd.R_far (p := ⟨gb264, 2, none⟩) (Kd.R_far (p := ⟨gb264, 1, none⟩) (Kd.R_far (p := ⟨gb264, 0, none⟩) (Kd.R_types HO262.out BK264.out (by decide)) (fun _ hk => hk.2) (.int .i64 t247)) (fun _ hk => hk.2) (.int .i64 t248)) (fun _ hk => hk.2) (.slice Ao47 t249.length co47)) (fun _ hk => hk.2) (.slice Ao48 t252.length co48)) (fun _ hk => hk.2) (.int .i64 t255)) (fun _ hk => hk.2) (.int .i64 t256)) (fun _ hk => hk.2) (.slice Ao49 t257.length co49)) (fun _ hk => hk.2) (.slice Ao50 t260.length co50)) (fun _ hk => ⟨hk.1.1.2, hk.1.2⟩)⟩, ⟨by (with_reducible repeat (first | refine kkN ?_ _ | refine kkD ?_ | refine kkA ?_ _)); refine blk_far ?_ NB218_264.out _; (with_reducible repeat (first | refine kkN ?_ _ | refine kkD ?_ | refine kkA ?_ _)); refine blk_far ?_ NB218_264.out _; (with_reducible repeat (first | refine kkN ?_ _ | refine kkD ?_ | refine kkA ?_ _)); refine blk_far ?_ NB218_264.out _; (with_reducible repeat (first | refine kkN ?_ _ | refine kkD ?_ | refine kkA ?_ _)); refine blk_far ?_ NB218_264.out _; (with_reducible repeat (first | refine kkN ?_ _ | refine kkD ?_ | refine kkA ?_ _)); refine blk_far ?_ NB218_264.out _; (with_reducible repeat (first | refine kkN ?_ _ | refine kkD ?_ | refine kkA ?_ _)); refine blk_far ?_ NB218_264.out _; (with_reducible repeat (first | refine kkN ?_ _ | refine kkD ?_ | refine kkA ?_ _)); refine blk_far ?_ NB218_264.out _; (with_reducible repeat (first | refine kkN ?_ _ | refine kkD ?_ | refine kkA ?_ _)); refine blk_far ?_ NB218_264.out _; (with_reducible repeat (first | refine kkN ?_ _ | refine kkD ?_ | refine kkA ?_ _)); exact BK218.out⟩, ⟨by (with_reducible repeat (first | refine kkN ?_ _ | refine kkD ?_ | refine kkA ?_ _)); refine blk_far ?_ NB240_264.out _; (with_reducible repeat (first | refine kkN ?_ _ | refine kkD ?_ | refine kkA ?_ _)); refine blk_far ?_ NB240_264.out _; (with_reducible repeat (first | refine kkN ?_ _ | refine kkD ?_ | refine kkA ?_ _)); refine blk_far ?_ NB240_264.out _; (with_reducible repeat (first | refine kkN ?_ _ | refine kkD ?_ | refine kkA ?_ _)); refine blk_far ?_ NB240_264.out _; (with_reducible repeat (first | refine kkN ?_ _ | refine kkD ?_ | refine kkA ?_ _)); refine blk_far ?_ NB240_264.out _; (with_reducible repeat (first | refine kkN ?_ _ | refine kkD ?_ | refine kkA ?_ _)); refine blk_far ?_ NB240_264.out _; (with_reducible repeat (first | refine kkN ?_ _ | refine kkD ?_ | refine kkA ?_ _)); refine blk_far ?_ NB240_264.out _; (with_reducible repeat (first | refine kkN ?_ _ | refine kkD ?_ | refine kkA ?_ _)); refine blk_far ?_ NB240_264.out _; (with_reducible repeat (first | refine kkN ?_ _ | refine kkD ?_ | refine kkA ?_ _)); exact BK240.out⟩, ⟨by (with_reducible repeat (first | refine kkN ?_ _ | refine kkD ?_ | refine kkA ?_ _)); refine blk_put (cs := #[.int .i64 t247, .int .i64 t248, .slice Ao47 t249.length co47, .slice Ao48 t252.length co48, .int .i64 t255, .int .i64 t256, .slice Ao49 t257.length co49, .slice none 0 0]) ?_ 7 _ rfl; (with_reducible repeat (first | refine kkN ?_ _ | refine kkD ?_ | refine kkA ?_ _)); refine blk_put (cs := #[.int .i64 t247, .int .i64 t248, .slice Ao47 t249.length co47, .slice Ao48 t252.length co48, .int .i64 t255, .int .i64 t256, .slice none 0 0, .slice none 0 0]) ?_ 6 _ rfl; (with_reducible repeat (first | refine kkN ?_ _ | refine kkD ?_ | refine kkA ?_ _)); refine blk_put (cs := #[.int .i64 t247, .int .i64 t248, .slice Ao47 t249.length co47, .slice Ao48 t252.length co48, .int .i64 t255, .int .i64 0, .slice none 0 0, .slice none 0 0]) ?_ 5 _ rfl; (with_reducible repeat (first | refine kkN ?_ _ | refine kkD ?_ | refine kkA ?_ _)); refine blk_put (cs := #[.int .i64 t247, .int .i64 t248, .slice Ao47 t249.length co47, .slice Ao48 t252.length co48, .int .i64 0, .int .i64 0, .slice none 0 0, .slice none 0 0]) ?_ 4 _ rfl; (with_reducible repeat (first | refine kkN ?_ _ | refine kkD ?_ | refine kkA ?_ _)); refine blk_put (cs := #[.int .i64 t247, .int .i64 t248, .slice Ao47 t249.length co47, .slice none 0 0, .int .i64 0, .int .i64 0, .slice none 0 0, .slice none 0 0]) ?_ 3 _ rfl; (with_reducible repeat (first | refine kkN ?_ _ | refine kkD ?_ | refine kkA ?_ _)); refine blk_put (cs := #[.int .i64 t247, .int .i64 t248, .slice none 0 0, .slice none 0 0, .int .i64 0, .int .i64 0, .slice none 0 0, .slice none 0 0]) ?_ 2 _ rfl; (with_reducible repeat (first | refine kkN ?_ _ | refine kkD ?_ | refine kkA ?_ _)); refine blk_put (cs := #[.int .i64 t247, .int .i64 0, .slice none 0 0, .slice none 0 0, .int .i64 0, .int .i64 0, .slice none 0 0, .slice none 0 0]) ?_ 1 _ rfl; (with_reducible repeat (first | refine kkN ?_ _ | refine kkD ?_ | refine kkA ?_ _)); refine blk_put (cs := #[.int .i64 0, .int .i64 0, .slice none 0 0, .slice none 0 0, .int .i64 0, .int .i64 0, .slice none 0 0, .slice none 0 0]) ?_ 0 _ rfl; (with_reducible repeat (first | refine kkN ?_ _ | refine kkD ?_ | refine kkA ?_ _)); exact BK264.out⟩, ⟨by repeat (first | (with_reducible first | exact HB.out | apply zzA | apply zzN | apply zzD | refine below_set ?_ GE218.out | refine below_set ?_ GE240.out | refine below_set ?_ GE264.out) | exact HB.out)⟩⟩
           ·
            rw [if_neg c51] at H
            exact (thrumlaw10_QuantTurned.j2_not (H.trans (by rw [HR_.out]))).elim
          case rest =>
           clear HC29
           try clear c1
           try clear c2
           try clear p2
           try clear q2
           try clear hx2
           try clear c3
           try clear c4
           try clear c5
           try clear c6
           try clear p6
           try clear c8
           try clear c10
           try clear c11
           try clear c20
           try clear c20b0
           try clear c21
           try clear c21b0
           try clear p21
           try clear q21
           try clear hx21
           try clear c22
           try clear c22b0
           try clear c23
           try clear c26
           try clear c27
           try clear c33
           try clear c44
           try clear c45
           try clear c51
           try clear c51b0
           try clear c51b1
           try clear hcz15_0
           try clear hcz15_1
           try clear hcz15_2
           try clear hcz15_3
           try clear hcz15_4
           try clear hcz15_5
           try clear hcz15_6
           try clear hcz15_7
           try clear hcz34_0
           try clear hcz34_1
           try clear hcz34_2
           try clear hcz34_3
           try clear hcz34_4
           try clear hcz34_5
           try clear hcz34_6
           try clear hcz34_7
           try clear hcz46_0
           try clear hcz46_1
           try clear hcz46_2
           try clear hcz46_3
           try clear hcz46_4
           try clear hcz46_5
           try clear hcz46_6
           try clear hcz46_7
           try clear hfz15_0
           try clear hfz15_1
           try clear hfz15_2
           try clear hfz15_3
           try clear hfz15_4
           try clear hfz15_5
           try clear hfz15_6
           try clear hfz15_7
           try clear hfz34_0
           try clear hfz34_1
           try clear hfz34_2
           try clear hfz34_3
           try clear hfz34_4
           try clear hfz34_5
           try clear hfz34_6
           try clear hfz34_7
           try clear hfz46_0
           try clear hfz46_1
           try clear hfz46_2
           try clear hfz46_3
           try clear hfz46_4
           try clear hfz46_5
           try clear hfz46_6
           try clear hfz46_7
           try clear hx219_0
           try clear p2
           try clear p219
           try clear q219
           obtain ⟨kq, x80_28, rfl, HA, HJ28, HO_219002, HO_219003, HO_219006, HO_219007, HO_241002, HO_241003, HO_241006, HO_241007, HO_265002, HO_265003, HO_265006, HO_265007, BK218, BK240, BK264, HB⟩ := hcut
           cases kq with
           | zero => exact absurd HA.out (by simp [thrumlaw10_QuantTurned.j2])
           | succ kj28 =>
            have H := HA.out
            clear HA
            simp only [thrumlaw10_QuantTurned.j2] at H
            by_cases c52 : x80_28 = true
            ·
             subst c52
             have H1 : (some false) = some r := by rw [if_pos rfl] at H; exact H
             exact absurd (Option.some.inj H1) (by rw [HR_.out]; decide)
            ·
             replace c52 := Bool.eq_false_iff.mpr c52
             subst c52
             have H1 : (if t217 = 0 then (if t209 = t231 then (if t209 = t255 then (if (t211.length : Int) = (l0.length : Int) then (if (t233.length : Int) = (l0.length : Int) then (if (t257.length : Int) = (wrap64 (2 * (l0.length : Int))) then (if (t214.length : Int) = (l0.length : Int) then (if (t236.length : Int) = (l0.length : Int) then (thrumlaw10_QuantTurned.j3 kj28 l0 true ((t260.length : Int) != (wrap64 (2 * (l0.length : Int)))) t201 t202 t203 t206 t209 t210 t211 t214 t223 t224 t225 t228 t231 t232 t233 t236 t247 t248 t249 t252 t255 t256 t257 t260) else (thrumlaw10_QuantTurned.j3 kj28 l0 true true t201 t202 t203 t206 t209 t210 t211 t214 t223 t224 t225 t228 t231 t232 t233 t236 t247 t248 t249 t252 t255 t256 t257 t260)) else (thrumlaw10_QuantTurned.j3 kj28 l0 true true t201 t202 t203 t206 t209 t210 t211 t214 t223 t224 t225 t228 t231 t232 t233 t236 t247 t248 t249 t252 t255 t256 t257 t260)) else (thrumlaw10_QuantTurned.j3 kj28 l0 true true t201 t202 t203 t206 t209 t210 t211 t214 t223 t224 t225 t228 t231 t232 t233 t236 t247 t248 t249 t252 t255 t256 t257 t260)) else (thrumlaw10_QuantTurned.j3 kj28 l0 true true t201 t202 t203 t206 t209 t210 t211 t214 t223 t224 t225 t228 t231 t232 t233 t236 t247 t248 t249 t252 t255 t256 t257 t260)) else (thrumlaw10_QuantTurned.j3 kj28 l0 true true t201 t202 t203 t206 t209 t210 t211 t214 t223 t224 t225 t228 t231 t232 t233 t236 t247 t248 t249 t252 t255 t256 t257 t260)) else (thrumlaw10_QuantTurned.j3 kj28 l0 true true t201 t202 t203 t206 t209 t210 t211 t214 t223 t224 t225 t228 t231 t232 t233 t236 t247 t248 t249 t252 t255 t256 t257 t260)) else (thrumlaw10_QuantTurned.j3 kj28 l0 true true t201 t202 t203 t206 t209 t210 t211 t214 t223 t224 t225 t228 t231 t232 t233 t236 t247 t248 t249 t252 t255 t256 t257 t260)) else (some true)) = some r := by rw [if_neg (show ¬ (false = true) by decide)] at H; exact H
             clear H
             have H := H1
             clear H1
             by_cases c53 : t217 = 0
             ·
              rw [if_pos c53] at H
              have c53b0 : (t217 == 0) = true := beq_iff_eq.mpr c53
              have c53b1 : (t217 != 0) = false := bne_eq_false_iff_eq.mpr c53
              clear c53
              have HC54 := Aside0.mk H
              clear H
              go_upto_region 19 with (fail)
              repeat (go_quiet (fail); go_upto_region 19 with (fail))
              go_cut [145] (fun v145 wc => ∃ (kq : Nat) (x145_53 : Bool), v145 = .bool x145_53 ∧ Aside0 (thrumlaw10_QuantTurned.j3 kq l0 true x145_53 t201 t202 t203 t206 t209 t210 t211 t214 t223 t224 t225 t228 t231 t232 t233 t236 t247 t248 t249 t252 t255 t256 t257 t260 = some r) ∧ Aside0 (kq ≤ kj28) ∧ Aside0 (Kd.R (Kd.int .i64) 3 wc w.heap.size (fun k_ => some k_ ≠ ((.slice Ao35 t225.length co35) : Value).ownBlock ∧ some k_ ≠ ((.slice Ao47 t249.length co47) : Value).ownBlock) (.slice Ao16 t203.length co16) t203) ∧ Aside0 (Kd.R (Kd.int .i64) 2 wc w.heap.size (fun k_ => some k_ ≠ ((.slice Ao36 t228.length co36) : Value).ownBlock ∧ some k_ ≠ ((.slice Ao48 t252.length co48) : Value).ownBlock) (.slice Ao17 t206.length co17) t206) ∧ Aside0 (Kd.R (Kd.int .u64) 64 wc w.heap.size (fun k_ => some k_ ≠ ((.slice Ao37 t233.length co37) : Value).ownBlock ∧ some k_ ≠ ((.slice Ao49 t257.length co49) : Value).ownBlock) (.slice Ao18 t211.length co18) t211) ∧ Aside0 (Kd.R Kd.bool 4 wc w.heap.size (fun k_ => some k_ ≠ ((.slice Ao38 t236.length co38) : Value).ownBlock ∧ some k_ ≠ ((.slice Ao50 t260.length co50) : Value).ownBlock) (.slice Ao19 t214.length co19) t214) ∧ Aside0 (Kd.R (Kd.int .i64) 3 wc w.heap.size (fun k_ => some k_ ≠ ((.slice Ao16 t203.length co16) : Value).ownBlock ∧ some k_ ≠ ((.slice Ao47 t249.length co47) : Value).ownBlock) (.slice Ao35 t225.length co35) t225) ∧ Aside0 (Kd.R (Kd.int .i64) 2 wc w.heap.size (fun k_ => some k_ ≠ ((.slice Ao17 t206.length co17) : Value).ownBlock ∧ some k_ ≠ ((.slice Ao48 t252.length co48) : Value).ownBlock) (.slice Ao36 t228.length co36) t228) ∧ Aside0 (Kd.R (Kd.int .u64) 64 wc w.heap.size (fun k_ => some k_ ≠ ((.slice Ao18 t211.length co18) : Value).ownBlock ∧ some k_ ≠ ((.slice Ao49 t257.length co49) : Value).ownBlock) (.slice Ao37 t233.length co37) t233) ∧ Aside0 (Kd.R Kd.bool 4 wc w.heap.size (fun k_ => some k_ ≠ ((.slice Ao19 t214.length co19) : Value).ownBlock ∧ some k_ ≠ ((.slice Ao50 t260.length co50) : Value).ownBlock) (.slice Ao38 t236.length co38) t236) ∧ Aside0 (Kd.R (Kd.int .i64) 3 wc w.heap.size (fun k_ => some k_ ≠ ((.slice Ao16 t203.length co16) : Value).ownBlock ∧ some k_ ≠ ((.slice Ao35 t225.length co35) : Value).ownBlock) (.slice Ao47 t249.length co47) t249) ∧ Aside0 (Kd.R (Kd.int .i64) 2 wc w.heap.size (fun k_ => some k_ ≠ ((.slice Ao17 t206.length co17) : Value).ownBlock ∧ some k_ ≠ ((.slice Ao36 t228.length co36) : Value).ownBlock) (.slice Ao48 t252.length co48) t252) ∧ Aside0 (Kd.R (Kd.int .u64) 64 wc w.heap.size (fun k_ => some k_ ≠ ((.slice Ao18 t211.length co18) : Value).ownBlock ∧ some k_ ≠ ((.slice Ao37 t233.length co37) : Value).ownBlock) (.slice Ao49 t257.length co49) t257) ∧ Aside0 (Kd.R Kd.bool 4 wc w.heap.size (fun k_ => some k_ ≠ ((.slice Ao19 t214.length co19) : Value).ownBlock ∧ some k_ ≠ ((.slice Ao38 t236.length co38) : Value).ownBlock) (.slice Ao50 t260.length co50) t260) ∧ Aside0 (wc.heap[gb218]? = some (.cells #[.int .i64 t201, .int .i64 t202, (.slice Ao16 t203.length co16), (.slice Ao17 t206.length co17), .int .i64 t209, .int .i64 t210, (.slice Ao18 t211.length co18), (.slice Ao19 t214.length co19)] 30 (0, 0))) ∧ Aside0 (wc.heap[gb240]? = some (.cells #[.int .i64 t223, .int .i64 t224, (.slice Ao35 t225.length co35), (.slice Ao36 t228.length co36), .int .i64 t231, .int .i64 t232, (.slice Ao37 t233.length co37), (.slice Ao38 t236.length co38)] 30 (0, 0))) ∧ Aside0 (wc.heap[gb264]? = some (.cells #[.int .i64 t247, .int .i64 t248, (.slice Ao47 t249.length co47), (.slice Ao48 t252.length co48), .int .i64 t255, .int .i64 t256, (.slice Ao49 t257.length co49), (.slice Ao50 t260.length co50)] 30 (0, 0))) ∧ Aside0 (Below w.heap.size w wc))
              case first =>
               have H := HC54.out
               clear HC54
               by_cases c55 : t209 = t231
               ·
                rw [if_pos c55] at H
                have c55b0 : (t209 == t231) = true := beq_iff_eq.mpr c55
                have c55b1 : (t209 != t231) = false := bne_eq_false_iff_eq.mpr c55
                clear c55
                (first | rw [c55b0] | (simp only [i64_w, i32_w]; rw [c55b0]) | skip)
                by_cases c56 : t209 = t255
                ·
                 rw [if_pos c56] at H
                 have c56b0 : (t209 == t255) = true := beq_iff_eq.mpr c56
                 have c56b1 : (t209 != t255) = false := bne_eq_false_iff_eq.mpr c56
                 clear c56
                 by_cases c57 : (t211.length : Int) = (l0.length : Int)
                 ·
                  rw [if_pos c57] at H
                  have c57b0 : ((t211.length : Int) == (l0.length : Int)) = true := beq_iff_eq.mpr c57
                  have c57b1 : ((t211.length : Int) != (l0.length : Int)) = false := bne_eq_false_iff_eq.mpr c57
                  have c57b2 : (t211.length == l0.length) = true := by first | simpa using c57 | (simp at c57 ⊢; omega)
                  clear c57
                  by_cases c58 : (t233.length : Int) = (l0.length : Int)
                  ·
                   rw [if_pos c58] at H
                   have c58b0 : ((t233.length : Int) == (l0.length : Int)) = true := beq_iff_eq.mpr c58
                   have c58b1 : ((t233.length : Int) != (l0.length : Int)) = false := bne_eq_false_iff_eq.mpr c58
                   have c58b2 : (t233.length == l0.length) = true := by first | simpa using c58 | (simp at c58 ⊢; omega)
                   clear c58
                   by_cases c59 : (t257.length : Int) = (wrap64 (2 * (l0.length : Int)))
                   ·
                    rw [if_pos c59] at H
                    have c59b0 : ((t257.length : Int) == (wrap64 (2 * (l0.length : Int)))) = true := beq_iff_eq.mpr c59
                    have c59b1 : ((t257.length : Int) != (wrap64 (2 * (l0.length : Int)))) = false := bne_eq_false_iff_eq.mpr c59
                    clear c59
                    by_cases c60 : (t214.length : Int) = (l0.length : Int)
                    ·
                     rw [if_pos c60] at H
                     have c60b0 : ((t214.length : Int) == (l0.length : Int)) = true := beq_iff_eq.mpr c60
                     have c60b1 : ((t214.length : Int) != (l0.length : Int)) = false := bne_eq_false_iff_eq.mpr c60
                     have c60b2 : (t214.length == l0.length) = true := by first | simpa using c60 | (simp at c60 ⊢; omega)
                     clear c60
                     by_cases c61 : (t236.length : Int) = (l0.length : Int)
                     ·
                      rw [if_pos c61] at H
                      have c61b0 : ((t236.length : Int) == (l0.length : Int)) = true := beq_iff_eq.mpr c61
                      have c61b1 : ((t236.length : Int) != (l0.length : Int)) = false := bne_eq_false_iff_eq.mpr c61
                      have c61b2 : (t236.length == l0.length) = true := by first | simpa using c61 | (simp at c61 ⊢; omega)
                      clear c61
                      focus
                       have H' := Aside0.mk H
                       clear H
                       have hnb62 := NB218_240.out
                       have hnc62 := NB240_218.out
                       have hnb63 := NB218_264.out
                       have hnc63 := NB264_218.out
                       have hcz64_0 : wc.cell? ⟨gb218, 0, none⟩ = some (.int .i64 t201) := (blk_cell BK218.out 0).trans rfl
                       have hcz64_1 : wc.cell? ⟨gb218, 1, none⟩ = some (.int .i64 t202) := (blk_cell BK218.out 1).trans rfl
                       have hcz64_2 : wc.cell? ⟨gb218, 2, none⟩ = some (.slice Ao16 t203.length co16) := (blk_cell BK218.out 2).trans rfl
                       have hcz64_3 : wc.cell? ⟨gb218, 3, none⟩ = some (.slice Ao17 t206.length co17) := (blk_cell BK218.out 3).trans rfl
                       have hcz64_4 : wc.cell? ⟨gb218, 4, none⟩ = some (.int .i64 t209) := (blk_cell BK218.out 4).trans rfl
                       have hcz64_5 : wc.cell? ⟨gb218, 5, none⟩ = some (.int .i64 t210) := (blk_cell BK218.out 5).trans rfl
                       have hcz64_6 : wc.cell? ⟨gb218, 6, none⟩ = some (.slice Ao18 t211.length co18) := (blk_cell BK218.out 6).trans rfl
                       have hcz64_7 : wc.cell? ⟨gb218, 7, none⟩ = some (.slice Ao19 t214.length co19) := (blk_cell BK218.out 7).trans rfl
                       have hfz64_0 := blk_frozen BK218.out 0
                       have hfz64_1 := blk_frozen BK218.out 1
                       have hfz64_2 := blk_frozen BK218.out 2
                       have hfz64_3 := blk_frozen BK218.out 3
                       have hfz64_4 := blk_frozen BK218.out 4
                       have hfz64_5 := blk_frozen BK218.out 5
                       have hfz64_6 := blk_frozen BK218.out 6
                       have hfz64_7 := blk_frozen BK218.out 7
                       have hnb65 := NB240_264.out
                       have hnc65 := NB264_240.out
                       have hcz66_0 : wc.cell? ⟨gb240, 0, none⟩ = some (.int .i64 t223) := (blk_cell BK240.out 0).trans rfl
                       have hcz66_1 : wc.cell? ⟨gb240, 1, none⟩ = some (.int .i64 t224) := (blk_cell BK240.out 1).trans rfl
                       have hcz66_2 : wc.cell? ⟨gb240, 2, none⟩ = some (.slice Ao35 t225.length co35) := (blk_cell BK240.out 2).trans rfl
                       have hcz66_3 : wc.cell? ⟨gb240, 3, none⟩ = some (.slice Ao36 t228.length co36) := (blk_cell BK240.out 3).trans rfl
                       have hcz66_4 : wc.cell? ⟨gb240, 4, none⟩ = some (.int .i64 t231) := (blk_cell BK240.out 4).trans rfl
                       have hcz66_5 : wc.cell? ⟨gb240, 5, none⟩ = some (.int .i64 t232) := (blk_cell BK240.out 5).trans rfl
                       have hcz66_6 : wc.cell? ⟨gb240, 6, none⟩ = some (.slice Ao37 t233.length co37) := (blk_cell BK240.out 6).trans rfl
                       have hcz66_7 : wc.cell? ⟨gb240, 7, none⟩ = some (.slice Ao38 t236.length co38) := (blk_cell BK240.out 7).trans rfl
                       have hfz66_0 := blk_frozen BK240.out 0
                       have hfz66_1 := blk_frozen BK240.out 1
                       have hfz66_2 := blk_frozen BK240.out 2
                       have hfz66_3 := blk_frozen BK240.out 3
                       have hfz66_4 := blk_frozen BK240.out 4
                       have hfz66_5 := blk_frozen BK240.out 5
                       have hfz66_6 := blk_frozen BK240.out 6
                       have hfz66_7 := blk_frozen BK240.out 7
                       have hcz67_0 : wc.cell? ⟨gb264, 0, none⟩ = some (.int .i64 t247) := (blk_cell BK264.out 0).trans rfl
                       have hcz67_1 : wc.cell? ⟨gb264, 1, none⟩ = some (.int .i64 t248) := (blk_cell BK264.out 1).trans rfl
                       have hcz67_2 : wc.cell? ⟨gb264, 2, none⟩ = some (.slice Ao47 t249.length co47) := (blk_cell BK264.out 2).trans rfl
                       have hcz67_3 : wc.cell? ⟨gb264, 3, none⟩ = some (.slice Ao48 t252.length co48) := (blk_cell BK264.out 3).trans rfl
                       have hcz67_4 : wc.cell? ⟨gb264, 4, none⟩ = some (.int .i64 t255) := (blk_cell BK264.out 4).trans rfl
                       have hcz67_5 : wc.cell? ⟨gb264, 5, none⟩ = some (.int .i64 t256) := (blk_cell BK264.out 5).trans rfl
                       have hcz67_6 : wc.cell? ⟨gb264, 6, none⟩ = some (.slice Ao49 t257.length co49) := (blk_cell BK264.out 6).trans rfl
                       have hcz67_7 : wc.cell? ⟨gb264, 7, none⟩ = some (.slice Ao50 t260.length co50) := (blk_cell BK264.out 7).trans rfl
                       have hfz67_0 := blk_frozen BK264.out 0
                       have hfz67_1 := blk_frozen BK264.out 1
                       have hfz67_2 := blk_frozen BK264.out 2
                       have hfz67_3 := blk_frozen BK264.out 3
                       have hfz67_4 := blk_frozen BK264.out 4
                       have hfz67_5 := blk_frozen BK264.out 5
                       have hfz67_6 := blk_frozen BK264.out 6
                       have hfz67_7 := blk_frozen BK264.out 7
                       go_wp2
                       repeat (go_quiet (fail); try go_wp2)
                       go_meet
                       case rel => exact ⟨_, (((t260.length : Int) != (wrap64 (2 * (l0.length : Int))))), (by first | rfl | (simp; done) | (simp [*]; done)), H', ⟨by have := HJ6.out; have := HK2.out; have := HJ28.out; first | omega | exact Nat.le_refl _⟩, ⟨by (with_reducible repeat (first | apply rrA | apply rrN | apply rrD)); exact HO_219002.out⟩, ⟨by (with_reducible repeat (first | apply rrA | apply rrN | apply rrD)); exact HO_219003.out⟩, ⟨by (with_reducible repeat (first | apply rrA | apply rrN | apply rrD)); exact HO_219006.out⟩, ⟨by (with_reducible repeat (first | apply rrA | apply rrN | apply rrD)); exact HO_219007.out⟩, ⟨by (with_reducible repeat (first | apply rrA | apply rrN | apply rrD)); exact HO_241002.out⟩, ⟨by (with_reducible repeat (first | apply rrA | apply rrN | apply rrD)); exact HO_241003.out⟩, ⟨by (with_reducible repeat (first | apply rrA | apply rrN | apply rrD)); exact HO_241006.out⟩, ⟨by (with_reducible repeat (first | apply rrA | apply rrN | apply rrD)); exact HO_241007.out⟩, ⟨by (with_reducible repeat (first | apply rrA | apply rrN | apply rrD)); exact HO_265002.out⟩, ⟨by (with_reducible repeat (first | apply rrA | apply rrN | apply rrD)); exact HO_265003.out⟩, ⟨by (with_reducible repeat (first | apply rrA | apply rrN | apply rrD)); exact HO_265006.out⟩, ⟨by (with_reducible repeat (first | apply rrA | apply rrN | apply rrD)); exact HO_265007.out⟩, ⟨by (with_reducible repeat (first | refine kkN ?_ _ | refine kkD ?_ | refine kkA ?_ _)); exact BK218.out⟩, ⟨by (with_reducible repeat (first | refine kkN ?_ _ | refine kkD ?_ | refine kkA ?_ _)); exact BK240.out⟩, ⟨by (with_reducible repeat (first | refine kkN ?_ _ | refine kkD ?_ | refine kkA ?_ _)); exact BK264.out⟩, ⟨by repeat (first | (with_reducible first | exact HB.out | apply zzA | apply zzN | apply zzD | refine below_set ?_ GE218.out | refine below_set ?_ GE240.out | refine below_set ?_ GE264.out) | exact HB.out)⟩⟩
                     ·
                      rw [if_neg c61] at H
                      exact (thrumlaw10_QuantTurned.j3_not (H.trans (by rw [HR_.out]))).elim
                    ·
                     rw [if_neg c60] at H
                     exact (thrumlaw10_QuantTurned.j3_not (H.trans (by rw [HR_.out]))).elim
                   ·
                    rw [if_neg c59] at H
                    exact (thrumlaw10_QuantTurned.j3_not (H.trans (by rw [HR_.out]))).elim
                  ·
                   rw [if_neg c58] at H
                   exact (thrumlaw10_QuantTurned.j3_not (H.trans (by rw [HR_.out]))).elim
                 ·
                  rw [if_neg c57] at H
                  exact (thrumlaw10_QuantTurned.j3_not (H.trans (by rw [HR_.out]))).elim
                ·
                 rw [if_neg c56] at H
                 exact (thrumlaw10_QuantTurned.j3_not (H.trans (by rw [HR_.out]))).elim
               ·
                rw [if_neg c55] at H
                exact (thrumlaw10_QuantTurned.j3_not (H.trans (by rw [HR_.out]))).elim
              case rest =>
               clear HC54
               try clear c1
               try clear p2
               try clear q2
               try clear hx2
               try clear c5
               try clear c6
               try clear p6
               try clear c7
               try clear c8
               try clear c9
               try clear c10
               try clear p21
               try clear q21
               try clear hx21
               try clear c52
               try clear c53
               try clear c53b0
               try clear c53b1
               try clear c55
               try clear c55b0
               try clear c55b1
               try clear c56
               try clear c56b0
               try clear c56b1
               try clear c57
               try clear c57b0
               try clear c57b1
               try clear c57b2
               try clear c58
               try clear c58b0
               try clear c58b1
               try clear c58b2
               try clear c59
               try clear c59b0
               try clear c59b1
               try clear c60
               try clear c60b0
               try clear c60b1
               try clear c60b2
               try clear c61
               try clear c61b0
               try clear c61b1
               try clear c61b2
               try clear c62
               try clear c63
               try clear p64
               try clear c65
               try clear c68
               try clear c69
               try clear c71
               try clear c74
               try clear c75
               try clear c77
               try clear c80
               try clear c81
               try clear c83
               try clear c86
               try clear c87
               try clear c89
               try clear c92
               try clear c93
               try clear c95
               try clear c98
               try clear c99
               try clear c101
               try clear c104
               try clear c105
               try clear c107
               try clear hcz100_0
               try clear hcz100_1
               try clear hcz100_2
               try clear hcz100_3
               try clear hcz100_4
               try clear hcz100_5
               try clear hcz100_6
               try clear hcz100_7
               try clear hcz102_0
               try clear hcz102_1
               try clear hcz102_2
               try clear hcz102_3
               try clear hcz102_4
               try clear hcz102_5
               try clear hcz102_6
               try clear hcz102_7
               try clear hcz103_0
               try clear hcz103_1
               try clear hcz103_2
               try clear hcz103_3
               try clear hcz103_4
               try clear hcz103_5
               try clear hcz103_6
               try clear hcz103_7
               try clear hcz106_0
               try clear hcz106_1
               try clear hcz106_2
               try clear hcz106_3
               try clear hcz106_4
               try clear hcz106_5
               try clear hcz106_6
               try clear hcz106_7
               try clear hcz108_0
               try clear hcz108_1
               try clear hcz108_2
               try clear hcz108_3
               try clear hcz108_4
               try clear hcz108_5
               try clear hcz108_6
               try clear hcz108_7
               try clear hcz64_0
               try clear hcz64_1
               try clear hcz64_2
               try clear hcz64_3
               try clear hcz64_4
               try clear hcz64_5
               try clear hcz64_6
               try clear hcz64_7
               try clear hcz66_0
               try clear hcz66_1
               try clear hcz66_2
               try clear hcz66_3
               try clear hcz66_4
               try clear hcz66_5
               try clear hcz66_6
               try clear hcz66_7
               try clear hcz67_0
               try clear hcz67_1
               try clear hcz67_2
               try clear hcz67_3
               try clear hcz67_4
               try clear hcz67_5
               try clear hcz67_6
               try clear hcz67_7
               try clear hcz70_0
               try clear hcz70_1
               try clear hcz70_2
               try clear hcz70_3
               try clear hcz70_4
               try clear hcz70_5
               try clear hcz70_6
               try clear hcz70_7
               try clear hcz72_0
               try clear hcz72_1
               try clear hcz72_2
               try clear hcz72_3
               try clear hcz72_4
               try clear hcz72_5
               try clear hcz72_6
               try clear hcz72_7
               try clear hcz73_0
               try clear hcz73_1
               try clear hcz73_2
               try clear hcz73_3
               try clear hcz73_4
               try clear hcz73_5
               try clear hcz73_6
               try clear hcz73_7
               try clear hcz76_0
               try clear hcz76_1
               try clear hcz76_2
               try clear hcz76_3
               try clear hcz76_4
               try clear hcz76_5
               try clear hcz76_6
               try clear hcz76_7
               try clear hcz78_0
               try clear hcz78_1
               try clear hcz78_2
               try clear hcz78_3
               try clear hcz78_4
               try clear hcz78_5
               try clear hcz78_6
               try clear hcz78_7
               try clear hcz79_0
               try clear hcz79_1
               try clear hcz79_2
               try clear hcz79_3
               try clear hcz79_4
               try clear hcz79_5
               try clear hcz79_6
               try clear hcz79_7
               try clear hcz82_0
               try clear hcz82_1
               try clear hcz82_2
               try clear hcz82_3
               try clear hcz82_4
               try clear hcz82_5
               try clear hcz82_6
               try clear hcz82_7
               try clear hcz84_0
               try clear hcz84_1
               try clear hcz84_2
               try clear hcz84_3
               try clear hcz84_4
               try clear hcz84_5
               try clear hcz84_6
               try clear hcz84_7
               try clear hcz85_0
               try clear hcz85_1
               try clear hcz85_2
               try clear hcz85_3
               try clear hcz85_4
               try clear hcz85_5
               try clear hcz85_6
               try clear hcz85_7
               try clear hcz88_0
               try clear hcz88_1
               try clear hcz88_2
               try clear hcz88_3
               try clear hcz88_4
               try clear hcz88_5
               try clear hcz88_6
               try clear hcz88_7
               try clear hcz90_0
               try clear hcz90_1
               try clear hcz90_2
               try clear hcz90_3
               try clear hcz90_4
               try clear hcz90_5
               try clear hcz90_6
               try clear hcz90_7
               try clear hcz91_0
               try clear hcz91_1
               try clear hcz91_2
               try clear hcz91_3
               try clear hcz91_4
               try clear hcz91_5
               try clear hcz91_6
               try clear hcz91_7
               try clear hcz94_0
               try clear hcz94_1
               try clear hcz94_2
               try clear hcz94_3
               try clear hcz94_4
               try clear hcz94_5
               try clear hcz94_6
               try clear hcz94_7
               try clear hcz96_0
               try clear hcz96_1
               try clear hcz96_2
               try clear hcz96_3
               try clear hcz96_4
               try clear hcz96_5
               try clear hcz96_6
               try clear hcz96_7
               try clear hcz97_0
               try clear hcz97_1
               try clear hcz97_2
               try clear hcz97_3
               try clear hcz97_4
               try clear hcz97_5
               try clear hcz97_6
               try clear hcz97_7
               try clear hfz100_0
               try clear hfz100_1
               try clear hfz100_2
               try clear hfz100_3
               try clear hfz100_4
               try clear hfz100_5
               try clear hfz100_6
               try clear hfz100_7
               try clear hfz102_0
               try clear hfz102_1
               try clear hfz102_2
               try clear hfz102_3
               try clear hfz102_4
               try clear hfz102_5
               try clear hfz102_6
               try clear hfz102_7
               try clear hfz103_0
               try clear hfz103_1
               try clear hfz103_2
               try clear hfz103_3
               try clear hfz103_4
               try clear hfz103_5
               try clear hfz103_6
               try clear hfz103_7
               try clear hfz106_0
               try clear hfz106_1
               try clear hfz106_2
               try clear hfz106_3
               try clear hfz106_4
               try clear hfz106_5
               try clear hfz106_6
               try clear hfz106_7
               try clear hfz108_0
               try clear hfz108_1
               try clear hfz108_2
               try clear hfz108_3
               try clear hfz108_4
               try clear hfz108_5
               try clear hfz108_6
               try clear hfz108_7
               try clear hfz15_6
               try clear hfz15_7
               try clear hfz34_0
               try clear hfz34_1
               try clear hfz34_2
               try clear hfz34_3
               try clear hfz34_4
               try clear hfz34_5
               try clear hfz34_6
               try clear hfz34_7
               try clear hfz46_0
               try clear hfz46_1
               try clear hfz46_2
               try clear hfz46_3
               try clear hfz46_4
               try clear hfz46_5
               try clear hfz46_6
               try clear hfz46_7
               try clear hfz64_0
               try clear hfz64_1
               try clear hfz64_2
               try clear hfz64_3
               try clear hfz64_4
               try clear hfz64_5
               try clear hfz64_6
               try clear hfz64_7
               try clear hfz66_0
               try clear hfz66_1
               try clear hfz66_2
               try clear hfz66_3
               try clear hfz66_4
               try clear hfz66_5
               try clear hfz66_6
               try clear hfz66_7
               try clear hfz67_0
               try clear hfz67_1
               try clear hfz67_2
               try clear hfz67_3
               try clear hfz67_4
               try clear hfz67_5
               try clear hfz67_6
               try clear hfz67_7
               try clear hfz70_0
               try clear hfz70_1
               try clear hfz70_2
               try clear hfz70_3
               try clear hfz70_4
               try clear hfz70_5
               try clear hfz70_6
               try clear hfz70_7
               try clear hfz72_0
               try clear hfz72_1
               try clear hfz72_2
               try clear hfz72_3
               try clear hfz72_4
               try clear hfz72_5
               try clear hfz72_6
               try clear hfz72_7
               try clear hfz73_0
               try clear hfz73_1
               try clear hfz73_2
               try clear hfz73_3
               try clear hfz73_4
               try clear hfz73_5
               try clear hfz73_6
               try clear hfz73_7
               try clear hfz76_0
               try clear hfz76_1
               try clear hfz76_2
               try clear hfz76_3
               try clear hfz76_4
               try clear hfz76_5
               try clear hfz76_6
               try clear hfz76_7
               try clear hfz78_0
               try clear hfz78_1
               try clear hfz78_2
               try clear hfz78_3
               try clear hfz78_4
               try clear hfz78_5
               try clear hfz78_6
               try clear hfz78_7
               try clear hfz79_0
               try clear hfz79_1
               try clear hfz79_2
               try clear hfz79_3
               try clear hfz79_4
               try clear hfz79_5
               try clear hfz79_6
               try clear hfz79_7
               try clear hfz82_0
               try clear hfz82_1
               try clear hfz82_2
               try clear hfz82_3
               try clear hfz82_4
               try clear hfz82_5
               try clear hfz82_6
               try clear hfz82_7
               try clear hfz84_0
               try clear hfz84_1
               try clear hfz84_2
               try clear hfz84_3
               try clear hfz84_4
               try clear hfz84_5
               try clear hfz84_6
               try clear hfz84_7
               try clear hfz85_0
               try clear hfz85_1
               try clear hfz85_2
               try clear hfz85_3
               try clear hfz85_4
               try clear hfz85_5
               try clear hfz85_6
               try clear hfz85_7
               try clear hfz88_0
               try clear hfz88_1
               try clear hfz88_2
               try clear hfz88_3
               try clear hfz88_4
               try clear hfz88_5
               try clear hfz88_6
               try clear hfz88_7
               try clear hfz90_0
               try clear hfz90_1
               try clear hfz90_2
               try clear hfz90_3
               try clear hfz90_4
               try clear hfz90_5
               try clear hfz90_6
               try clear hfz90_7
               try clear hfz91_0
               try clear hfz91_1
               try clear hfz91_2
               try clear hfz91_3
               try clear hfz91_4
               try clear hfz91_5
               try clear hfz91_6
               try clear hfz91_7
               try clear hfz94_0
               try clear hfz94_1
               try clear hfz94_2
               try clear hfz94_3
               try clear hfz94_4
               try clear hfz94_5
               try clear hfz94_6
               try clear hfz94_7
               try clear hfz96_0
               try clear hfz96_1
               try clear hfz96_2
               try clear hfz96_3
               try clear hfz96_4
               try clear hfz96_5
               try clear hfz96_6
               try clear hfz96_7
               try clear hfz97_0
               try clear hfz97_1
               try clear hfz97_2
               try clear hfz97_3
               try clear hfz97_4
               try clear hfz97_5
               try clear hfz97_6
               try clear hfz97_7
               try clear hx219_0
               try clear p2
               try clear p219
               try clear q219
               obtain ⟨kq, x145_53, rfl, HA, HJ53, HO_219002, HO_219003, HO_219006, HO_219007, HO_241002, HO_241003, HO_241006, HO_241007, HO_265002, HO_265003, HO_265006, HO_265007, BK218, BK240, BK264, HB⟩ := hcut
               cases kq with
               | zero => exact absurd HA.out (by simp [thrumlaw10_QuantTurned.j3])
               | succ kj53 =>
                have H := HA.out
                clear HA
                simp only [thrumlaw10_QuantTurned.j3] at H
                by_cases c109 : x145_53 = true
                ·
                 subst c109
                 have H1 : (some false) = some r := by rw [if_pos rfl] at H; exact H
                 exact absurd (Option.some.inj H1) (by rw [HR_.out]; decide)
                ·
                 replace c109 := Bool.eq_false_iff.mpr c109
                 subst c109
                 have H1 : (thrumlaw10_QuantTurned.l1 kj53 true l0 (l0.length : Int) 0 t201 t202 t203 t206 t209 t210 t211 t214 t223 t224 t225 t228 t231 t232 t233 t236 t247 t248 t249 t252 t255 t256 t257 t260) = some r := by rw [if_neg (show ¬ (false = true) by decide)] at H; exact H
                 clear H
                 have H := H1
                 clear H1
                 have H' := Aside0.mk H
                 clear H
                 go_wp2
                 repeat (go_quiet (fail); try go_wp2)
                 go_loopg [148] kj53 (fun kq v148 w' => ∃ (x148_5 : Int), v148 = .int .i64 x148_5 ∧ Aside0 (thrumlaw10_QuantTurned.l1 kq true l0 (l0.length : Int) x148_5 t201 t202 t203 t206 t209 t210 t211 t214 t223 t224 t225 t228 t231 t232 t233 t236 t247 t248 t249 t252 t255 t256 t257 t260 = some r) ∧ Aside0 (kq ≤ kj53) ∧ Aside0 (Kd.R (Kd.int .i64) 3 w' w.heap.size (fun k_ => some k_ ≠ ((.slice Ao35 t225.length co35) : Value).ownBlock ∧ some k_ ≠ ((.slice Ao47 t249.length co47) : Value).ownBlock) (.slice Ao16 t203.length co16) t203) ∧ Aside0 (Kd.R (Kd.int .i64) 2 w' w.heap.size (fun k_ => some k_ ≠ ((.slice Ao36 t228.length co36) : Value).ownBlock ∧ some k_ ≠ ((.slice Ao48 t252.length co48) : Value).ownBlock) (.slice Ao17 t206.length co17) t206) ∧ Aside0 (Kd.R (Kd.int .u64) 64 w' w.heap.size (fun k_ => some k_ ≠ ((.slice Ao37 t233.length co37) : Value).ownBlock ∧ some k_ ≠ ((.slice Ao49 t257.length co49) : Value).ownBlock) (.slice Ao18 t211.length co18) t211) ∧ Aside0 (Kd.R Kd.bool 4 w' w.heap.size (fun k_ => some k_ ≠ ((.slice Ao38 t236.length co38) : Value).ownBlock ∧ some k_ ≠ ((.slice Ao50 t260.length co50) : Value).ownBlock) (.slice Ao19 t214.length co19) t214) ∧ Aside0 (Kd.R (Kd.int .i64) 3 w' w.heap.size (fun k_ => some k_ ≠ ((.slice Ao16 t203.length co16) : Value).ownBlock ∧ some k_ ≠ ((.slice Ao47 t249.length co47) : Value).ownBlock) (.slice Ao35 t225.length co35) t225) ∧ Aside0 (Kd.R (Kd.int .i64) 2 w' w.heap.size (fun k_ => some k_ ≠ ((.slice Ao17 t206.length co17) : Value).ownBlock ∧ some k_ ≠ ((.slice Ao48 t252.length co48) : Value).ownBlock) (.slice Ao36 t228.length co36) t228) ∧ Aside0 (Kd.R (Kd.int .u64) 64 w' w.heap.size (fun k_ => some k_ ≠ ((.slice Ao18 t211.length co18) : Value).ownBlock ∧ some k_ ≠ ((.slice Ao49 t257.length co49) : Value).ownBlock) (.slice Ao37 t233.length co37) t233) ∧ Aside0 (Kd.R Kd.bool 4 w' w.heap.size (fun k_ => some k_ ≠ ((.slice Ao19 t214.length co19) : Value).ownBlock ∧ some k_ ≠ ((.slice Ao50 t260.length co50) : Value).ownBlock) (.slice Ao38 t236.length co38) t236) ∧ Aside0 (Kd.R (Kd.int .i64) 3 w' w.heap.size (fun k_ => some k_ ≠ ((.slice Ao16 t203.length co16) : Value).ownBlock ∧ some k_ ≠ ((.slice Ao35 t225.length co35) : Value).ownBlock) (.slice Ao47 t249.length co47) t249) ∧ Aside0 (Kd.R (Kd.int .i64) 2 w' w.heap.size (fun k_ => some k_ ≠ ((.slice Ao17 t206.length co17) : Value).ownBlock ∧ some k_ ≠ ((.slice Ao36 t228.length co36) : Value).ownBlock) (.slice Ao48 t252.length co48) t252) ∧ Aside0 (Kd.R (Kd.int .u64) 64 w' w.heap.size (fun k_ => some k_ ≠ ((.slice Ao18 t211.length co18) : Value).ownBlock ∧ some k_ ≠ ((.slice Ao37 t233.length co37) : Value).ownBlock) (.slice Ao49 t257.length co49) t257) ∧ Aside0 (Kd.R Kd.bool 4 w' w.heap.size (fun k_ => some k_ ≠ ((.slice Ao19 t214.length co19) : Value).ownBlock ∧ some k_ ≠ ((.slice Ao38 t236.length co38) : Value).ownBlock) (.slice Ao50 t260.length co50) t260) ∧ Aside0 (w'.heap[gb218]? = some (.cells #[.int .i64 t201, .int .i64 t202, (.slice Ao16 t203.length co16), (.slice Ao17 t206.length co17), .int .i64 t209, .int .i64 t210, (.slice Ao18 t211.length co18), (.slice Ao19 t214.length co19)] 30 (0, 0))) ∧ Aside0 (w'.heap[gb240]? = some (.cells #[.int .i64 t223, .int .i64 t224, (.slice Ao35 t225.length co35), (.slice Ao36 t228.length co36), .int .i64 t231, .int .i64 t232, (.slice Ao37 t233.length co37), (.slice Ao38 t236.length co38)] 30 (0, 0))) ∧ Aside0 (w'.heap[gb264]? = some (.cells #[.int .i64 t247, .int .i64 t248, (.slice Ao47 t249.length co47), (.slice Ao48 t252.length co48), .int .i64 t255, .int .i64 t256, (.slice Ao49 t257.length co49), (.slice Ao50 t260.length co50)] 30 (0, 0))) ∧ Aside0 (Below w.heap.size w w'))
                 case atStart => exact ⟨(0), (by first | rfl | (simp; done) | (simp [*]; done)), H', ⟨Nat.le_refl _⟩, ⟨by (with_reducible repeat (first | apply rrA | apply rrN | apply rrD)); exact HO_219002.out⟩, ⟨by (with_reducible repeat (first | apply rrA | apply rrN | apply rrD)); exact HO_219003.out⟩, ⟨by (with_reducible repeat (first | apply rrA | apply rrN | apply rrD)); exact HO_219006.out⟩, ⟨by (with_reducible repeat (first | apply rrA | apply rrN | apply rrD)); exact HO_219007.out⟩, ⟨by (with_reducible repeat (first | apply rrA | apply rrN | apply rrD)); exact HO_241002.out⟩, ⟨by (with_reducible repeat (first | apply rrA | apply rrN | apply rrD)); exact HO_241003.out⟩, ⟨by (with_reducible repeat (first | apply rrA | apply rrN | apply rrD)); exact HO_241006.out⟩, ⟨by (with_reducible repeat (first | apply rrA | apply rrN | apply rrD)); exact HO_241007.out⟩, ⟨by (with_reducible repeat (first | apply rrA | apply rrN | apply rrD)); exact HO_265002.out⟩, ⟨by (with_reducible repeat (first | apply rrA | apply rrN | apply rrD)); exact HO_265003.out⟩, ⟨by (with_reducible repeat (first | apply rrA | apply rrN | apply rrD)); exact HO_265006.out⟩, ⟨by (with_reducible repeat (first | apply rrA | apply rrN | apply rrD)); exact HO_265007.out⟩, ⟨by (with_reducible repeat (first | refine kkN ?_ _ | refine kkD ?_ | refine kkA ?_ _)); exact BK218.out⟩, ⟨by (with_reducible repeat (first | refine kkN ?_ _ | refine kkD ?_ | refine kkA ?_ _)); exact BK240.out⟩, ⟨by (with_reducible repeat (first | refine kkN ?_ _ | refine kkD ?_ | refine kkA ?_ _)); exact BK264.out⟩, ⟨by repeat (first | (with_reducible first | exact HB.out | apply zzA | apply zzN | apply zzD | refine below_set ?_ GE218.out | refine below_set ?_ GE240.out | refine below_set ?_ GE264.out) | exact HB.out)⟩⟩
                 case round =>
                  clear H'
                  try clear c1
                  try clear p2
                  try clear q2
                  try clear hx2
                  try clear c5
                  try clear c6
                  try clear p6
                  try clear c7
                  try clear c8
                  try clear c9
                  try clear c10
                  try clear p21
                  try clear q21
                  try clear hx21
                  try clear c52
                  try clear c53
                  try clear c53b0
                  try clear c53b1
                  try clear c55
                  try clear c55b0
                  try clear c55b1
                  try clear c56
                  try clear c56b0
                  try clear c56b1
                  try clear c57
                  try clear c57b0
                  try clear c57b1
                  try clear c57b2
                  try clear c58
                  try clear c58b0
                  try clear c58b1
                  try clear c58b2
                  try clear c59
                  try clear c59b0
                  try clear c59b1
                  try clear c60
                  try clear c60b0
                  try clear c60b1
                  try clear c60b2
                  try clear c61
                  try clear c61b0
                  try clear c61b1
                  try clear c61b2
                  try clear c62
                  try clear c63
                  try clear p64
                  try clear c65
                  try clear c68
                  try clear c69
                  try clear c71
                  try clear c74
                  try clear c75
                  try clear c77
                  try clear c80
                  try clear c81
                  try clear c83
                  try clear c86
                  try clear c87
                  try clear c89
                  try clear c92
                  try clear c93
                  try clear c95
                  try clear c98
                  try clear c99
                  try clear c101
                  try clear c104
                  try clear c105
                  try clear c107
                  try clear c109
                  try clear hcz100_0
                  try clear hcz100_1
                  try clear hcz100_2
                  try clear hcz100_3
                  try clear hcz100_4
                  try clear hcz100_5
                  try clear hcz100_6
                  try clear hcz100_7
                  try clear hcz102_0
                  try clear hcz102_1
                  try clear hcz102_2
                  try clear hcz102_3
                  try clear hcz102_4
                  try clear hcz102_5
                  try clear hcz102_6
                  try clear hcz102_7
                  try clear hcz103_0
                  try clear hcz103_1
                  try clear hcz103_2
                  try clear hcz103_3
                  try clear hcz103_4
                  try clear hcz103_5
                  try clear hcz103_6
                  try clear hcz103_7
                  try clear hcz106_0
                  try clear hcz106_1
                  try clear hcz106_2
                  try clear hcz106_3
                  try clear hcz106_4
                  try clear hcz106_5
                  try clear hcz106_6
                  try clear hcz106_7
                  try clear hcz108_0
                  try clear hcz108_1
                  try clear hcz108_2
                  try clear hcz108_3
                  try clear hcz108_4
                  try clear hcz108_5
                  try clear hcz108_6
                  try clear hcz108_7
                  try clear hcz64_0
                  try clear hcz64_1
                  try clear hcz64_2
                  try clear hcz64_3
                  try clear hcz64_4
                  try clear hcz64_5
                  try clear hcz64_6
                  try clear hcz64_7
                  try clear hcz66_0
                  try clear hcz66_1
                  try clear hcz66_2
                  try clear hcz66_3
                  try clear hcz66_4
                  try clear hcz66_5
                  try clear hcz66_6
                  try clear hcz66_7
                  try clear hcz67_0
                  try clear hcz67_1
                  try clear hcz67_2
                  try clear hcz67_3
                  try clear hcz67_4
                  try clear hcz67_5
                  try clear hcz67_6
                  try clear hcz67_7
                  try clear hcz70_0
                  try clear hcz70_1
                  try clear hcz70_2
                  try clear hcz70_3
                  try clear hcz70_4
                  try clear hcz70_5
                  try clear hcz70_6
                  try clear hcz70_7
                  try clear hcz72_0
                  try clear hcz72_1
                  try clear hcz72_2
                  try clear hcz72_3
                  try clear hcz72_4
                  try clear hcz72_5
                  try clear hcz72_6
                  try clear hcz72_7
                  try clear hcz73_0
                  try clear hcz73_1
                  try clear hcz73_2
                  try clear hcz73_3
                  try clear hcz73_4
                  try clear hcz73_5
                  try clear hcz73_6
                  try clear hcz73_7
                  try clear hcz76_0
                  try clear hcz76_1
                  try clear hcz76_2
                  try clear hcz76_3
                  try clear hcz76_4
                  try clear hcz76_5
                  try clear hcz76_6
                  try clear hcz76_7
                  try clear hcz78_0
                  try clear hcz78_1
                  try clear hcz78_2
                  try clear hcz78_3
                  try clear hcz78_4
                  try clear hcz78_5
                  try clear hcz78_6
                  try clear hcz78_7
                  try clear hcz79_0
                  try clear hcz79_1
                  try clear hcz79_2
                  try clear hcz79_3
                  try clear hcz79_4
                  try clear hcz79_5
                  try clear hcz79_6
                  try clear hcz79_7
                  try clear hcz82_0
                  try clear hcz82_1
                  try clear hcz82_2
                  try clear hcz82_3
                  try clear hcz82_4
                  try clear hcz82_5
                  try clear hcz82_6
                  try clear hcz82_7
                  try clear hcz84_0
                  try clear hcz84_1
                  try clear hcz84_2
                  try clear hcz84_3
                  try clear hcz84_4
                  try clear hcz84_5
                  try clear hcz84_6
                  try clear hcz84_7
                  try clear hcz85_0
                  try clear hcz85_1
                  try clear hcz85_2
                  try clear hcz85_3
                  try clear hcz85_4
                  try clear hcz85_5
                  try clear hcz85_6
                  try clear hcz85_7
                  try clear hcz88_0
                  try clear hcz88_1
                  try clear hcz88_2
                  try clear hcz88_3
                  try clear hcz88_4
                  try clear hcz88_5
                  try clear hcz88_6
                  try clear hcz88_7
                  try clear hcz90_0
                  try clear hcz90_1
                  try clear hcz90_2
                  try clear hcz90_3
                  try clear hcz90_4
                  try clear hcz90_5
                  try clear hcz90_6
                  try clear hcz90_7
                  try clear hcz91_0
                  try clear hcz91_1
                  try clear hcz91_2
                  try clear hcz91_3
                  try clear hcz91_4
                  try clear hcz91_5
                  try clear hcz91_6
                  try clear hcz91_7
                  try clear hcz94_0
                  try clear hcz94_1
                  try clear hcz94_2
                  try clear hcz94_3
                  try clear hcz94_4
                  try clear hcz94_5
                  try clear hcz94_6
                  try clear hcz94_7
                  try clear hcz96_0
                  try clear hcz96_1
                  try clear hcz96_2
                  try clear hcz96_3
                  try clear hcz96_4
                  try clear hcz96_5
                  try clear hcz96_6
                  try clear hcz96_7
                  try clear hcz97_0
                  try clear hcz97_1
                  try clear hcz97_2
                  try clear hcz97_3
                  try clear hcz97_4
                  try clear hcz97_5
                  try clear hcz97_6
                  try clear hcz97_7
                  try clear hfz100_0
                  try clear hfz100_1
                  try clear hfz100_2
                  try clear hfz100_3
                  try clear hfz100_4
                  try clear hfz100_5
                  try clear hfz100_6
                  try clear hfz100_7
                  try clear hfz102_0
                  try clear hfz102_1
                  try clear hfz102_2
                  try clear hfz102_3
                  try clear hfz102_4
                  try clear hfz102_5
                  try clear hfz102_6
                  try clear hfz102_7
                  try clear hfz103_0
                  try clear hfz103_1
                  try clear hfz103_2
                  try clear hfz103_3
                  try clear hfz103_4
                  try clear hfz103_5
                  try clear hfz103_6
                  try clear hfz103_7
                  try clear hfz106_0
                  try clear hfz106_1
                  try clear hfz106_2
                  try clear hfz106_3
                  try clear hfz106_4
                  try clear hfz106_5
                  try clear hfz106_6
                  try clear hfz106_7
                  try clear hfz108_0
                  try clear hfz108_1
                  try clear hfz108_2
                  try clear hfz108_3
                  try clear hfz108_4
                  try clear hfz108_5
                  try clear hfz108_6
                  try clear hfz108_7
                  try clear hfz15_6
                  try clear hfz15_7
                  try clear hfz34_0
                  try clear hfz34_1
                  try clear hfz34_2
                  try clear hfz34_3
                  try clear hfz34_4
                  try clear hfz34_5
                  try clear hfz34_6
                  try clear hfz34_7
                  try clear hfz46_0
                  try clear hfz46_1
                  try clear hfz46_2
                  try clear hfz46_3
                  try clear hfz46_4
                  try clear hfz46_5
                  try clear hfz46_6
                  try clear hfz46_7
                  try clear hfz64_0
                  try clear hfz64_1
                  try clear hfz64_2
                  try clear hfz64_3
                  try clear hfz64_4
                  try clear hfz64_5
                  try clear hfz64_6
                  try clear hfz64_7
                  try clear hfz66_0
                  try clear hfz66_1
                  try clear hfz66_2
                  try clear hfz66_3
                  try clear hfz66_4
                  try clear hfz66_5
                  try clear hfz66_6
                  try clear hfz66_7
                  try clear hfz67_0
                  try clear hfz67_1
                  try clear hfz67_2
                  try clear hfz67_3
                  try clear hfz67_4
                  try clear hfz67_5
                  try clear hfz67_6
                  try clear hfz67_7
                  try clear hfz70_0
                  try clear hfz70_1
                  try clear hfz70_2
                  try clear hfz70_3
                  try clear hfz70_4
                  try clear hfz70_5
                  try clear hfz70_6
                  try clear hfz70_7
                  try clear hfz72_0
                  try clear hfz72_1
                  try clear hfz72_2
                  try clear hfz72_3
                  try clear hfz72_4
                  try clear hfz72_5
                  try clear hfz72_6
                  try clear hfz72_7
                  try clear hfz73_0
                  try clear hfz73_1
                  try clear hfz73_2
                  try clear hfz73_3
                  try clear hfz73_4
                  try clear hfz73_5
                  try clear hfz73_6
                  try clear hfz73_7
                  try clear hfz76_0
                  try clear hfz76_1
                  try clear hfz76_2
                  try clear hfz76_3
                  try clear hfz76_4
                  try clear hfz76_5
                  try clear hfz76_6
                  try clear hfz76_7
                  try clear hfz78_0
                  try clear hfz78_1
                  try clear hfz78_2
                  try clear hfz78_3
                  try clear hfz78_4
                  try clear hfz78_5
                  try clear hfz78_6
                  try clear hfz78_7
                  try clear hfz79_0
                  try clear hfz79_1
                  try clear hfz79_2
                  try clear hfz79_3
                  try clear hfz79_4
                  try clear hfz79_5
                  try clear hfz79_6
                  try clear hfz79_7
                  try clear hfz82_0
                  try clear hfz82_1
                  try clear hfz82_2
                  try clear hfz82_3
                  try clear hfz82_4
                  try clear hfz82_5
                  try clear hfz82_6
                  try clear hfz82_7
                  try clear hfz84_0
                  try clear hfz84_1
                  try clear hfz84_2
                  try clear hfz84_3
                  try clear hfz84_4
                  try clear hfz84_5
                  try clear hfz84_6
                  try clear hfz84_7
                  try clear hfz85_0
                  try clear hfz85_1
                  try clear hfz85_2
                  try clear hfz85_3
                  try clear hfz85_4
                  try clear hfz85_5
                  try clear hfz85_6
                  try clear hfz85_7
                  try clear hfz88_0
                  try clear hfz88_1
                  try clear hfz88_2
                  try clear hfz88_3
                  try clear hfz88_4
                  try clear hfz88_5
                  try clear hfz88_6
                  try clear hfz88_7
                  try clear hfz90_0
                  try clear hfz90_1
                  try clear hfz90_2
                  try clear hfz90_3
                  try clear hfz90_4
                  try clear hfz90_5
                  try clear hfz90_6
                  try clear hfz90_7
                  try clear hfz91_0
                  try clear hfz91_1
                  try clear hfz91_2
                  try clear hfz91_3
                  try clear hfz91_4
                  try clear hfz91_5
                  try clear hfz91_6
                  try clear hfz91_7
                  try clear hfz94_0
                  try clear hfz94_1
                  try clear hfz94_2
                  try clear hfz94_3
                  try clear hfz94_4
                  try clear hfz94_5
                  try clear hfz94_6
                  try clear hfz94_7
                  try clear hfz96_0
                  try clear hfz96_1
                  try clear hfz96_2
                  try clear hfz96_3
                  try clear hfz96_4
                  try clear hfz96_5
                  try clear hfz96_6
                  try clear hfz96_7
                  try clear hfz97_0
                  try clear hfz97_1
                  try clear hfz97_2
                  try clear hfz97_3
                  try clear hfz97_4
                  try clear hfz97_5
                  try clear hfz97_6
                  try clear hfz97_7
                  try clear hx219_0
                  try clear p2
                  try clear p21
                  try clear p219
                  try clear p6
                  try clear p64
                  try clear q2
                  try clear q21
                  try clear q219
                  obtain ⟨x148_5, rfl, HA, HK5, HO_219002, HO_219003, HO_219006, HO_219007, HO_241002, HO_241003, HO_241006, HO_241007, HO_265002, HO_265003, HO_265006, HO_265007, BK218, BK240, BK264, HB⟩ := hrel
                  cases gk with
                  | zero => exact absurd HA.out (by simp [thrumlaw10_QuantTurned.l1])
                  | succ k5 =>
                   have H := HA.out
                   clear HA
                   simp only [thrumlaw10_QuantTurned.l1] at H
                   by_cases c110 : x148_5 < (l0.length : Int)
                   ·
                    rw [if_pos c110] at H
                    have c110b0 : decide (x148_5 < (l0.length : Int)) = true := decide_eq_true c110
                    clear c110
                    by_cases c111 : 0 ≤ x148_5
                    ·
                     rw [if_pos c111] at H
                     have c111b0 : decide (0 ≤ x148_5) = true := decide_eq_true c111
                     clear c111
                     by_cases c112 : x148_5 < (l0.length : Int)
                     ·
                      rw [if_pos c112] at H
                      have c112b0 : decide (x148_5 < (l0.length : Int)) = true := decide_eq_true c112
                      clear c112
                      by_cases c113 : x148_5 < (t211.length : Int)
                      ·
                       rw [if_pos c113] at H
                       have c113b0 : decide (x148_5 < (t211.length : Int)) = true := decide_eq_true c113
                       clear c113
                       by_cases c114 : x148_5 < (t233.length : Int)
                       ·
                        rw [if_pos c114] at H
                        have c114b0 : decide (x148_5 < (t233.length : Int)) = true := decide_eq_true c114
                        clear c114
                        by_cases c115 : (rd t211 x148_5) = (rd t233 x148_5)
                        ·
                         rw [if_pos c115] at H
                         have c115b0 : ((rd t211 x148_5) == (rd t233 x148_5)) = true := beq_iff_eq.mpr c115
                         have c115b1 : ((rd t211 x148_5) != (rd t233 x148_5)) = false := bne_eq_false_iff_eq.mpr c115
                         clear c115
                         by_cases c116 : x148_5 < (t257.length : Int)
                         ·
                          rw [if_pos c116] at H
                          have c116b0 : decide (x148_5 < (t257.length : Int)) = true := decide_eq_true c116
                          clear c116
                          by_cases c117 : (rd t211 x148_5) = (rd t257 x148_5)
                          ·
                           rw [if_pos c117] at H
                           have c117b0 : ((rd t211 x148_5) == (rd t257 x148_5)) = true := beq_iff_eq.mpr c117
                           have c117b1 : ((rd t211 x148_5) != (rd t257 x148_5)) = false := bne_eq_false_iff_eq.mpr c117
                           clear c117
                           by_cases c118 : x148_5 < (t214.length : Int)
                           ·
                            rw [if_pos c118] at H
                            have c118b0 : decide (x148_5 < (t214.length : Int)) = true := decide_eq_true c118
                            clear c118
                            by_cases c119 : x148_5 < (t260.length : Int)
                            ·
                             rw [if_pos c119] at H
                             have c119b0 : decide (x148_5 < (t260.length : Int)) = true := decide_eq_true c119
                             clear c119
                             by_cases c120 : ((rdOf false t214 x148_5) != (rdOf false t260 x148_5)) = true
                             ·
                              rw [if_pos c120] at H
                              exact absurd (Option.some.inj H) (by rw [HR_.out]; decide)
                             ·
                              rw [if_neg c120] at H
                              have c120b0 : ((rdOf false t214 x148_5) != (rdOf false t260 x148_5)) = false := by simpa using c120
                              (try (have c120b1 : decide ((rdOf false t214 x148_5) = (rdOf false t260 x148_5)) = true := by simpa using c120))
                              (try (have c120b2 : ((rdOf false t214 x148_5) == (rdOf false t260 x148_5)) = true := by simpa using c120))
                              clear c120
                              by_cases c127 : (rd l0 x148_5) = 0
                              ·
                               rw [if_pos c127] at H
                               have c127b0 : ((rd l0 x148_5) == 0) = true := beq_iff_eq.mpr c127
                               have c127b1 : ((rd l0 x148_5) != 0) = false := bne_eq_false_iff_eq.mpr c127
                               clear c127
                               focus
                                have H' := Aside0.mk H
                                clear H
                                have p265 : 0 ≤ (x148_5 : Int) := of_decide_eq_true (by first | (with_reducible assumption) | assumption)
                                have q265 : x148_5 < (l0.length : Int) := of_decide_eq_true (by first | (with_reducible assumption) | assumption)
                                obtain ⟨ad265, e265, hx265_0⟩ := Kd.at_int HR0.out x148_5 p265 q265
                                cases e265
                                replace hx265_0 := (HB.out.cell (World.block_lt_of_cell? w _ hx265_0)).trans hx265_0
                                replace p265 := eq_true p265
                                replace q265 := eq_true q265
                                have hnb128 := NB218_240.out
                                have hnc128 := NB240_218.out
                                have hnb129 := NB218_264.out
                                have hnc129 := NB264_218.out
                                have hcz130_0 : wr.cell? ⟨gb218, 0, none⟩ = some (.int .i64 t201) := (blk_cell BK218.out 0).trans rfl
                                have hcz130_1 : wr.cell? ⟨gb218, 1, none⟩ = some (.int .i64 t202) := (blk_cell BK218.out 1).trans rfl
                                have hcz130_2 : wr.cell? ⟨gb218, 2, none⟩ = some (.slice Ao16 t203.length co16) := (blk_cell BK218.out 2).trans rfl
                                have hcz130_3 : wr.cell? ⟨gb218, 3, none⟩ = some (.slice Ao17 t206.length co17) := (blk_cell BK218.out 3).trans rfl
                                have hcz130_4 : wr.cell? ⟨gb218, 4, none⟩ = some (.int .i64 t209) := (blk_cell BK218.out 4).trans rfl
                                have hcz130_5 : wr.cell? ⟨gb218, 5, none⟩ = some (.int .i64 t210) := (blk_cell BK218.out 5).trans rfl
                                have hcz130_6 : wr.cell? ⟨gb218, 6, none⟩ = some (.slice Ao18 t211.length co18) := (blk_cell BK218.out 6).trans rfl
                                have hcz130_7 : wr.cell? ⟨gb218, 7, none⟩ = some (.slice Ao19 t214.length co19) := (blk_cell BK218.out 7).trans rfl
                                have hfz130_0 := blk_frozen BK218.out 0
                                have hfz130_1 := blk_frozen BK218.out 1
                                have hfz130_2 := blk_frozen BK218.out 2
                                have hfz130_3 := blk_frozen BK218.out 3
                                have hfz130_4 := blk_frozen BK218.out 4
                                have hfz130_5 := blk_frozen BK218.out 5
                                have hfz130_6 := blk_frozen BK218.out 6
                                have hfz130_7 := blk_frozen BK218.out 7
                                have p266 : 0 ≤ (x148_5 : Int) := of_decide_eq_true (by first | (with_reducible assumption) | assumption)
                                have q266 : x148_5 < (t211.length : Int) := of_decide_eq_true (by first | (with_reducible assumption) | assumption)
                                obtain ⟨ad266, e266, hx266_0⟩ := Kd.at_int (Kd.R_reads' HO_219006.out).2.2 x148_5 p266 q266
                                cases e266
                                replace p266 := eq_true p266
                                replace q266 := eq_true q266
                                have hnb131 := NB240_264.out
                                have hnc131 := NB264_240.out
                                have hcz132_0 : wr.cell? ⟨gb240, 0, none⟩ = some (.int .i64 t223) := (blk_cell BK240.out 0).trans rfl
                                have hcz132_1 : wr.cell? ⟨gb240, 1, none⟩ = some (.int .i64 t224) := (blk_cell BK240.out 1).trans rfl
                                have hcz132_2 : wr.cell? ⟨gb240, 2, none⟩ = some (.slice Ao35 t225.length co35) := (blk_cell BK240.out 2).trans rfl
                                have hcz132_3 : wr.cell? ⟨gb240, 3, none⟩ = some (.slice Ao36 t228.length co36) := (blk_cell BK240.out 3).trans rfl
                                have hcz132_4 : wr.cell? ⟨gb240, 4, none⟩ = some (.int .i64 t231) := (blk_cell BK240.out 4).trans rfl
                                have hcz132_5 : wr.cell? ⟨gb240, 5, none⟩ = some (.int .i64 t232) := (blk_cell BK240.out 5).trans rfl
                                have hcz132_6 : wr.cell? ⟨gb240, 6, none⟩ = some (.slice Ao37 t233.length co37) := (blk_cell BK240.out 6).trans rfl
                                have hcz132_7 : wr.cell? ⟨gb240, 7, none⟩ = some (.slice Ao38 t236.length co38) := (blk_cell BK240.out 7).trans rfl
                                have hfz132_0 := blk_frozen BK240.out 0
                                have hfz132_1 := blk_frozen BK240.out 1
                                have hfz132_2 := blk_frozen BK240.out 2
                                have hfz132_3 := blk_frozen BK240.out 3
                                have hfz132_4 := blk_frozen BK240.out 4
                                have hfz132_5 := blk_frozen BK240.out 5
                                have hfz132_6 := blk_frozen BK240.out 6
                                have hfz132_7 := blk_frozen BK240.out 7
                                have p267 : 0 ≤ (x148_5 : Int) := of_decide_eq_true (by first | (with_reducible assumption) | assumption)
                                have q267 : x148_5 < (t233.length : Int) := of_decide_eq_true (by first | (with_reducible assumption) | assumption)
                                obtain ⟨ad267, e267, hx267_0⟩ := Kd.at_int (Kd.R_reads' HO_241006.out).2.2 x148_5 p267 q267
                                cases e267
                                replace p267 := eq_true p267
                                replace q267 := eq_true q267
                                have p268 : 0 ≤ (x148_5 : Int) := of_decide_eq_true (by first | (with_reducible assumption) | assumption)
                                have q268 : x148_5 < (t211.length : Int) := of_decide_eq_true (by first | (with_reducible assumption) | assumption)
                                obtain ⟨ad268, e268, hx268_0⟩ := Kd.at_int (Kd.R_reads' HO_219006.out).2.2 x148_5 p268 q268
                                obtain rfl : ad266 = ad268 := (by injection e268)
                                replace p268 := eq_true p268
                                replace q268 := eq_true q268
                                have hcz133_0 : wr.cell? ⟨gb264, 0, none⟩ = some (.int .i64 t247) := (blk_cell BK264.out 0).trans rfl
                                have hcz133_1 : wr.cell? ⟨gb264, 1, none⟩ = some (.int .i64 t248) := (blk_cell BK264.out 1).trans rfl
                                have hcz133_2 : wr.cell? ⟨gb264, 2, none⟩ = some (.slice Ao47 t249.length co47) := (blk_cell BK264.out 2).trans rfl
                                have hcz133_3 : wr.cell? ⟨gb264, 3, none⟩ = some (.slice Ao48 t252.length co48) := (blk_cell BK264.out 3).trans rfl
                                have hcz133_4 : wr.cell? ⟨gb264, 4, none⟩ = some (.int .i64 t255) := (blk_cell BK264.out 4).trans rfl
                                have hcz133_5 : wr.cell? ⟨gb264, 5, none⟩ = some (.int .i64 t256) := (blk_cell BK264.out 5).trans rfl
                                have hcz133_6 : wr.cell? ⟨gb264, 6, none⟩ = some (.slice Ao49 t257.length co49) := (blk_cell BK264.out 6).trans rfl
                                have hcz133_7 : wr.cell? ⟨gb264, 7, none⟩ = some (.slice Ao50 t260.length co50) := (blk_cell BK264.out 7).trans rfl
                                have hfz133_0 := blk_frozen BK264.out 0
                                have hfz133_1 := blk_frozen BK264.out 1
                                have hfz133_2 := blk_frozen BK264.out 2
                                have hfz133_3 := blk_frozen BK264.out 3
                                have hfz133_4 := blk_frozen BK264.out 4
                                have hfz133_5 := blk_frozen BK264.out 5
                                have hfz133_6 := blk_frozen BK264.out 6
                                have hfz133_7 := blk_frozen BK264.out 7
                                have p269 : 0 ≤ (x148_5 : Int) := of_decide_eq_true (by first | (with_reducible assumption) | assumption)
                                have q269 : x148_5 < (t257.length : Int) := of_decide_eq_true (by first | (with_reducible assumption) | assumption)
                                obtain ⟨ad269, e269, hx269_0⟩ := Kd.at_int (Kd.R_reads' HO_265006.out).2.2 x148_5 p269 q269
                                cases e269
                                replace p269 := eq_true p269
                                replace q269 := eq_true q269
                                have p270 : 0 ≤ (x148_5 : Int) := of_decide_eq_true (by first | (with_reducible assumption) | assumption)
                                have q270 : x148_5 < (t214.length : Int) := of_decide_eq_true (by first | (with_reducible assumption) | assumption)
                                obtain ⟨ad270, e270, hx270_0⟩ := Kd.at_bool (Kd.R_reads' HO_219007.out).2.2 x148_5 p270 q270
                                cases e270
                                replace p270 := eq_true p270
                                replace q270 := eq_true q270
                                have p271 : 0 ≤ (x148_5 : Int) := of_decide_eq_true (by first | (with_reducible assumption) | assumption)
                                have q271 : x148_5 < (t260.length : Int) := of_decide_eq_true (by first | (with_reducible assumption) | assumption)
                                obtain ⟨ad271, e271, hx271_0⟩ := Kd.at_bool (Kd.R_reads' HO_265007.out).2.2 x148_5 p271 q271
                                cases e271
                                replace p271 := eq_true p271
                                replace q271 := eq_true q271
                                go_wp2
                                repeat (go_quiet (fail); try go_wp2)
                                go_roundg k5
                                case measure => have := HJ6.out; have := HK2.out; have := HJ28.out; have := HJ53.out; have := HK5.out; omega
                                case rel => exact ⟨(wrap64 (x148_5 + 1)), (by first | rfl | (simp; done) | (simp [*]; done)), H', ⟨by have := HJ6.out; have := HK2.out; have := HJ28.out; have := HJ53.out; have := HK5.out; omega⟩, ⟨by (with_reducible repeat (first | apply rrA | apply rrN | apply rrD)); exact HO_219002.out⟩, ⟨by (with_reducible repeat (first | apply rrA | apply rrN | apply rrD)); exact HO_219003.out⟩, ⟨by (with_reducible repeat (first | apply rrA | apply rrN | apply rrD)); exact HO_219006.out⟩, ⟨by (with_reducible repeat (first | apply rrA | apply rrN | apply rrD)); exact HO_219007.out⟩, ⟨by (with_reducible repeat (first | apply rrA | apply rrN | apply rrD)); exact HO_241002.out⟩, ⟨by (with_reducible repeat (first | apply rrA | apply rrN | apply rrD)); exact HO_241003.out⟩, ⟨by (with_reducible repeat (first | apply rrA | apply rrN | apply rrD)); exact HO_241006.out⟩, ⟨by (with_reducible repeat (first | apply rrA | apply rrN | apply rrD)); exact HO_241007.out⟩, ⟨by (with_reducible repeat (first | apply rrA | apply rrN | apply rrD)); exact HO_265002.out⟩, ⟨by (with_reducible repeat (first | apply rrA | apply rrN | apply rrD)); exact HO_265003.out⟩, ⟨by (with_reducible repeat (first | apply rrA | apply rrN | apply rrD)); exact HO_265006.out⟩, ⟨by (with_reducible repeat (first | apply rrA | apply rrN | apply rrD)); exact HO_265007.out⟩, ⟨by (with_reducible repeat (first | refine kkN ?_ _ | refine kkD ?_ | refine kkA ?_ _)); exact BK218.out⟩, ⟨by (with_reducible repeat (first | refine kkN ?_ _ | refine kkD ?_ | refine kkA ?_ _)); exact BK240.out⟩, ⟨by (with_reducible repeat (first | refine kkN ?_ _ | refine kkD ?_ | refine kkA ?_ _)); exact BK264.out⟩, ⟨by repeat (first | (with_reducible first | exact HB.out | apply zzA | apply zzN | apply zzD | refine below_set ?_ GE218.out | refine below_set ?_ GE240.out | refine below_set ?_ GE264.out) | exact HB.out)⟩⟩
                              ·
                               rw [if_neg c127] at H
                               have c127b0 : ((rd l0 x148_5) == 0) = false := beq_eq_false_iff_ne.mpr c127
                               have c127b1 : ((rd l0 x148_5) != 0) = true := bne_iff_ne.mpr c127
                               by_cases c134 : x148_5 < (t236.length : Int)
                               ·
                                rw [if_pos c134] at H
                                have c134b0 : decide (x148_5 < (t236.length : Int)) = true := decide_eq_true c134
                                clear c134
                                by_cases c135 : ((rdOf false t214 x148_5) == (rdOf false t236 x148_5)) = true
                                ·
                                 rw [if_pos c135] at H
                                 exact absurd (Option.some.inj H) (by rw [HR_.out]; decide)
                                ·
                                 rw [if_neg c135] at H
                                 have c135b0 : ((rdOf false t214 x148_5) == (rdOf false t236 x148_5)) = false := by simpa using c135
                                 (try (have c135b1 : decide ((rdOf false t214 x148_5) = (rdOf false t236 x148_5)) = false := by simpa using c135))
                                 (try (have c135b2 : ((rdOf false t214 x148_5) == (rdOf false t236 x148_5)) = false := by simpa using c135))
                                 (try (have c135b3 : ¬ ((rdOf false t214 x148_5) = (rdOf false t236 x148_5)) := by simpa using c135))
                                 clear c135
                                 focus
                                  have H' := Aside0.mk H
                                  clear H
                                  have p265 : 0 ≤ (x148_5 : Int) := of_decide_eq_true (by first | (with_reducible assumption) | assumption)
                                  have q265 : x148_5 < (l0.length : Int) := of_decide_eq_true (by first | (with_reducible assumption) | assumption)
                                  obtain ⟨ad265, e265, hx265_0⟩ := Kd.at_int HR0.out x148_5 p265 q265
                                  cases e265
                                  replace hx265_0 := (HB.out.cell (World.block_lt_of_cell? w _ hx265_0)).trans hx265_0
                                  replace p265 := eq_true p265
                                  replace q265 := eq_true q265
                                  have hnb142 := NB218_240.out
                                  have hnc142 := NB240_218.out
                                  have hnb143 := NB218_264.out
                                  have hnc143 := NB264_218.out
                                  have hcz144_0 : wr.cell? ⟨gb218, 0, none⟩ = some (.int .i64 t201) := (blk_cell BK218.out 0).trans rfl
                                  have hcz144_1 : wr.cell? ⟨gb218, 1, none⟩ = some (.int .i64 t202) := (blk_cell BK218.out 1).trans rfl
                                  have hcz144_2 : wr.cell? ⟨gb218, 2, none⟩ = some (.slice Ao16 t203.length co16) := (blk_cell BK218.out 2).trans rfl
                                  have hcz144_3 : wr.cell? ⟨gb218, 3, none⟩ = some (.slice Ao17 t206.length co17) := (blk_cell BK218.out 3).trans rfl
                                  have hcz144_4 : wr.cell? ⟨gb218, 4, none⟩ = some (.int .i64 t209) := (blk_cell BK218.out 4).trans rfl
                                  have hcz144_5 : wr.cell? ⟨gb218, 5, none⟩ = some (.int .i64 t210) := (blk_cell BK218.out 5).trans rfl
                                  have hcz144_6 : wr.cell? ⟨gb218, 6, none⟩ = some (.slice Ao18 t211.length co18) := (blk_cell BK218.out 6).trans rfl
                                  have hcz144_7 : wr.cell? ⟨gb218, 7, none⟩ = some (.slice Ao19 t214.length co19) := (blk_cell BK218.out 7).trans rfl
                                  have hfz144_0 := blk_frozen BK218.out 0
                                  have hfz144_1 := blk_frozen BK218.out 1
                                  have hfz144_2 := blk_frozen BK218.out 2
                                  have hfz144_3 := blk_frozen BK218.out 3
                                  have hfz144_4 := blk_frozen BK218.out 4
                                  have hfz144_5 := blk_frozen BK218.out 5
                                  have hfz144_6 := blk_frozen BK218.out 6
                                  have hfz144_7 := blk_frozen BK218.out 7
                                  have p266 : 0 ≤ (x148_5 : Int) := of_decide_eq_true (by first | (with_reducible assumption) | assumption)
                                  have q266 : x148_5 < (t211.length : Int) := of_decide_eq_true (by first | (with_reducible assumption) | assumption)
                                  obtain ⟨ad266, e266, hx266_0⟩ := Kd.at_int (Kd.R_reads' HO_219006.out).2.2 x148_5 p266 q266
                                  cases e266
                                  replace p266 := eq_true p266
                                  replace q266 := eq_true q266
                                  have hnb145 := NB240_264.out
                                  have hnc145 := NB264_240.out
                                  have hcz146_0 : wr.cell? ⟨gb240, 0, none⟩ = some (.int .i64 t223) := (blk_cell BK240.out 0).trans rfl
                                  have hcz146_1 : wr.cell? ⟨gb240, 1, none⟩ = some (.int .i64 t224) := (blk_cell BK240.out 1).trans rfl
                                  have hcz146_2 : wr.cell? ⟨gb240, 2, none⟩ = some (.slice Ao35 t225.length co35) := (blk_cell BK240.out 2).trans rfl
                                  have hcz146_3 : wr.cell? ⟨gb240, 3, none⟩ = some (.slice Ao36 t228.length co36) := (blk_cell BK240.out 3).trans rfl
                                  have hcz146_4 : wr.cell? ⟨gb240, 4, none⟩ = some (.int .i64 t231) := (blk_cell BK240.out 4).trans rfl
                                  have hcz146_5 : wr.cell? ⟨gb240, 5, none⟩ = some (.int .i64 t232) := (blk_cell BK240.out 5).trans rfl
                                  have hcz146_6 : wr.cell? ⟨gb240, 6, none⟩ = some (.slice Ao37 t233.length co37) := (blk_cell BK240.out 6).trans rfl
                                  have hcz146_7 : wr.cell? ⟨gb240, 7, none⟩ = some (.slice Ao38 t236.length co38) := (blk_cell BK240.out 7).trans rfl
                                  have hfz146_0 := blk_frozen BK240.out 0
                                  have hfz146_1 := blk_frozen BK240.out 1
                                  have hfz146_2 := blk_frozen BK240.out 2
                                  have hfz146_3 := blk_frozen BK240.out 3
                                  have hfz146_4 := blk_frozen BK240.out 4
                                  have hfz146_5 := blk_frozen BK240.out 5
                                  have hfz146_6 := blk_frozen BK240.out 6
                                  have hfz146_7 := blk_frozen BK240.out 7
                                  have p267 : 0 ≤ (x148_5 : Int) := of_decide_eq_true (by first | (with_reducible assumption) | assumption)
                                  have q267 : x148_5 < (t233.length : Int) := of_decide_eq_true (by first | (with_reducible assumption) | assumption)
                                  obtain ⟨ad267, e267, hx267_0⟩ := Kd.at_int (Kd.R_reads' HO_241006.out).2.2 x148_5 p267 q267
                                  cases e267
                                  replace p267 := eq_true p267
                                  replace q267 := eq_true q267
                                  have p268 : 0 ≤ (x148_5 : Int) := of_decide_eq_true (by first | (with_reducible assumption) | assumption)
                                  have q268 : x148_5 < (t211.length : Int) := of_decide_eq_true (by first | (with_reducible assumption) | assumption)
                                  obtain ⟨ad268, e268, hx268_0⟩ := Kd.at_int (Kd.R_reads' HO_219006.out).2.2 x148_5 p268 q268
                                  obtain rfl : ad266 = ad268 := (by injection e268)
                                  replace p268 := eq_true p268
                                  replace q268 := eq_true q268
                                  have hcz147_0 : wr.cell? ⟨gb264, 0, none⟩ = some (.int .i64 t247) := (blk_cell BK264.out 0).trans rfl
                                  have hcz147_1 : wr.cell? ⟨gb264, 1, none⟩ = some (.int .i64 t248) := (blk_cell BK264.out 1).trans rfl
                                  have hcz147_2 : wr.cell? ⟨gb264, 2, none⟩ = some (.slice Ao47 t249.length co47) := (blk_cell BK264.out 2).trans rfl
                                  have hcz147_3 : wr.cell? ⟨gb264, 3, none⟩ = some (.slice Ao48 t252.length co48) := (blk_cell BK264.out 3).trans rfl
                                  have hcz147_4 : wr.cell? ⟨gb264, 4, none⟩ = some (.int .i64 t255) := (blk_cell BK264.out 4).trans rfl
                                  have hcz147_5 : wr.cell? ⟨gb264, 5, none⟩ = some (.int .i64 t256) := (blk_cell BK264.out 5).trans rfl
                                  have hcz147_6 : wr.cell? ⟨gb264, 6, none⟩ = some (.slice Ao49 t257.length co49) := (blk_cell BK264.out 6).trans rfl
                                  have hcz147_7 : wr.cell? ⟨gb264, 7, none⟩ = some (.slice Ao50 t260.length co50) := (blk_cell BK264.out 7).trans rfl
                                  have hfz147_0 := blk_frozen BK264.out 0
                                  have hfz147_1 := blk_frozen BK264.out 1
                                  have hfz147_2 := blk_frozen BK264.out 2
                                  have hfz147_3 := blk_frozen BK264.out 3
                                  have hfz147_4 := blk_frozen BK264.out 4
                                  have hfz147_5 := blk_frozen BK264.out 5
                                  have hfz147_6 := blk_frozen BK264.out 6
                                  have hfz147_7 := blk_frozen BK264.out 7
                                  have p269 : 0 ≤ (x148_5 : Int) := of_decide_eq_true (by first | (with_reducible assumption) | assumption)
                                  have q269 : x148_5 < (t257.length : Int) := of_decide_eq_true (by first | (with_reducible assumption) | assumption)
                                  obtain ⟨ad269, e269, hx269_0⟩ := Kd.at_int (Kd.R_reads' HO_265006.out).2.2 x148_5 p269 q269
                                  cases e269
                                  replace p269 := eq_true p269
                                  replace q269 := eq_true q269
                                  have p270 : 0 ≤ (x148_5 : Int) := of_decide_eq_true (by first | (with_reducible assumption) | assumption)
                                  have q270 : x148_5 < (t214.length : Int) := of_decide_eq_true (by first | (with_reducible assumption) | assumption)
                                  obtain ⟨ad270, e270, hx270_0⟩ := Kd.at_bool (Kd.R_reads' HO_219007.out).2.2 x148_5 p270 q270
                                  cases e270
                                  replace p270 := eq_true p270
                                  replace q270 := eq_true q270
                                  have p271 : 0 ≤ (x148_5 : Int) := of_decide_eq_true (by first | (with_reducible assumption) | assumption)
                                  have q271 : x148_5 < (t260.length : Int) := of_decide_eq_true (by first | (with_reducible assumption) | assumption)
                                  obtain ⟨ad271, e271, hx271_0⟩ := Kd.at_bool (Kd.R_reads' HO_265007.out).2.2 x148_5 p271 q271
                                  cases e271
                                  replace p271 := eq_true p271
                                  replace q271 := eq_true q271
                                  have p272 : 0 ≤ (x148_5 : Int) := of_decide_eq_true (by first | (with_reducible assumption) | assumption)
                                  have q272 : x148_5 < (t214.length : Int) := of_decide_eq_true (by first | (with_reducible assumption) | assumption)
                                  obtain ⟨ad272, e272, hx272_0⟩ := Kd.at_bool (Kd.R_reads' HO_219007.out).2.2 x148_5 p272 q272
                                  obtain rfl : ad270 = ad272 := (by injection e272)
                                  replace p272 := eq_true p272
                                  replace q272 := eq_true q272
                                  have p273 : 0 ≤ (x148_5 : Int) := of_decide_eq_true (by first | (with_reducible assumption) | assumption)
                                  have q273 : x148_5 < (t236.length : Int) := of_decide_eq_true (by first | (with_reducible assumption) | assumption)
                                  obtain ⟨ad273, e273, hx273_0⟩ := Kd.at_bool (Kd.R_reads' HO_241007.out).2.2 x148_5 p273 q273
                                  cases e273
                                  replace p273 := eq_true p273
                                  replace q273 := eq_true q273
                                  go_wp2
                                  repeat (go_quiet (fail); try go_wp2)
                                  go_roundg k5
                                  case measure => have := HJ6.out; have := HK2.out; have := HJ28.out; have := HJ53.out; have := HK5.out; omega
                                  case rel => exact ⟨(wrap64 (x148_5 + 1)), (by first | rfl | (simp; done) | (simp [*]; done)), H', ⟨by have := HJ6.out; have := HK2.out; have := HJ28.out; have := HJ53.out; have := HK5.out; omega⟩, ⟨by (with_reducible repeat (first | apply rrA | apply rrN | apply rrD)); exact HO_219002.out⟩, ⟨by (with_reducible repeat (first | apply rrA | apply rrN | apply rrD)); exact HO_219003.out⟩, ⟨by (with_reducible repeat (first | apply rrA | apply rrN | apply rrD)); exact HO_219006.out⟩, ⟨by (with_reducible repeat (first | apply rrA | apply rrN | apply rrD)); exact HO_219007.out⟩, ⟨by (with_reducible repeat (first | apply rrA | apply rrN | apply rrD)); exact HO_241002.out⟩, ⟨by (with_reducible repeat (first | apply rrA | apply rrN | apply rrD)); exact HO_241003.out⟩, ⟨by (with_reducible repeat (first | apply rrA | apply rrN | apply rrD)); exact HO_241006.out⟩, ⟨by (with_reducible repeat (first | apply rrA | apply rrN | apply rrD)); exact HO_241007.out⟩, ⟨by (with_reducible repeat (first | apply rrA | apply rrN | apply rrD)); exact HO_265002.out⟩, ⟨by (with_reducible repeat (first | apply rrA | apply rrN | apply rrD)); exact HO_265003.out⟩, ⟨by (with_reducible repeat (first | apply rrA | apply rrN | apply rrD)); exact HO_265006.out⟩, ⟨by (with_reducible repeat (first | apply rrA | apply rrN | apply rrD)); exact HO_265007.out⟩, ⟨by (with_reducible repeat (first | refine kkN ?_ _ | refine kkD ?_ | refine kkA ?_ _)); exact BK218.out⟩, ⟨by (with_reducible repeat (first | refine kkN ?_ _ | refine kkD ?_ | refine kkA ?_ _)); exact BK240.out⟩, ⟨by (with_reducible repeat (first | refine kkN ?_ _ | refine kkD ?_ | refine kkA ?_ _)); exact BK264.out⟩, ⟨by repeat (first | (with_reducible first | exact HB.out | apply zzA | apply zzN | apply zzD | refine below_set ?_ GE218.out | refine below_set ?_ GE240.out | refine below_set ?_ GE264.out) | exact HB.out)⟩⟩
                               ·
                                rw [if_neg c134] at H
                                exact absurd H (by simp)
                            ·
                             rw [if_neg c119] at H
                             exact absurd H (by simp)
                           ·
                            rw [if_neg c118] at H
                            exact absurd H (by simp)
                          ·
                           rw [if_neg c117] at H
                           exact absurd (Option.some.inj H) (by rw [HR_.out]; decide)
                         ·
                          rw [if_neg c116] at H
                          exact absurd H (by simp)
                        ·
                         rw [if_neg c115] at H
                         exact absurd (Option.some.inj H) (by rw [HR_.out]; decide)
                       ·
                        rw [if_neg c114] at H
                        exact absurd H (by simp)
                      ·
                       rw [if_neg c113] at H
                       exact absurd H (by simp)
                     ·
                      rw [if_neg c112] at H
                      exact absurd H (by simp)
                    ·
                     rw [if_neg c111] at H
                     exact absurd H (by simp)
                   ·
                    rw [if_neg c110] at H
                    have c110b0 : decide (x148_5 < (l0.length : Int)) = false := decide_eq_false c110
                    clear c110
                    focus
                     obtain rfl := Option.some.inj H
                     go_wp2
                     repeat (go_quiet (fail); try go_wp2)
                     go_ret
                     exact ⟨by first | rfl | (simp [errW_none, errW_some] <;> rfl) | (simp [*, errW_none, errW_some] <;> rfl), by repeat (first | (with_reducible first | exact HB.out | apply zzA | apply zzN | apply zzD | refine below_set ?_ GE218.out | refine below_set ?_ GE240.out | refine below_set ?_ GE264.out) | exact HB.out)⟩
             ·
              rw [if_neg c53] at H
              have c53b0 : (t217 == 0) = false := beq_eq_false_iff_ne.mpr c53
              have c53b1 : (t217 != 0) = true := bne_iff_ne.mpr c53
              focus
               obtain rfl := Option.some.inj H
               go_wp2
               repeat (go_quiet (fail); try go_wp2)
               go_ret
               exact ⟨by first | rfl | (simp [errW_none, errW_some] <;> rfl) | (simp [*, errW_none, errW_some] <;> rfl), by repeat (first | (with_reducible first | exact HB.out | apply zzA | apply zzN | apply zzD | refine below_set ?_ GE218.out | refine below_set ?_ GE240.out | refine below_set ?_ GE264.out) | exact HB.out)⟩
         ·
          rw [if_neg c27] at H
          exact absurd H (by simp)
        ·
         rw [if_neg c26] at H
         exact absurd H (by simp)
 ·
  replace c6 := Bool.eq_false_iff.mpr c6
  subst c6
  have H1 : (some false) = some r := by rw [if_neg (show ¬ (false = true) by decide)] at H; exact H
  exact absurd (Option.some.inj H1) (by rw [HR_.out]; decide)


end Go.Proofs.Ytkfhdpnfcaghbaa.HQ
