/- What Go functions do, each as a plain Lean function with the same answers, and the proof of it, in every world: printed by the session's driver over the kit's print, with texts by hand. -/
import Derived.Test.YtkfhdpnfcaghbaaHQx0
import Derived.Test.YtkfhdpnfcaghbaaHQx3
import Derived.Test.YtkfhdpnfcaghbaaHQx6
import Derived.Test.YtkfhdpnfcaghbaaHQx11
import Derived.Test.YtkfhdpnfcaghbaaHQx13
import Derived.Test.YtkfhdpnfcaghbaaHQx14
import Derived.Test.YtkfhdpnfcaghbaaHQx15
namespace Go.Proofs.Ytkfhdpnfcaghbaa.HQ
open Go.RowKit Go.Proofs.YtkfhdpnfcaghbaaW.PrintWords Go.Proofs.YtkfhdpnfcaghbaaW.PrintLast Go.Proofs.YtkfhdpnfcaghbaaW.PrintMore
attribute [local go_sem] max2_int min2_int max_two min_two max_three min_three max_four min_four   -- for this text's walks alone
open Go.Proofs.Ytkfhdpnfcaghbaa.Sp
attribute [local go_sem] Go.Proofs.Ytkfhdpnfcaghbaa.Sp.u64_not
set_option linter.unusedVariables false
set_option linter.unusedSimpArgs false

set_option maxHeartbeats 80000000 in
set_option maxRecDepth 100000 in
theorem thrumlaw10_QuantSure.calls (k : Nat) (A0 : Option Addr) (c0 : Nat) (l0 : List Int) (a1 : Int) (a2 : Int) (a3 : Int) (r : Bool) (w : World) (hr0 : Kd.C (Kd.int .i64) w A0 l0.length l0) (hc0 : l0.length ≤ c0) (h : thrumlaw10_QuantSure.f k l0 a1 a2 a3 = some r) (hr_ : r = true) :
  Calls Try.prog 12 #[.slice A0 l0.length c0, .int .i64 a1, .int .u64 a2, .int .u64 a3] w fun e w' => e = .returned (.bool r) ∧ Below w.heap.size w w' := by
 have HR_ := Aside0.mk hr_
 clear hr_
 have hu30 := Try.underlying30
 have HR0 := Aside0.mk hr0
 have HC0 := Aside0.mk hc0
 clear hr0 hc0
 have HB := Aside0.mk (Below.refl w.heap.size w)
 have H : ((thrumlaw10_live.f).bind fun t216 => (if t216 = true then ((thrumlaw10_few.f l0 ([] : List Int)).bind fun t217 => (if t217 = true then ((quant_Press.f k l0 a1 a2 ([] : List Int)).bind fun bt218 => ((quant_Press.f k l0 a1 a3 ([] : List Int)).bind fun bt236 => (if bt218.2.2.2.2.2.2.2.2 = 0 then (thrumlaw10_QuantSure.j0 k l0 a1 t216 bt218.2.2.2.2.2.2.2.2 bt236.2.2.2.2.2.2.2.2 (bt236.2.2.2.2.2.2.2.2 != 0) bt218.1 bt218.2.1 bt218.2.2.1 bt218.2.2.2.1 bt218.2.2.2.2.1 bt218.2.2.2.2.2.1 bt218.2.2.2.2.2.2.1 bt218.2.2.2.2.2.2.2.1 bt236.1 bt236.2.1 bt236.2.2.1 bt236.2.2.2.1 bt236.2.2.2.2.1 bt236.2.2.2.2.2.1 bt236.2.2.2.2.2.2.1 bt236.2.2.2.2.2.2.2.1) else (thrumlaw10_QuantSure.j0 k l0 a1 t216 bt218.2.2.2.2.2.2.2.2 bt236.2.2.2.2.2.2.2.2 true bt218.1 bt218.2.1 bt218.2.2.1 bt218.2.2.2.1 bt218.2.2.2.2.1 bt218.2.2.2.2.2.1 bt218.2.2.2.2.2.2.1 bt218.2.2.2.2.2.2.2.1 bt236.1 bt236.2.1 bt236.2.2.1 bt236.2.2.2.1 bt236.2.2.2.2.1 bt236.2.2.2.2.2.1 bt236.2.2.2.2.2.2.1 bt236.2.2.2.2.2.2.2.1)))) else (some t216))) else (some false))) = some r := h
 clear h
 replace H := Option.bind_eq_some_iff.mp H
 obtain ⟨t216, A50, H⟩ := H
 replace H : (if t216 = true then ((thrumlaw10_few.f l0 ([] : List Int)).bind fun t217 => (if t217 = true then ((quant_Press.f k l0 a1 a2 ([] : List Int)).bind fun bt218 => ((quant_Press.f k l0 a1 a3 ([] : List Int)).bind fun bt236 => (if bt218.2.2.2.2.2.2.2.2 = 0 then (thrumlaw10_QuantSure.j0 k l0 a1 t216 bt218.2.2.2.2.2.2.2.2 bt236.2.2.2.2.2.2.2.2 (bt236.2.2.2.2.2.2.2.2 != 0) bt218.1 bt218.2.1 bt218.2.2.1 bt218.2.2.2.1 bt218.2.2.2.2.1 bt218.2.2.2.2.2.1 bt218.2.2.2.2.2.2.1 bt218.2.2.2.2.2.2.2.1 bt236.1 bt236.2.1 bt236.2.2.1 bt236.2.2.2.1 bt236.2.2.2.2.1 bt236.2.2.2.2.2.1 bt236.2.2.2.2.2.2.1 bt236.2.2.2.2.2.2.2.1) else (thrumlaw10_QuantSure.j0 k l0 a1 t216 bt218.2.2.2.2.2.2.2.2 bt236.2.2.2.2.2.2.2.2 true bt218.1 bt218.2.1 bt218.2.2.1 bt218.2.2.2.1 bt218.2.2.2.2.1 bt218.2.2.2.2.2.1 bt218.2.2.2.2.2.2.1 bt218.2.2.2.2.2.2.2.1 bt236.1 bt236.2.1 bt236.2.2.1 bt236.2.2.2.1 bt236.2.2.2.2.1 bt236.2.2.2.2.2.1 bt236.2.2.2.2.2.2.1 bt236.2.2.2.2.2.2.2.1)))) else (some t216))) else (some false)) = some r := H
 have A5 := Aside0.mk A50
 clear A50
 by_cases c6 : t216 = true
 ·
  subst c6
  have H1 : ((thrumlaw10_few.f l0 ([] : List Int)).bind fun t217 => (if t217 = true then ((quant_Press.f k l0 a1 a2 ([] : List Int)).bind fun bt218 => ((quant_Press.f k l0 a1 a3 ([] : List Int)).bind fun bt236 => (if bt218.2.2.2.2.2.2.2.2 = 0 then (thrumlaw10_QuantSure.j0 k l0 a1 true bt218.2.2.2.2.2.2.2.2 bt236.2.2.2.2.2.2.2.2 (bt236.2.2.2.2.2.2.2.2 != 0) bt218.1 bt218.2.1 bt218.2.2.1 bt218.2.2.2.1 bt218.2.2.2.2.1 bt218.2.2.2.2.2.1 bt218.2.2.2.2.2.2.1 bt218.2.2.2.2.2.2.2.1 bt236.1 bt236.2.1 bt236.2.2.1 bt236.2.2.2.1 bt236.2.2.2.2.1 bt236.2.2.2.2.2.1 bt236.2.2.2.2.2.2.1 bt236.2.2.2.2.2.2.2.1) else (thrumlaw10_QuantSure.j0 k l0 a1 true bt218.2.2.2.2.2.2.2.2 bt236.2.2.2.2.2.2.2.2 true bt218.1 bt218.2.1 bt218.2.2.1 bt218.2.2.2.1 bt218.2.2.2.2.1 bt218.2.2.2.2.2.1 bt218.2.2.2.2.2.2.1 bt218.2.2.2.2.2.2.2.1 bt236.1 bt236.2.1 bt236.2.2.1 bt236.2.2.2.1 bt236.2.2.2.2.1 bt236.2.2.2.2.2.1 bt236.2.2.2.2.2.2.1 bt236.2.2.2.2.2.2.2.1)))) else (some true))) = some r := by rw [if_pos rfl] at H; exact H
  clear H
  have H := H1
  clear H1
  replace H := Option.bind_eq_some_iff.mp H
  obtain ⟨t217, A70, H⟩ := H
  replace H : (if t217 = true then ((quant_Press.f k l0 a1 a2 ([] : List Int)).bind fun bt218 => ((quant_Press.f k l0 a1 a3 ([] : List Int)).bind fun bt236 => (if bt218.2.2.2.2.2.2.2.2 = 0 then (thrumlaw10_QuantSure.j0 k l0 a1 true bt218.2.2.2.2.2.2.2.2 bt236.2.2.2.2.2.2.2.2 (bt236.2.2.2.2.2.2.2.2 != 0) bt218.1 bt218.2.1 bt218.2.2.1 bt218.2.2.2.1 bt218.2.2.2.2.1 bt218.2.2.2.2.2.1 bt218.2.2.2.2.2.2.1 bt218.2.2.2.2.2.2.2.1 bt236.1 bt236.2.1 bt236.2.2.1 bt236.2.2.2.1 bt236.2.2.2.2.1 bt236.2.2.2.2.2.1 bt236.2.2.2.2.2.2.1 bt236.2.2.2.2.2.2.2.1) else (thrumlaw10_QuantSure.j0 k l0 a1 true bt218.2.2.2.2.2.2.2.2 bt236.2.2.2.2.2.2.2.2 true bt218.1 bt218.2.1 bt218.2.2.1 bt218.2.2.2.1 bt218.2.2.2.2.1 bt218.2.2.2.2.2.1 bt218.2.2.2.2.2.2.1 bt218.2.2.2.2.2.2.2.1 bt236.1 bt236.2.1 bt236.2.2.1 bt236.2.2.2.1 bt236.2.2.2.2.1 bt236.2.2.2.2.2.1 bt236.2.2.2.2.2.2.1 bt236.2.2.2.2.2.2.2.1)))) else (some true)) = some r := H
  have A7 := Aside0.mk A70
  clear A70
  by_cases c8 : t217 = true
  ·
   subst c8
   have H1 : ((quant_Press.f k l0 a1 a2 ([] : List Int)).bind fun bt218 => ((quant_Press.f k l0 a1 a3 ([] : List Int)).bind fun bt236 => (if bt218.2.2.2.2.2.2.2.2 = 0 then (thrumlaw10_QuantSure.j0 k l0 a1 true bt218.2.2.2.2.2.2.2.2 bt236.2.2.2.2.2.2.2.2 (bt236.2.2.2.2.2.2.2.2 != 0) bt218.1 bt218.2.1 bt218.2.2.1 bt218.2.2.2.1 bt218.2.2.2.2.1 bt218.2.2.2.2.2.1 bt218.2.2.2.2.2.2.1 bt218.2.2.2.2.2.2.2.1 bt236.1 bt236.2.1 bt236.2.2.1 bt236.2.2.2.1 bt236.2.2.2.2.1 bt236.2.2.2.2.2.1 bt236.2.2.2.2.2.2.1 bt236.2.2.2.2.2.2.2.1) else (thrumlaw10_QuantSure.j0 k l0 a1 true bt218.2.2.2.2.2.2.2.2 bt236.2.2.2.2.2.2.2.2 true bt218.1 bt218.2.1 bt218.2.2.1 bt218.2.2.2.1 bt218.2.2.2.2.1 bt218.2.2.2.2.2.1 bt218.2.2.2.2.2.2.1 bt218.2.2.2.2.2.2.2.1 bt236.1 bt236.2.1 bt236.2.2.1 bt236.2.2.2.1 bt236.2.2.2.2.1 bt236.2.2.2.2.2.1 bt236.2.2.2.2.2.2.1 bt236.2.2.2.2.2.2.2.1)))) = some r := by rw [if_pos rfl] at H; exact H
   clear H
   have H := H1
   clear H1
   replace H := Option.bind_eq_some_iff.mp H
   obtain ⟨⟨t218, t219, t220, t223, t226, t227, t228, t231, t234⟩, A90, H⟩ := H
   replace H : ((quant_Press.f k l0 a1 a3 ([] : List Int)).bind fun bt236 => (if t234 = 0 then (thrumlaw10_QuantSure.j0 k l0 a1 true t234 bt236.2.2.2.2.2.2.2.2 (bt236.2.2.2.2.2.2.2.2 != 0) t218 t219 t220 t223 t226 t227 t228 t231 bt236.1 bt236.2.1 bt236.2.2.1 bt236.2.2.2.1 bt236.2.2.2.2.1 bt236.2.2.2.2.2.1 bt236.2.2.2.2.2.2.1 bt236.2.2.2.2.2.2.2.1) else (thrumlaw10_QuantSure.j0 k l0 a1 true t234 bt236.2.2.2.2.2.2.2.2 true t218 t219 t220 t223 t226 t227 t228 t231 bt236.1 bt236.2.1 bt236.2.2.1 bt236.2.2.2.1 bt236.2.2.2.2.1 bt236.2.2.2.2.2.1 bt236.2.2.2.2.2.2.1 bt236.2.2.2.2.2.2.2.1))) = some r := H
   have A9 := Aside0.mk A90
   clear A90
   replace H := Option.bind_eq_some_iff.mp H
   obtain ⟨⟨t236, t237, t238, t241, t244, t245, t246, t249, t252⟩, A100, H⟩ := H
   replace H : (if t234 = 0 then (thrumlaw10_QuantSure.j0 k l0 a1 true t234 t252 (t252 != 0) t218 t219 t220 t223 t226 t227 t228 t231 t236 t237 t238 t241 t244 t245 t246 t249) else (thrumlaw10_QuantSure.j0 k l0 a1 true t234 t252 true t218 t219 t220 t223 t226 t227 t228 t231 t236 t237 t238 t241 t244 t245 t246 t249)) = some r := H
   have A10 := Aside0.mk A100
   clear A100
   have HC11 := Aside0.mk H
   clear H
   go_enter Try.func12, Try.ntmps12
   go_upto_region 8 with (first | (go_at_call 44; (with_reducible refine (thrumlaw10_live.calls  true _ A5.out).mono ?_); rintro e w12 ⟨rfl, hb⟩; have n0_ := Aside0.mk (zzT (by repeat (first | (with_reducible first | exact HB.out | apply zzA | apply zzN | apply zzD) | exact HB.out)) hb); clear HB; have HB := n0_; clear n0_; (try clear hb); (try clear hb2); (try clear hk); (try clear hi)) | (go_at_call 45; (refine (thrumlaw10_few.calls _ _ l0 _ _ ([] : List Int) true _ ?side1 ?side2 ?side3 ?side4 A7.out).mono ?_); (case side1 => repeat (first | exact (Kd.C_below HR0.out HB.out) | (with_reducible refine ccA ?_ _) | (with_reducible refine ccN ?_ _) | (with_reducible refine ccD ?_))); (case side2 => exact HC0.out); (case side3 => exact Kd.C_nil _ _); (case side4 => exact Nat.le_refl _); rintro e w' ⟨rfl, ⟨nd, rfl⟩⟩; (try first | exact ⟨rfl, _, wwN _ _ _⟩ | exact ⟨rfl, _, ww3 _ _ _ _⟩)) | (go_at_call 46; (fail_if_success (have h_ := HO222.out)); (refine (quant_Press.calls k _ _ l0 a1 a2 _ _ ([] : List Int) t218 t219 t220 t223 t226 t227 t228 t231 t234 _ ?side1 ?side2 ?side3 ?side4 A9.out).mono ?_); (case side1 => repeat (first | exact (Kd.C_below HR0.out (by repeat (first | (with_reducible first | exact HB.out | apply zzA | apply zzN | apply zzD) | exact HB.out))) | (with_reducible refine ccA ?_ _) | (with_reducible refine ccN ?_ _) | (with_reducible refine ccD ?_))); (case side2 => exact HC0.out); (case side3 => exact Kd.C_nil _ _); (case side4 => exact Nat.le_refl _); rintro e w13 ⟨v221, v224, v229, v232, rfl, ho0, ho1, ho2, ho3, hb⟩; have n0_ := Aside0.mk (Kd.R_lower ho0 (zzS (by repeat (first | (with_reducible first | exact HB.out | apply zzA | apply zzN | apply zzD) | exact HB.out)))); have n1_ := Aside0.mk (Kd.R_lower ho1 (zzS (by repeat (first | (with_reducible first | exact HB.out | apply zzA | apply zzN | apply zzD) | exact HB.out)))); have n2_ := Aside0.mk (Kd.R_lower ho2 (zzS (by repeat (first | (with_reducible first | exact HB.out | apply zzA | apply zzN | apply zzD) | exact HB.out)))); have n3_ := Aside0.mk (Kd.R_lower ho3 (zzS (by repeat (first | (with_reducible first | exact HB.out | apply zzA | apply zzN | apply zzD) | exact HB.out)))); have n4_ := Aside0.mk (zzT (by repeat (first | (with_reducible first | exact HB.out | apply zzA | apply zzN | apply zzD) | exact HB.out)) hb); clear HB; have HO222 := n0_; have HO225 := n1_; have HO230 := n2_; have HO233 := n3_; have HB := n4_; clear n0_ n1_ n2_ n3_ n4_; (try clear hb); (try clear hb2); (try clear hk); (try clear hi); (try clear ho0); (try clear ho1); (try clear ho2); (try clear ho3)) | ((with_reducible refine gate_dst (N := 10) rfl ?_); (try (refine gate_guard (by rfl) ?_; dsimp only)); refine box_event ?hg (N := 10) ?hd (cs := #[.int .i64 0, .int .i64 0, .slice none 0 0, .slice none 0 0, .int .i64 0, .int .i64 0, .slice none 0 0, .slice none 0 0]) (t := 30) ?hr ?_; (case hd => rfl); (case hg => rfl); (case hr => first | (go_simp; done) | (go_simp; rfl)); intro gb235 hg w14 hbox hb; have n0_ := Aside0.mk (Kd.R_below (by (with_reducible repeat (first | apply rrA | apply rrN | apply rrD)); exact HO222.out) hb); have n1_ := Aside0.mk (Kd.R_below (by (with_reducible repeat (first | apply rrA | apply rrN | apply rrD)); exact HO225.out) hb); have n2_ := Aside0.mk (Kd.R_below (by (with_reducible repeat (first | apply rrA | apply rrN | apply rrD)); exact HO230.out) hb); have n3_ := Aside0.mk (Kd.R_below (by (with_reducible repeat (first | apply rrA | apply rrN | apply rrD)); exact HO233.out) hb); have n4_ := Aside0.mk (zzT (by repeat (first | (with_reducible first | exact HB.out | apply zzA | apply zzN | apply zzD) | exact HB.out)) hb); have n5_ := Aside0.mk (hbox); have n6_ := Aside0.mk ((by rw [hg]; exact (zzS (by repeat (first | (with_reducible first | exact HB.out | apply zzA | apply zzN | apply zzD) | exact HB.out))) : w.heap.size ≤ gb235)); have n7_ := Aside0.mk ((by rw [hg]; exact (zzS (by repeat (first | (with_reducible first | exact HB.out | apply zzA | apply zzN | apply zzD) | exact HB.out))) : w.heap.size ≤ gb235)); clear HO222; clear HO225; clear HO230; clear HO233; clear HB; have HO222 := n0_; have HO225 := n1_; have HO230 := n2_; have HO233 := n3_; have HB := n4_; have BK235 := n5_; have GW235 := n6_; have GE235 := n7_; clear n0_ n1_ n2_ n3_ n4_ n5_ n6_ n7_; clear hb hbox hg; have hcz15_0 : w14.cell? ⟨gb235, 0, none⟩ = some (.int .i64 0) := (blk_cell BK235.out 0).trans rfl; have hcz15_1 : w14.cell? ⟨gb235, 1, none⟩ = some (.int .i64 0) := (blk_cell BK235.out 1).trans rfl; have hcz15_2 : w14.cell? ⟨gb235, 2, none⟩ = some (.slice none 0 0) := (blk_cell BK235.out 2).trans rfl; have hcz15_3 : w14.cell? ⟨gb235, 3, none⟩ = some (.slice none 0 0) := (blk_cell BK235.out 3).trans rfl; have hcz15_4 : w14.cell? ⟨gb235, 4, none⟩ = some (.int .i64 0) := (blk_cell BK235.out 4).trans rfl; have hcz15_5 : w14.cell? ⟨gb235, 5, none⟩ = some (.int .i64 0) := (blk_cell BK235.out 5).trans rfl; have hcz15_6 : w14.cell? ⟨gb235, 6, none⟩ = some (.slice none 0 0) := (blk_cell BK235.out 6).trans rfl; have hcz15_7 : w14.cell? ⟨gb235, 7, none⟩ = some (.slice none 0 0) := (blk_cell BK235.out 7).trans rfl; have hfz15_0 := blk_frozen BK235.out 0; have hfz15_1 := blk_frozen BK235.out 1; have hfz15_2 := blk_frozen BK235.out 2; have hfz15_3 := blk_frozen BK235.out 3; have hfz15_4 := blk_frozen BK235.out 4; have hfz15_5 := blk_frozen BK235.out 5; have hfz15_6 := blk_frozen BK235.out 6; have hfz15_7 := blk_frozen BK235.out 7; obtain ⟨Ao16, co16, eo16⟩ := Kd.R_slice HO222.out; subst eo16; obtain ⟨Ao17, co17, eo17⟩ := Kd.R_slice HO225.out; subst eo17; obtain ⟨Ao18, co18, eo18⟩ := Kd.R_slice HO230.out; subst eo18; obtain ⟨Ao19, co19, eo19⟩ := Kd.R_slice HO233.out; subst eo19) | (go_at_call 46; (refine (quant_Press.calls k _ _ l0 a1 a3 _ _ ([] : List Int) t236 t237 t238 t241 t244 t245 t246 t249 t252 _ ?side1 ?side2 ?side3 ?side4 A10.out).mono ?_); (case side1 => exact Kd.C_below HR0.out (by repeat (first | (with_reducible first | exact HB.out | apply zzA | apply zzN | apply zzD | refine below_set ?_ GE235.out) | exact HB.out))); (case side2 => exact HC0.out); (case side3 => exact Kd.C_nil _ _); (case side4 => exact Nat.le_refl _); rintro e w20 ⟨v239, v242, v247, v250, rfl, ho0, ho1, ho2, ho3, hb⟩; have n0_ := Aside0.mk (Kd.R_elder' (by (with_reducible repeat (first | apply rrA | apply rrN | apply rrD)); exact (Kd.R_mono (Kd.R_far (p := ⟨gb235, 7, none⟩) (Kd.R_far (p := ⟨gb235, 6, none⟩) (Kd.R_far (p := ⟨gb235, 5, none⟩) (Kd.R_far (p := ⟨gb235, 4, none⟩) (Kd.R_far (p := ⟨gb235, 3, none⟩) (Kd.R_far (p := ⟨gb235, 2, none⟩) (Kd.R_far (p := ⟨gb235, 1, none⟩) (Kd.R_far (p := ⟨gb235, 0, none⟩) (Kd.R_types HO222.out BK235.out (by decide)) (fun _ hk => hk.2) (.int .i64 t218)) (fun _ hk => hk.2) (.int .i64 t219)) (fun _ hk => hk.2) (.slice Ao16 t220.length co16)) (fun _ hk => hk.2) (.slice Ao17 t223.length co17)) (fun _ hk => hk.2) (.int .i64 t226)) (fun _ hk => hk.2) (.int .i64 t227)) (fun _ hk => hk.2) (.slice Ao18 t228.length co18)) (fun _ hk => hk.2) (.slice Ao19 t231.length co19)) (fun _ h_ => h_.1))) (Kd.R_base ho0) hb); have n1_ := Aside0.mk (Kd.R_elder' (by (with_reducible repeat (first | apply rrA | apply rrN | apply rrD)); exact (Kd.R_mono (Kd.R_far (p := ⟨gb235, 7, none⟩) (Kd.R_far (p := ⟨gb235, 6, none⟩) (Kd.R_far (p := ⟨gb235, 5, none⟩) (Kd.R_far (p := ⟨gb235, 4, none⟩) (Kd.R_far (p := ⟨gb235, 3, none⟩) (Kd.R_far (p := ⟨gb235, 2, none⟩) (Kd.R_far (p := ⟨gb235, 1, none⟩) (Kd.R_far (p := ⟨gb235, 0, none⟩) (Kd.R_types HO225.out BK235.out (by decide)) (fun _ hk => hk.2) (.int .i64 t218)) (fun _ hk => hk.2) (.int .i64 t219)) (fun _ hk => hk.2) (.slice Ao16 t220.length co16)) (fun _ hk => hk.2) (.slice Ao17 t223.length co17)) (fun _ hk => hk.2) (.int .i64 t226)) (fun _ hk => hk.2) (.int .i64 t227)) (fun _ hk => hk.2) (.slice Ao18 t228.length co18)) (fun _ hk => hk.2) (.slice Ao19 t231.length co19)) (fun _ h_ => h_.1))) (Kd.R_base ho1) hb); have n2_ := Aside0.mk (Kd.R_elder' (by (with_reducible repeat (first | apply rrA | apply rrN | apply rrD)); exact (Kd.R_mono (Kd.R_far (p := ⟨gb235, 7, none⟩) (Kd.R_far (p := ⟨gb235, 6, none⟩) (Kd.R_far (p := ⟨gb235, 5, none⟩) (Kd.R_far (p := ⟨gb235, 4, none⟩) (Kd.R_far (p := ⟨gb235, 3, none⟩) (Kd.R_far (p := ⟨gb235, 2, none⟩) (Kd.R_far (p := ⟨gb235, 1, none⟩) (Kd.R_far (p := ⟨gb235, 0, none⟩) (Kd.R_types HO230.out BK235.out (by decide)) (fun _ hk => hk.2) (.int .i64 t218)) (fun _ hk => hk.2) (.int .i64 t219)) (fun _ hk => hk.2) (.slice Ao16 t220.length co16)) (fun _ hk => hk.2) (.slice Ao17 t223.length co17)) (fun _ hk => hk.2) (.int .i64 t226)) (fun _ hk => hk.2) (.int .i64 t227)) (fun _ hk => hk.2) (.slice Ao18 t228.length co18)) (fun _ hk => hk.2) (.slice Ao19 t231.length co19)) (fun _ h_ => h_.1))) (Kd.R_base ho2) hb); have n3_ := Aside0.mk (Kd.R_elder' (by (with_reducible repeat (first | apply rrA | apply rrN | apply rrD)); exact (Kd.R_mono (Kd.R_far (p := ⟨gb235, 7, none⟩) (Kd.R_far (p := ⟨gb235, 6, none⟩) (Kd.R_far (p := ⟨gb235, 5, none⟩) (Kd.R_far (p := ⟨gb235, 4, none⟩) (Kd.R_far (p := ⟨gb235, 3, none⟩) (Kd.R_far (p := ⟨gb235, 2, none⟩) (Kd.R_far (p := ⟨gb235, 1, none⟩) (Kd.R_far (p := ⟨gb235, 0, none⟩) (Kd.R_types HO233.out BK235.out (by decide)) (fun _ hk => hk.2) (.int .i64 t218)) (fun _ hk => hk.2) (.int .i64 t219)) (fun _ hk => hk.2) (.slice Ao16 t220.length co16)) (fun _ hk => hk.2) (.slice Ao17 t223.length co17)) (fun _ hk => hk.2) (.int .i64 t226)) (fun _ hk => hk.2) (.int .i64 t227)) (fun _ hk => hk.2) (.slice Ao18 t228.length co18)) (fun _ hk => hk.2) (.slice Ao19 t231.length co19)) (fun _ h_ => h_.1))) (Kd.R_base ho3) hb); have n4_ := Aside0.mk (Kd.R_lower (Kd.R_new' ho0 (Kd.R_lt (by (with_reducible repeat (first | apply rrA | apply rrN | apply rrD)); exact (Kd.R_mono (Kd.R_far (p := ⟨gb235, 7, none⟩) (Kd.R_far (p := ⟨gb235, 6, none⟩) (Kd.R_far (p := ⟨gb235, 5, none⟩) (Kd.R_far (p := ⟨gb235, 4, none⟩) (Kd.R_far (p := ⟨gb235, 3, none⟩) (Kd.R_far (p := ⟨gb235, 2, none⟩) (Kd.R_far (p := ⟨gb235, 1, none⟩) (Kd.R_far (p := ⟨gb235, 0, none⟩) (Kd.R_types HO222.out BK235.out (by decide)) (fun _ hk => hk.2) (.int .i64 t218)) (fun _ hk => hk.2) (.int .i64 t219)) (fun _ hk => hk.2) (.slice Ao16 t220.length co16)) (fun _ hk => hk.2) (.slice Ao17 t223.length co17)) (fun _ hk => hk.2) (.int .i64 t226)) (fun _ hk => hk.2) (.int .i64 t227)) (fun _ hk => hk.2) (.slice Ao18 t228.length co18)) (fun _ hk => hk.2) (.slice Ao19 t231.length co19)) (fun _ h_ => h_.1))))) (zzS (by repeat (first | (with_reducible first | exact HB.out | apply zzA | apply zzN | apply zzD | refine below_set ?_ GE235.out) | exact HB.out)))); have n5_ := Aside0.mk (Kd.R_lower (Kd.R_new' ho1 (Kd.R_lt (by (with_reducible repeat (first | apply rrA | apply rrN | apply rrD)); exact (Kd.R_mono (Kd.R_far (p := ⟨gb235, 7, none⟩) (Kd.R_far (p := ⟨gb235, 6, none⟩) (Kd.R_far (p := ⟨gb235, 5, none⟩) (Kd.R_far (p := ⟨gb235, 4, none⟩) (Kd.R_far (p := ⟨gb235, 3, none⟩) (Kd.R_far (p := ⟨gb235, 2, none⟩) (Kd.R_far (p := ⟨gb235, 1, none⟩) (Kd.R_far (p := ⟨gb235, 0, none⟩) (Kd.R_types HO225.out BK235.out (by decide)) (fun _ hk => hk.2) (.int .i64 t218)) (fun _ hk => hk.2) (.int .i64 t219)) (fun _ hk => hk.2) (.slice Ao16 t220.length co16)) (fun _ hk => hk.2) (.slice Ao17 t223.length co17)) (fun _ hk => hk.2) (.int .i64 t226)) (fun _ hk => hk.2) (.int .i64 t227)) (fun _ hk => hk.2) (.slice Ao18 t228.length co18)) (fun _ hk => hk.2) (.slice Ao19 t231.length co19)) (fun _ h_ => h_.1))))) (zzS (by repeat (first | (with_reducible first | exact HB.out | apply zzA | apply zzN | apply zzD | refine below_set ?_ GE235.out) | exact HB.out)))); have n6_ := Aside0.mk (Kd.R_lower (Kd.R_new' ho2 (Kd.R_lt (by (with_reducible repeat (first | apply rrA | apply rrN | apply rrD)); exact (Kd.R_mono (Kd.R_far (p := ⟨gb235, 7, none⟩) (Kd.R_far (p := ⟨gb235, 6, none⟩) (Kd.R_far (p := ⟨gb235, 5, none⟩) (Kd.R_far (p := ⟨gb235, 4, none⟩) (Kd.R_far (p := ⟨gb235, 3, none⟩) (Kd.R_far (p := ⟨gb235, 2, none⟩) (Kd.R_far (p := ⟨gb235, 1, none⟩) (Kd.R_far (p := ⟨gb235, 0, none⟩) (Kd.R_types HO230.out BK235.out (by decide)) (fun _ hk => hk.2) (.int .i64 t218)) (fun _ hk => hk.2) (.int .i64 t219)) (fun _ hk => hk.2) (.slice Ao16 t220.length co16)) (fun _ hk => hk.2) (.slice Ao17 t223.length co17)) (fun _ hk => hk.2) (.int .i64 t226)) (fun _ hk => hk.2) (.int .i64 t227)) (fun _ hk => hk.2) (.slice Ao18 t228.length co18)) (fun _ hk => hk.2) (.slice Ao19 t231.length co19)) (fun _ h_ => h_.1))))) (zzS (by repeat (first | (with_reducible first | exact HB.out | apply zzA | apply zzN | apply zzD | refine below_set ?_ GE235.out) | exact HB.out)))); have n7_ := Aside0.mk (Kd.R_lower (Kd.R_new' ho3 (Kd.R_lt (by (with_reducible repeat (first | apply rrA | apply rrN | apply rrD)); exact (Kd.R_mono (Kd.R_far (p := ⟨gb235, 7, none⟩) (Kd.R_far (p := ⟨gb235, 6, none⟩) (Kd.R_far (p := ⟨gb235, 5, none⟩) (Kd.R_far (p := ⟨gb235, 4, none⟩) (Kd.R_far (p := ⟨gb235, 3, none⟩) (Kd.R_far (p := ⟨gb235, 2, none⟩) (Kd.R_far (p := ⟨gb235, 1, none⟩) (Kd.R_far (p := ⟨gb235, 0, none⟩) (Kd.R_types HO233.out BK235.out (by decide)) (fun _ hk => hk.2) (.int .i64 t218)) (fun _ hk => hk.2) (.int .i64 t219)) (fun _ hk => hk.2) (.slice Ao16 t220.length co16)) (fun _ hk => hk.2) (.slice Ao17 t223.length co17)) (fun _ hk => hk.2) (.int .i64 t226)) (fun _ hk => hk.2) (.int .i64 t227)) (fun _ hk => hk.2) (.slice Ao18 t228.length co18)) (fun _ hk => hk.2) (.slice Ao19 t231.length co19)) (fun _ h_ => h_.1))))) (zzS (by repeat (first | (with_reducible first | exact HB.out | apply zzA | apply zzN | apply zzD | refine below_set ?_ GE235.out) | exact HB.out)))); have n8_ := Aside0.mk (blk_below (g := gb235) (o := .cells #[.int .i64 t218, .int .i64 t219, .slice Ao16 t220.length co16, .slice Ao17 t223.length co17, .int .i64 t226, .int .i64 t227, .slice Ao18 t228.length co18, .slice Ao19 t231.length co19] 30 (0, 0)) (by (with_reducible repeat (first | refine kkN ?_ _ | refine kkD ?_ | refine kkA ?_ _)); refine blk_put (cs := #[.int .i64 t218, .int .i64 t219, .slice Ao16 t220.length co16, .slice Ao17 t223.length co17, .int .i64 t226, .int .i64 t227, .slice Ao18 t228.length co18, .slice none 0 0]) ?_ 7 _ rfl; (with_reducible repeat (first | refine kkN ?_ _ | refine kkD ?_ | refine kkA ?_ _)); refine blk_put (cs := #[.int .i64 t218, .int .i64 t219, .slice Ao16 t220.length co16, .slice Ao17 t223.length co17, .int .i64 t226, .int .i64 t227, .slice none 0 0, .slice none 0 0]) ?_ 6 _ rfl; (with_reducible repeat (first | refine kkN ?_ _ | refine kkD ?_ | refine kkA ?_ _)); refine blk_put (cs := #[.int .i64 t218, .int .i64 t219, .slice Ao16 t220.length co16, .slice Ao17 t223.length co17, .int .i64 t226, .int .i64 0, .slice none 0 0, .slice none 0 0]) ?_ 5 _ rfl; (with_reducible repeat (first | refine kkN ?_ _ | refine kkD ?_ | refine kkA ?_ _)); refine blk_put (cs := #[.int .i64 t218, .int .i64 t219, .slice Ao16 t220.length co16, .slice Ao17 t223.length co17, .int .i64 0, .int .i64 0, .slice none 0 0, .slice none 0 0]) ?_ 4 _ rfl; (with_reducible repeat (first | refine kkN ?_ _ | refine kkD ?_ | refine kkA ?_ _)); refine blk_put (cs := #[.int .i64 t218, .int .i64 t219, .slice Ao16 t220.length co16, .slice none 0 0, .int .i64 0, .int .i64 0, .slice none 0 0, .slice none 0 0]) ?_ 3 _ rfl; (with_reducible repeat (first | refine kkN ?_ _ | refine kkD ?_ | refine kkA ?_ _)); refine blk_put (cs := #[.int .i64 t218, .int .i64 t219, .slice none 0 0, .slice none 0 0, .int .i64 0, .int .i64 0, .slice none 0 0, .slice none 0 0]) ?_ 2 _ rfl; (with_reducible repeat (first | refine kkN ?_ _ | refine kkD ?_ | refine kkA ?_ _)); refine blk_put (cs := #[.int .i64 t218, .int .i64 0, .slice none 0 0, .slice none 0 0, .int .i64 0, .int .i64 0, .slice none 0 0, .slice none 0 0]) ?_ 1 _ rfl; (with_reducible repeat (first | refine kkN ?_ _ | refine kkD ?_ | refine kkA ?_ _)); refine blk_put (cs := #[.int .i64 0, .int .i64 0, .slice none 0 0, .slice none 0 0, .int .i64 0, .int .i64 0, .slice none 0 0, .slice none 0 0]) ?_ 0 _ rfl; (with_reducible repeat (first | refine kkN ?_ _ | refine kkD ?_ | refine kkA ?_ _)); exact BK235.out) hb); have n9_ := Aside0.mk (zzT (by repeat (first | (with_reducible first | exact HB.out | apply zzA | apply zzN | apply zzD | refine below_set ?_ GE235.out) | exact HB.out)) hb); clear HO222; clear HO225; clear HO230; clear HO233; clear BK235; clear HB; have HO222 := n0_; have HO225 := n1_; have HO230 := n2_; have HO233 := n3_; have HO240 := n4_; have HO243 := n5_; have HO248 := n6_; have HO251 := n7_; have BK235 := n8_; have HB := n9_; clear n0_ n1_ n2_ n3_ n4_ n5_ n6_ n7_ n8_ n9_; (try clear hb); (try clear hb2); (try clear hk); (try clear hi); (try clear ho0); (try clear ho1); (try clear ho2); (try clear ho3)) | ((with_reducible refine gate_dst (N := 12) rfl ?_); (try (refine gate_guard (by rfl) ?_; dsimp only)); refine box_event ?hg (N := 12) ?hd (cs := #[.int .i64 0, .int .i64 0, .slice none 0 0, .slice none 0 0, .int .i64 0, .int .i64 0, .slice none 0 0, .slice none 0 0]) (t := 30) ?hr ?_; (case hd => rfl); (case hg => rfl); (case hr => first | (go_simp; done) | (go_simp; rfl)); intro gb253 hg w21 hbox hb; have n0_ := Aside0.mk (Kd.R_below (by (with_reducible repeat (first | apply rrA | apply rrN | apply rrD)); exact HO222.out) hb); have n1_ := Aside0.mk (Kd.R_below (by (with_reducible repeat (first | apply rrA | apply rrN | apply rrD)); exact HO225.out) hb); have n2_ := Aside0.mk (Kd.R_below (by (with_reducible repeat (first | apply rrA | apply rrN | apply rrD)); exact HO230.out) hb); have n3_ := Aside0.mk (Kd.R_below (by (with_reducible repeat (first | apply rrA | apply rrN | apply rrD)); exact HO233.out) hb); have n4_ := Aside0.mk (Kd.R_below (by (with_reducible repeat (first | apply rrA | apply rrN | apply rrD)); exact HO240.out) hb); have n5_ := Aside0.mk (Kd.R_below (by (with_reducible repeat (first | apply rrA | apply rrN | apply rrD)); exact HO243.out) hb); have n6_ := Aside0.mk (Kd.R_below (by (with_reducible repeat (first | apply rrA | apply rrN | apply rrD)); exact HO248.out) hb); have n7_ := Aside0.mk (Kd.R_below (by (with_reducible repeat (first | apply rrA | apply rrN | apply rrD)); exact HO251.out) hb); have n8_ := Aside0.mk (blk_below (g := gb235) (o := .cells #[.int .i64 t218, .int .i64 t219, .slice Ao16 t220.length co16, .slice Ao17 t223.length co17, .int .i64 t226, .int .i64 t227, .slice Ao18 t228.length co18, .slice Ao19 t231.length co19] 30 (0, 0)) (by (with_reducible repeat (first | refine kkN ?_ _ | refine kkD ?_ | refine kkA ?_ _)); exact BK235.out) hb); have n9_ := Aside0.mk (zzT (by repeat (first | (with_reducible first | exact HB.out | apply zzA | apply zzN | apply zzD | refine below_set ?_ GE235.out) | exact HB.out)) hb); have n10_ := Aside0.mk (hbox); have n11_ := Aside0.mk ((by rw [hg]; exact (zzS (by repeat (first | (with_reducible first | exact HB.out | apply zzA | apply zzN | apply zzD | refine below_set ?_ GE235.out) | exact HB.out))) : w.heap.size ≤ gb253)); have n12_ := Aside0.mk ((by rw [hg]; exact (zzS (by repeat (first | (with_reducible first | exact HB.out | apply zzA | apply zzN | apply zzD | refine below_set ?_ GE235.out) | exact HB.out))) : w.heap.size ≤ gb253)); have n13_ := Aside0.mk ((by rw [hg]; exact Nat.ne_of_lt (blk_lt (g := gb235) (o := .cells #[.int .i64 t218, .int .i64 t219, .slice Ao16 t220.length co16, .slice Ao17 t223.length co17, .int .i64 t226, .int .i64 t227, .slice Ao18 t228.length co18, .slice Ao19 t231.length co19] 30 (0, 0)) (by (with_reducible repeat (first | refine kkN ?_ _ | refine kkD ?_ | refine kkA ?_ _)); exact BK235.out)) : gb235 ≠ gb253)); have n14_ := Aside0.mk ((by rw [hg]; exact Nat.ne_of_gt (blk_lt (g := gb235) (o := .cells #[.int .i64 t218, .int .i64 t219, .slice Ao16 t220.length co16, .slice Ao17 t223.length co17, .int .i64 t226, .int .i64 t227, .slice Ao18 t228.length co18, .slice Ao19 t231.length co19] 30 (0, 0)) (by (with_reducible repeat (first | refine kkN ?_ _ | refine kkD ?_ | refine kkA ?_ _)); exact BK235.out)) : gb253 ≠ gb235)); clear HO222; clear HO225; clear HO230; clear HO233; clear HO240; clear HO243; clear HO248; clear HO251; clear BK235; clear HB; have HO222 := n0_; have HO225 := n1_; have HO230 := n2_; have HO233 := n3_; have HO240 := n4_; have HO243 := n5_; have HO248 := n6_; have HO251 := n7_; have BK235 := n8_; have HB := n9_; have BK253 := n10_; have GW253 := n11_; have GE253 := n12_; have NB235_253 := n13_; have NB253_235 := n14_; clear n0_ n1_ n2_ n3_ n4_ n5_ n6_ n7_ n8_ n9_ n10_ n11_ n12_ n13_ n14_; clear hb hbox hg; have hnb22 := NB253_235.out; have hnc22 := NB235_253.out; have hcz23_0 : w21.cell? ⟨gb253, 0, none⟩ = some (.int .i64 0) := (blk_cell BK253.out 0).trans rfl; have hcz23_1 : w21.cell? ⟨gb253, 1, none⟩ = some (.int .i64 0) := (blk_cell BK253.out 1).trans rfl; have hcz23_2 : w21.cell? ⟨gb253, 2, none⟩ = some (.slice none 0 0) := (blk_cell BK253.out 2).trans rfl; have hcz23_3 : w21.cell? ⟨gb253, 3, none⟩ = some (.slice none 0 0) := (blk_cell BK253.out 3).trans rfl; have hcz23_4 : w21.cell? ⟨gb253, 4, none⟩ = some (.int .i64 0) := (blk_cell BK253.out 4).trans rfl; have hcz23_5 : w21.cell? ⟨gb253, 5, none⟩ = some (.int .i64 0) := (blk_cell BK253.out 5).trans rfl; have hcz23_6 : w21.cell? ⟨gb253, 6, none⟩ = some (.slice none 0 0) := (blk_cell BK253.out 6).trans rfl; have hcz23_7 : w21.cell? ⟨gb253, 7, none⟩ = some (.slice none 0 0) := (blk_cell BK253.out 7).trans rfl; have hfz23_0 := blk_frozen BK253.out 0; have hfz23_1 := blk_frozen BK253.out 1; have hfz23_2 := blk_frozen BK253.out 2; have hfz23_3 := blk_frozen BK253.out 3; have hfz23_4 := blk_frozen BK253.out 4; have hfz23_5 := blk_frozen BK253.out 5; have hfz23_6 := blk_frozen BK253.out 6; have hfz23_7 := blk_frozen BK253.out 7; obtain ⟨Ao24, co24, eo24⟩ := Kd.R_slice HO240.out; subst eo24; obtain ⟨Ao25, co25, eo25⟩ := Kd.R_slice HO243.out; subst eo25; obtain ⟨Ao26, co26, eo26⟩ := Kd.R_slice HO248.out; subst eo26; obtain ⟨Ao27, co27, eo27⟩ := Kd.R_slice HO251.out; subst eo27))
   repeat (go_quiet (first | (go_at_call 44; (with_reducible refine (thrumlaw10_live.calls  true _ A5.out).mono ?_); rintro e w12 ⟨rfl, hb⟩; have n0_ := Aside0.mk (zzT (by repeat (first | (with_reducible first | exact HB.out | apply zzA | apply zzN | apply zzD) | exact HB.out)) hb); clear HB; have HB := n0_; clear n0_; (try clear hb); (try clear hb2); (try clear hk); (try clear hi)) | (go_at_call 45; (refine (thrumlaw10_few.calls _ _ l0 _ _ ([] : List Int) true _ ?side1 ?side2 ?side3 ?side4 A7.out).mono ?_); (case side1 => repeat (first | exact (Kd.C_below HR0.out HB.out) | (with_reducible refine ccA ?_ _) | (with_reducible refine ccN ?_ _) | (with_reducible refine ccD ?_))); (case side2 => exact HC0.out); (case side3 => exact Kd.C_nil _ _); (case side4 => exact Nat.le_refl _); rintro e w' ⟨rfl, ⟨nd, rfl⟩⟩; (try first | exact ⟨rfl, _, wwN _ _ _⟩ | exact ⟨rfl, _, ww3 _ _ _ _⟩)) | (go_at_call 46; (fail_if_success (have h_ := HO222.out)); (refine (quant_Press.calls k _ _ l0 a1 a2 _ _ ([] : List Int) t218 t219 t220 t223 t226 t227 t228 t231 t234 _ ?side1 ?side2 ?side3 ?side4 A9.out).mono ?_); (case side1 => repeat (first | exact (Kd.C_below HR0.out (by repeat (first | (with_reducible first | exact HB.out | apply zzA | apply zzN | apply zzD) | exact HB.out))) | (with_reducible refine ccA ?_ _) | (with_reducible refine ccN ?_ _) | (with_reducible refine ccD ?_))); (case side2 => exact HC0.out); (case side3 => exact Kd.C_nil _ _); (case side4 => exact Nat.le_refl _); rintro e w13 ⟨v221, v224, v229, v232, rfl, ho0, ho1, ho2, ho3, hb⟩; have n0_ := Aside0.mk (Kd.R_lower ho0 (zzS (by repeat (first | (with_reducible first | exact HB.out | apply zzA | apply zzN | apply zzD) | exact HB.out)))); have n1_ := Aside0.mk (Kd.R_lower ho1 (zzS (by repeat (first | (with_reducible first | exact HB.out | apply zzA | apply zzN | apply zzD) | exact HB.out)))); have n2_ := Aside0.mk (Kd.R_lower ho2 (zzS (by repeat (first | (with_reducible first | exact HB.out | apply zzA | apply zzN | apply zzD) | exact HB.out)))); have n3_ := Aside0.mk (Kd.R_lower ho3 (zzS (by repeat (first | (with_reducible first | exact HB.out | apply zzA | apply zzN | apply zzD) | exact HB.out)))); have n4_ := Aside0.mk (zzT (by repeat (first | (with_reducible first | exact HB.out | apply zzA | apply zzN | apply zzD) | exact HB.out)) hb); clear HB; have HO222 := n0_; have HO225 := n1_; have HO230 := n2_; have HO233 := n3_; have HB := n4_; clear n0_ n1_ n2_ n3_ n4_; (try clear hb); (try clear hb2); (try clear hk); (try clear hi); (try clear ho0); (try clear ho1); (try clear ho2); (try clear ho3)) | ((with_reducible refine gate_dst (N := 10) rfl ?_); (try (refine gate_guard (by rfl) ?_; dsimp only)); refine box_event ?hg (N := 10) ?hd (cs := #[.int .i64 0, .int .i64 0, .slice none 0 0, .slice none 0 0, .int .i64 0, .int .i64 0, .slice none 0 0, .slice none 0 0]) (t := 30) ?hr ?_; (case hd => rfl); (case hg => rfl); (case hr => first | (go_simp; done) | (go_simp; rfl)); intro gb235 hg w14 hbox hb; have n0_ := Aside0.mk (Kd.R_below (by (with_reducible repeat (first | apply rrA | apply rrN | apply rrD)); exact HO222.out) hb); have n1_ := Aside0.mk (Kd.R_below (by (with_reducible repeat (first | apply rrA | apply rrN | apply rrD)); exact HO225.out) hb); have n2_ := Aside0.mk (Kd.R_below (by (with_reducible repeat (first | apply rrA | apply rrN | apply rrD)); exact HO230.out) hb); have n3_ := Aside0.mk (Kd.R_below (by (with_reducible repeat (first | apply rrA | apply rrN | apply rrD)); exact HO233.out) hb); have n4_ := Aside0.mk (zzT (by repeat (first | (with_reducible first | exact HB.out | apply zzA | apply zzN | apply zzD) | exact HB.out)) hb); have n5_ := Aside0.mk (hbox); have n6_ := Aside0.mk ((by rw [hg]; exact (zzS (by repeat (first | (with_reducible first | exact HB.out | apply zzA | apply zzN | apply zzD) | exact HB.out))) : w.heap.size ≤ gb235)); have n7_ := Aside0.mk ((by rw [hg]; exact (zzS (by repeat (first | (with_reducible first | exact HB.out | apply zzA | apply zzN | apply zzD) | exact HB.out))) : w.heap.size ≤ gb235)); clear HO222; clear HO225; clear HO230; clear HO233; clear HB; have HO222 := n0_; have HO225 := n1_; have HO230 := n2_; have HO233 := n3_; have HB := n4_; have BK235 := n5_; have GW235 := n6_; have GE235 := n7_; clear n0_ n1_ n2_ n3_ n4_ n5_ n6_ n7_; clear hb hbox hg; have hcz15_0 : w14.cell? ⟨gb235, 0, none⟩ = some (.int .i64 0) := (blk_cell BK235.out 0).trans rfl; have hcz15_1 : w14.cell? ⟨gb235, 1, none⟩ = some (.int .i64 0) := (blk_cell BK235.out 1).trans rfl; have hcz15_2 : w14.cell? ⟨gb235, 2, none⟩ = some (.slice none 0 0) := (blk_cell BK235.out 2).trans rfl; have hcz15_3 : w14.cell? ⟨gb235, 3, none⟩ = some (.slice none 0 0) := (blk_cell BK235.out 3).trans rfl; have hcz15_4 : w14.cell? ⟨gb235, 4, none⟩ = some (.int .i64 0) := (blk_cell BK235.out 4).trans rfl; have hcz15_5 : w14.cell? ⟨gb235, 5, none⟩ = some (.int .i64 0) := (blk_cell BK235.out 5).trans rfl; have hcz15_6 : w14.cell? ⟨gb235, 6, none⟩ = some (.slice none 0 0) := (blk_cell BK235.out 6).trans rfl; have hcz15_7 : w14.cell? ⟨gb235, 7, none⟩ = some (.slice none 0 0) := (blk_cell BK235.out 7).trans rfl; have hfz15_0 := blk_frozen BK235.out 0; have hfz15_1 := blk_frozen BK235.out 1; have hfz15_2 := blk_frozen BK235.out 2; have hfz15_3 := blk_frozen BK235.out 3; have hfz15_4 := blk_frozen BK235.out 4; have hfz15_5 := blk_frozen BK235.out 5; have hfz15_6 := blk_frozen BK235.out 6; have hfz15_7 := blk_frozen BK235.out 7; obtain ⟨Ao16, co16, eo16⟩ := Kd.R_slice HO222.out; subst eo16; obtain ⟨Ao17, co17, eo17⟩ := Kd.R_slice HO225.out; subst eo17; obtain ⟨Ao18, co18, eo18⟩ := Kd.R_slice HO230.out; subst eo18; obtain ⟨Ao19, co19, eo19⟩ := Kd.R_slice HO233.out; subst eo19) | (go_at_call 46; (refine (quant_Press.calls k _ _ l0 a1 a3 _ _ ([] : List Int) t236 t237 t238 t241 t244 t245 t246 t249 t252 _ ?side1 ?side2 ?side3 ?side4 A10.out).mono ?_); (case side1 => exact Kd.C_below HR0.out (by repeat (first | (with_reducible first | exact HB.out | apply zzA | apply zzN | apply zzD | refine below_set ?_ GE235.out) | exact HB.out))); (case side2 => exact HC0.out); (case side3 => exact Kd.C_nil _ _); (case side4 => exact Nat.le_refl _); rintro e w20 ⟨v239, v242, v247, v250, rfl, ho0, ho1, ho2, ho3, hb⟩; have n0_ := Aside0.mk (Kd.R_elder' (by (with_reducible repeat (first | apply rrA | apply rrN | apply rrD)); exact (Kd.R_mono (Kd.R_far (p := ⟨gb235, 7, none⟩) (Kd.R_far (p := ⟨gb235, 6, none⟩) (Kd.R_far (p := ⟨gb235, 5, none⟩) (Kd.R_far (p := ⟨gb235, 4, none⟩) (Kd.R_far (p := ⟨gb235, 3, none⟩) (Kd.R_far (p := ⟨gb235, 2, none⟩) (Kd.R_far (p := ⟨gb235, 1, none⟩) (Kd.R_far (p := ⟨gb235, 0, none⟩) (Kd.R_types HO222.out BK235.out (by decide)) (fun _ hk => hk.2) (.int .i64 t218)) (fun _ hk => hk.2) (.int .i64 t219)) (fun _ hk => hk.2) (.slice Ao16 t220.length co16)) (fun _ hk => hk.2) (.slice Ao17 t223.length co17)) (fun _ hk => hk.2) (.int .i64 t226)) (fun _ hk => hk.2) (.int .i64 t227)) (fun _ hk => hk.2) (.slice Ao18 t228.length co18)) (fun _ hk => hk.2) (.slice Ao19 t231.length co19)) (fun _ h_ => h_.1))) (Kd.R_base ho0) hb); have n1_ := Aside0.mk (Kd.R_elder' (by (with_reducible repeat (first | apply rrA | apply rrN | apply rrD)); exact (Kd.R_mono (Kd.R_far (p := ⟨gb235, 7, none⟩) (Kd.R_far (p := ⟨gb235, 6, none⟩) (Kd.R_far (p := ⟨gb235, 5, none⟩) (Kd.R_far (p := ⟨gb235, 4, none⟩) (Kd.R_far (p := ⟨gb235, 3, none⟩) (Kd.R_far (p := ⟨gb235, 2, none⟩) (Kd.R_far (p := ⟨gb235, 1, none⟩) (Kd.R_far (p := ⟨gb235, 0, none⟩) (Kd.R_types HO225.out BK235.out (by decide)) (fun _ hk => hk.2) (.int .i64 t218)) (fun _ hk => hk.2) (.int .i64 t219)) (fun _ hk => hk.2) (.slice Ao16 t220.length co16)) (fun _ hk => hk.2) (.slice Ao17 t223.length co17)) (fun _ hk => hk.2) (.int .i64 t226)) (fun _ hk => hk.2) (.int .i64 t227)) (fun _ hk => hk.2) (.slice Ao18 t228.length co18)) (fun _ hk => hk.2) (.slice Ao19 t231.length co19)) (fun _ h_ => h_.1))) (Kd.R_base ho1) hb); have n2_ := Aside0.mk (Kd.R_elder' (by (with_reducible repeat (first | apply rrA | apply rrN | apply rrD)); exact (Kd.R_mono (Kd.R_far (p := ⟨gb235, 7, none⟩) (Kd.R_far (p := ⟨gb235, 6, none⟩) (Kd.R_far (p := ⟨gb235, 5, none⟩) (Kd.R_far (p := ⟨gb235, 4, none⟩) (Kd.R_far (p := ⟨gb235, 3, none⟩) (Kd.R_far (p := ⟨gb235, 2, none⟩) (Kd.R_far (p := ⟨gb235, 1, none⟩) (Kd.R_far (p := ⟨gb235, 0, none⟩) (Kd.R_types HO230.out BK235.out (by decide)) (fun _ hk => hk.2) (.int .i64 t218)) (fun _ hk => hk.2) (.int .i64 t219)) (fun _ hk => hk.2) (.slice Ao16 t220.length co16)) (fun _ hk => hk.2) (.slice Ao17 t223.length co17)) (fun _ hk => hk.2) (.int .i64 t226)) (fun _ hk => hk.2) (.int .i64 t227)) (fun _ hk => hk.2) (.slice Ao18 t228.length co18)) (fun _ hk => hk.2) (.slice Ao19 t231.length co19)) (fun _ h_ => h_.1))) (Kd.R_base ho2) hb); have n3_ := Aside0.mk (Kd.R_elder' (by (with_reducible repeat (first | apply rrA | apply rrN | apply rrD)); exact (Kd.R_mono (Kd.R_far (p := ⟨gb235, 7, none⟩) (Kd.R_far (p := ⟨gb235, 6, none⟩) (Kd.R_far (p := ⟨gb235, 5, none⟩) (Kd.R_far (p := ⟨gb235, 4, none⟩) (Kd.R_far (p := ⟨gb235, 3, none⟩) (Kd.R_far (p := ⟨gb235, 2, none⟩) (Kd.R_far (p := ⟨gb235, 1, none⟩) (Kd.R_far (p := ⟨gb235, 0, none⟩) (Kd.R_types HO233.out BK235.out (by decide)) (fun _ hk => hk.2) (.int .i64 t218)) (fun _ hk => hk.2) (.int .i64 t219)) (fun _ hk => hk.2) (.slice Ao16 t220.length co16)) (fun _ hk => hk.2) (.slice Ao17 t223.length co17)) (fun _ hk => hk.2) (.int .i64 t226)) (fun _ hk => hk.2) (.int .i64 t227)) (fun _ hk => hk.2) (.slice Ao18 t228.length co18)) (fun _ hk => hk.2) (.slice Ao19 t231.length co19)) (fun _ h_ => h_.1))) (Kd.R_base ho3) hb); have n4_ := Aside0.mk (Kd.R_lower (Kd.R_new' ho0 (Kd.R_lt (by (with_reducible repeat (first | apply rrA | apply rrN | apply rrD)); exact (Kd.R_mono (Kd.R_far (p := ⟨gb235, 7, none⟩) (Kd.R_far (p := ⟨gb235, 6, none⟩) (Kd.R_far (p := ⟨gb235, 5, none⟩) (Kd.R_far (p := ⟨gb235, 4, none⟩) (Kd.R_far (p := ⟨gb235, 3, none⟩) (Kd.R_far (p := ⟨gb235, 2, none⟩) (Kd.R_far (p := ⟨gb235, 1, none⟩) (Kd.R_far (p := ⟨gb235, 0, none⟩) (Kd.R_types HO222.out BK235.out (by decide)) (fun _ hk => hk.2) (.int .i64 t218)) (fun _ hk => hk.2) (.int .i64 t219)) (fun _ hk => hk.2) (.slice Ao16 t220.length co16)) (fun _ hk => hk.2) (.slice Ao17 t223.length co17)) (fun _ hk => hk.2) (.int .i64 t226)) (fun _ hk => hk.2) (.int .i64 t227)) (fun _ hk => hk.2) (.slice Ao18 t228.length co18)) (fun _ hk => hk.2) (.slice Ao19 t231.length co19)) (fun _ h_ => h_.1))))) (zzS (by repeat (first | (with_reducible first | exact HB.out | apply zzA | apply zzN | apply zzD | refine below_set ?_ GE235.out) | exact HB.out)))); have n5_ := Aside0.mk (Kd.R_lower (Kd.R_new' ho1 (Kd.R_lt (by (with_reducible repeat (first | apply rrA | apply rrN | apply rrD)); exact (Kd.R_mono (Kd.R_far (p := ⟨gb235, 7, none⟩) (Kd.R_far (p := ⟨gb235, 6, none⟩) (Kd.R_far (p := ⟨gb235, 5, none⟩) (Kd.R_far (p := ⟨gb235, 4, none⟩) (Kd.R_far (p := ⟨gb235, 3, none⟩) (Kd.R_far (p := ⟨gb235, 2, none⟩) (Kd.R_far (p := ⟨gb235, 1, none⟩) (Kd.R_far (p := ⟨gb235, 0, none⟩) (Kd.R_types HO225.out BK235.out (by decide)) (fun _ hk => hk.2) (.int .i64 t218)) (fun _ hk => hk.2) (.int .i64 t219)) (fun _ hk => hk.2) (.slice Ao16 t220.length co16)) (fun _ hk => hk.2) (.slice Ao17 t223.length co17)) (fun _ hk => hk.2) (.int .i64 t226)) (fun _ hk => hk.2) (.int .i64 t227)) (fun _ hk => hk.2) (.slice Ao18 t228.length co18)) (fun _ hk => hk.2) (.slice Ao19 t231.length co19)) (fun _ h_ => h_.1))))) (zzS (by repeat (first | (with_reducible first | exact HB.out | apply zzA | apply zzN | apply zzD | refine below_set ?_ GE235.out) | exact HB.out)))); have n6_ := Aside0.mk (Kd.R_lower (Kd.R_new' ho2 (Kd.R_lt (by (with_reducible repeat (first | apply rrA | apply rrN | apply rrD)); exact (Kd.R_mono (Kd.R_far (p := ⟨gb235, 7, none⟩) (Kd.R_far (p := ⟨gb235, 6, none⟩) (Kd.R_far (p := ⟨gb235, 5, none⟩) (Kd.R_far (p := ⟨gb235, 4, none⟩) (Kd.R_far (p := ⟨gb235, 3, none⟩) (Kd.R_far (p := ⟨gb235, 2, none⟩) (Kd.R_far (p := ⟨gb235, 1, none⟩) (Kd.R_far (p := ⟨gb235, 0, none⟩) (Kd.R_types HO230.out BK235.out (by decide)) (fun _ hk => hk.2) (.int .i64 t218)) (fun _ hk => hk.2) (.int .i64 t219)) (fun _ hk => hk.2) (.slice Ao16 t220.length co16)) (fun _ hk => hk.2) (.slice Ao17 t223.length co17)) (fun _ hk => hk.2) (.int .i64 t226)) (fun _ hk => hk.2) (.int .i64 t227)) (fun _ hk => hk.2) (.slice Ao18 t228.length co18)) (fun _ hk => hk.2) (.slice Ao19 t231.length co19)) (fun _ h_ => h_.1))))) (zzS (by repeat (first | (with_reducible first | exact HB.out | apply zzA | apply zzN | apply zzD | refine below_set ?_ GE235.out) | exact HB.out)))); have n7_ := Aside0.mk (Kd.R_lower (Kd.R_new' ho3 (Kd.R_lt (by (with_reducible repeat (first | apply rrA | apply rrN | apply rrD)); exact (Kd.R_mono (Kd.R_far (p := ⟨gb235, 7, none⟩) (Kd.R_far (p := ⟨gb235, 6, none⟩) (Kd.R_far (p := ⟨gb235, 5, none⟩) (Kd.R_far (p := ⟨gb235, 4, none⟩) (Kd.R_far (p := ⟨gb235, 3, none⟩) (Kd.R_far (p := ⟨gb235, 2, none⟩) (Kd.R_far (p := ⟨gb235, 1, none⟩) (Kd.R_far (p := ⟨gb235, 0, none⟩) (Kd.R_types HO233.out BK235.out (by decide)) (fun _ hk => hk.2) (.int .i64 t218)) (fun _ hk => hk.2) (.int .i64 t219)) (fun _ hk => hk.2) (.slice Ao16 t220.length co16)) (fun _ hk => hk.2) (.slice Ao17 t223.length co17)) (fun _ hk => hk.2) (.int .i64 t226)) (fun _ hk => hk.2) (.int .i64 t227)) (fun _ hk => hk.2) (.slice Ao18 t228.length co18)) (fun _ hk => hk.2) (.slice Ao19 t231.length co19)) (fun _ h_ => h_.1))))) (zzS (by repeat (first | (with_reducible first | exact HB.out | apply zzA | apply zzN | apply zzD | refine below_set ?_ GE235.out) | exact HB.out)))); have n8_ := Aside0.mk (blk_below (g := gb235) (o := .cells #[.int .i64 t218, .int .i64 t219, .slice Ao16 t220.length co16, .slice Ao17 t223.length co17, .int .i64 t226, .int .i64 t227, .slice Ao18 t228.length co18, .slice Ao19 t231.length co19] 30 (0, 0)) (by (with_reducible repeat (first | refine kkN ?_ _ | refine kkD ?_ | refine kkA ?_ _)); refine blk_put (cs := #[.int .i64 t218, .int .i64 t219, .slice Ao16 t220.length co16, .slice Ao17 t223.length co17, .int .i64 t226, .int .i64 t227, .slice Ao18 t228.length co18, .slice none 0 0]) ?_ 7 _ rfl; (with_reducible repeat (first | refine kkN ?_ _ | refine kkD ?_ | refine kkA ?_ _)); refine blk_put (cs := #[.int .i64 t218, .int .i64 t219, .slice Ao16 t220.length co16, .slice Ao17 t223.length co17, .int .i64 t226, .int .i64 t227, .slice none 0 0, .slice none 0 0]) ?_ 6 _ rfl; (with_reducible repeat (first | refine kkN ?_ _ | refine kkD ?_ | refine kkA ?_ _)); refine blk_put (cs := #[.int .i64 t218, .int .i64 t219, .slice Ao16 t220.length co16, .slice Ao17 t223.length co17, .int .i64 t226, .int .i64 0, .slice none 0 0, .slice none 0 0]) ?_ 5 _ rfl; (with_reducible repeat (first | refine kkN ?_ _ | refine kkD ?_ | refine kkA ?_ _)); refine blk_put (cs := #[.int .i64 t218, .int .i64 t219, .slice Ao16 t220.length co16, .slice Ao17 t223.length co17, .int .i64 0, .int .i64 0, .slice none 0 0, .slice none 0 0]) ?_ 4 _ rfl; (with_reducible repeat (first | refine kkN ?_ _ | refine kkD ?_ | refine kkA ?_ _)); refine blk_put (cs := #[.int .i64 t218, .int .i64 t219, .slice Ao16 t220.length co16, .slice none 0 0, .int .i64 0, .int .i64 0, .slice none 0 0, .slice none 0 0]) ?_ 3 _ rfl; (with_reducible repeat (first | refine kkN ?_ _ | refine kkD ?_ | refine kkA ?_ _)); refine blk_put (cs := #[.int .i64 t218, .int .i64 t219, .slice none 0 0, .slice none 0 0, .int .i64 0, .int .i64 0, .slice none 0 0, .slice none 0 0]) ?_ 2 _ rfl; (with_reducible repeat (first | refine kkN ?_ _ | refine kkD ?_ | refine kkA ?_ _)); refine blk_put (cs := #[.int .i64 t218, .int .i64 0, .slice none 0 0, .slice none 0 0, .int .i64 0, .int .i64 0, .slice none 0 0, .slice none 0 0]) ?_ 1 _ rfl; (with_reducible repeat (first | refine kkN ?_ _ | refine kkD ?_ | refine kkA ?_ _)); refine blk_put (cs := #[.int .i64 0, .int .i64 0, .slice none 0 0, .slice none 0 0, .int .i64 0, .int .i64 0, .slice none 0 0, .slice none 0 0]) ?_ 0 _ rfl; (with_reducible repeat (first | refine kkN ?_ _ | refine kkD ?_ | refine kkA ?_ _)); exact BK235.out) hb); have n9_ := Aside0.mk (zzT (by repeat (first | (with_reducible first | exact HB.out | apply zzA | apply zzN | apply zzD | refine below_set ?_ GE235.out) | exact HB.out)) hb); clear HO222; clear HO225; clear HO230; clear HO233; clear BK235; clear HB; have HO222 := n0_; have HO225 := n1_; have HO230 := n2_; have HO233 := n3_; have HO240 := n4_; have HO243 := n5_; have HO248 := n6_; have HO251 := n7_; have BK235 := n8_; have HB := n9_; clear n0_ n1_ n2_ n3_ n4_ n5_ n6_ n7_ n8_ n9_; (try clear hb); (try clear hb2); (try clear hk); (try clear hi); (try clear ho0); (try clear ho1); (try clear ho2); (try clear ho3)) | ((with_reducible refine gate_dst (N := 12) rfl ?_); (try (refine gate_guard (by rfl) ?_; dsimp only)); refine box_event ?hg (N := 12) ?hd (cs := #[.int .i64 0, .int .i64 0, .slice none 0 0, .slice none 0 0, .int .i64 0, .int .i64 0, .slice none 0 0, .slice none 0 0]) (t := 30) ?hr ?_; (case hd => rfl); (case hg => rfl); (case hr => first | (go_simp; done) | (go_simp; rfl)); intro gb253 hg w21 hbox hb; have n0_ := Aside0.mk (Kd.R_below (by (with_reducible repeat (first | apply rrA | apply rrN | apply rrD)); exact HO222.out) hb); have n1_ := Aside0.mk (Kd.R_below (by (with_reducible repeat (first | apply rrA | apply rrN | apply rrD)); exact HO225.out) hb); have n2_ := Aside0.mk (Kd.R_below (by (with_reducible repeat (first | apply rrA | apply rrN | apply rrD)); exact HO230.out) hb); have n3_ := Aside0.mk (Kd.R_below (by (with_reducible repeat (first | apply rrA | apply rrN | apply rrD)); exact HO233.out) hb); have n4_ := Aside0.mk (Kd.R_below (by (with_reducible repeat (first | apply rrA | apply rrN | apply rrD)); exact HO240.out) hb); have n5_ := Aside0.mk (Kd.R_below (by (with_reducible repeat (first | apply rrA | apply rrN | apply rrD)); exact HO243.out) hb); have n6_ := Aside0.mk (Kd.R_below (by (with_reducible repeat (first | apply rrA | apply rrN | apply rrD)); exact HO248.out) hb); have n7_ := Aside0.mk (Kd.R_below (by (with_reducible repeat (first | apply rrA | apply rrN | apply rrD)); exact HO251.out) hb); have n8_ := Aside0.mk (blk_below (g := gb235) (o := .cells #[.int .i64 t218, .int .i64 t219, .slice Ao16 t220.length co16, .slice Ao17 t223.length co17, .int .i64 t226, .int .i64 t227, .slice Ao18 t228.length co18, .slice Ao19 t231.length co19] 30 (0, 0)) (by (with_reducible repeat (first | refine kkN ?_ _ | refine kkD ?_ | refine kkA ?_ _)); exact BK235.out) hb); have n9_ := Aside0.mk (zzT (by repeat (first | (with_reducible first | exact HB.out | apply zzA | apply zzN | apply zzD | refine below_set ?_ GE235.out) | exact HB.out)) hb); have n10_ := Aside0.mk (hbox); have n11_ := Aside0.mk ((by rw [hg]; exact (zzS (by repeat (first | (with_reducible first | exact HB.out | apply zzA | apply zzN | apply zzD | refine below_set ?_ GE235.out) | exact HB.out))) : w.heap.size ≤ gb253)); have n12_ := Aside0.mk ((by rw [hg]; exact (zzS (by repeat (first | (with_reducible first | exact HB.out | apply zzA | apply zzN | apply zzD | refine below_set ?_ GE235.out) | exact HB.out))) : w.heap.size ≤ gb253)); have n13_ := Aside0.mk ((by rw [hg]; exact Nat.ne_of_lt (blk_lt (g := gb235) (o := .cells #[.int .i64 t218, .int .i64 t219, .slice Ao16 t220.length co16, .slice Ao17 t223.length co17, .int .i64 t226, .int .i64 t227, .slice Ao18 t228.length co18, .slice Ao19 t231.length co19] 30 (0, 0)) (by (with_reducible repeat (first | refine kkN ?_ _ | refine kkD ?_ | refine kkA ?_ _)); exact BK235.out)) : gb235 ≠ gb253)); have n14_ := Aside0.mk ((by rw [hg]; exact Nat.ne_of_gt (blk_lt (g := gb235) (o := .cells #[.int .i64 t218, .int .i64 t219, .slice Ao16 t220.length co16, .slice Ao17 t223.length co17, .int .i64 t226, .int .i64 t227, .slice Ao18 t228.length co18, .slice Ao19 t231.length co19] 30 (0, 0)) (by (with_reducible repeat (first | refine kkN ?_ _ | refine kkD ?_ | refine kkA ?_ _)); exact BK235.out)) : gb253 ≠ gb235)); clear HO222; clear HO225; clear HO230; clear HO233; clear HO240; clear HO243; clear HO248; clear HO251; clear BK235; clear HB; have HO222 := n0_; have HO225 := n1_; have HO230 := n2_; have HO233 := n3_; have HO240 := n4_; have HO243 := n5_; have HO248 := n6_; have HO251 := n7_; have BK235 := n8_; have HB := n9_; have BK253 := n10_; have GW253 := n11_; have GE253 := n12_; have NB235_253 := n13_; have NB253_235 := n14_; clear n0_ n1_ n2_ n3_ n4_ n5_ n6_ n7_ n8_ n9_ n10_ n11_ n12_ n13_ n14_; clear hb hbox hg; have hnb22 := NB253_235.out; have hnc22 := NB235_253.out; have hcz23_0 : w21.cell? ⟨gb253, 0, none⟩ = some (.int .i64 0) := (blk_cell BK253.out 0).trans rfl; have hcz23_1 : w21.cell? ⟨gb253, 1, none⟩ = some (.int .i64 0) := (blk_cell BK253.out 1).trans rfl; have hcz23_2 : w21.cell? ⟨gb253, 2, none⟩ = some (.slice none 0 0) := (blk_cell BK253.out 2).trans rfl; have hcz23_3 : w21.cell? ⟨gb253, 3, none⟩ = some (.slice none 0 0) := (blk_cell BK253.out 3).trans rfl; have hcz23_4 : w21.cell? ⟨gb253, 4, none⟩ = some (.int .i64 0) := (blk_cell BK253.out 4).trans rfl; have hcz23_5 : w21.cell? ⟨gb253, 5, none⟩ = some (.int .i64 0) := (blk_cell BK253.out 5).trans rfl; have hcz23_6 : w21.cell? ⟨gb253, 6, none⟩ = some (.slice none 0 0) := (blk_cell BK253.out 6).trans rfl; have hcz23_7 : w21.cell? ⟨gb253, 7, none⟩ = some (.slice none 0 0) := (blk_cell BK253.out 7).trans rfl; have hfz23_0 := blk_frozen BK253.out 0; have hfz23_1 := blk_frozen BK253.out 1; have hfz23_2 := blk_frozen BK253.out 2; have hfz23_3 := blk_frozen BK253.out 3; have hfz23_4 := blk_frozen BK253.out 4; have hfz23_5 := blk_frozen BK253.out 5; have hfz23_6 := blk_frozen BK253.out 6; have hfz23_7 := blk_frozen BK253.out 7; obtain ⟨Ao24, co24, eo24⟩ := Kd.R_slice HO240.out; subst eo24; obtain ⟨Ao25, co25, eo25⟩ := Kd.R_slice HO243.out; subst eo25; obtain ⟨Ao26, co26, eo26⟩ := Kd.R_slice HO248.out; subst eo26; obtain ⟨Ao27, co27, eo27⟩ := Kd.R_slice HO251.out; subst eo27)); go_upto_region 8 with (first | (go_at_call 44; (with_reducible refine (thrumlaw10_live.calls  true _ A5.out).mono ?_); rintro e w12 ⟨rfl, hb⟩; have n0_ := Aside0.mk (zzT (by repeat (first | (with_reducible first | exact HB.out | apply zzA | apply zzN | apply zzD) | exact HB.out)) hb); clear HB; have HB := n0_; clear n0_; (try clear hb); (try clear hb2); (try clear hk); (try clear hi)) | (go_at_call 45; (refine (thrumlaw10_few.calls _ _ l0 _ _ ([] : List Int) true _ ?side1 ?side2 ?side3 ?side4 A7.out).mono ?_); (case side1 => repeat (first | exact (Kd.C_below HR0.out HB.out) | (with_reducible refine ccA ?_ _) | (with_reducible refine ccN ?_ _) | (with_reducible refine ccD ?_))); (case side2 => exact HC0.out); (case side3 => exact Kd.C_nil _ _); (case side4 => exact Nat.le_refl _); rintro e w' ⟨rfl, ⟨nd, rfl⟩⟩; (try first | exact ⟨rfl, _, wwN _ _ _⟩ | exact ⟨rfl, _, ww3 _ _ _ _⟩)) | (go_at_call 46; (fail_if_success (have h_ := HO222.out)); (refine (quant_Press.calls k _ _ l0 a1 a2 _ _ ([] : List Int) t218 t219 t220 t223 t226 t227 t228 t231 t234 _ ?side1 ?side2 ?side3 ?side4 A9.out).mono ?_); (case side1 => repeat (first | exact (Kd.C_below HR0.out (by repeat (first | (with_reducible first | exact HB.out | apply zzA | apply zzN | apply zzD) | exact HB.out))) | (with_reducible refine ccA ?_ _) | (with_reducible refine ccN ?_ _) | (with_reducible refine ccD ?_))); (case side2 => exact HC0.out); (case side3 => exact Kd.C_nil _ _); (case side4 => exact Nat.le_refl _); rintro e w13 ⟨v221, v224, v229, v232, rfl, ho0, ho1, ho2, ho3, hb⟩; have n0_ := Aside0.mk (Kd.R_lower ho0 (zzS (by repeat (first | (with_reducible first | exact HB.out | apply zzA | apply zzN | apply zzD) | exact HB.out)))); have n1_ := Aside0.mk (Kd.R_lower ho1 (zzS (by repeat (first | (with_reducible first | exact HB.out | apply zzA | apply zzN | apply zzD) | exact HB.out)))); have n2_ := Aside0.mk (Kd.R_lower ho2 (zzS (by repeat (first | (with_reducible first | exact HB.out | apply zzA | apply zzN | apply zzD) | exact HB.out)))); have n3_ := Aside0.mk (Kd.R_lower ho3 (zzS (by repeat (first | (with_reducible first | exact HB.out | apply zzA | apply zzN | apply zzD) | exact HB.out)))); have n4_ := Aside0.mk (zzT (by repeat (first | (with_reducible first | exact HB.out | apply zzA | apply zzN | apply zzD) | exact HB.out)) hb); clear HB; have HO222 := n0_; have HO225 := n1_; have HO230 := n2_; have HO233 := n3_; have HB := n4_; clear n0_ n1_ n2_ n3_ n4_; (try clear hb); (try clear hb2); (try clear hk); (try clear hi); (try clear ho0); (try clear ho1); (try clear ho2); (try clear ho3)) | ((with_reducible refine gate_dst (N := 10) rfl ?_); (try (refine gate_guard (by rfl) ?_; dsimp only)); refine box_event ?hg (N := 10) ?hd (cs := #[.int .i64 0, .int .i64 0, .slice none 0 0, .slice none 0 0, .int .i64 0, .int .i64 0, .slice none 0 0, .slice none 0 0]) (t := 30) ?hr ?_; (case hd => rfl); (case hg => rfl); (case hr => first | (go_simp; done) | (go_simp; rfl)); intro gb235 hg w14 hbox hb; have n0_ := Aside0.mk (Kd.R_below (by (with_reducible repeat (first | apply rrA | apply rrN | apply rrD)); exact HO222.out) hb); have n1_ := Aside0.mk (Kd.R_below (by (with_reducible repeat (first | apply rrA | apply rrN | apply rrD)); exact HO225.out) hb); have n2_ := Aside0.mk (Kd.R_below (by (with_reducible repeat (first | apply rrA | apply rrN | apply rrD)); exact HO230.out) hb); have n3_ := Aside0.mk (Kd.R_below (by (with_reducible repeat (first | apply rrA | apply rrN | apply rrD)); exact HO233.out) hb); have n4_ := Aside0.mk (zzT (by repeat (first | (with_reducible first | exact HB.out | apply zzA | apply zzN | apply zzD) | exact HB.out)) hb); have n5_ := Aside0.mk (hbox); have n6_ := Aside0.mk ((by rw [hg]; exact (zzS (by repeat (first | (with_reducible first | exact HB.out | apply zzA | apply zzN | apply zzD) | exact HB.out))) : w.heap.size ≤ gb235)); have n7_ := Aside0.mk ((by rw [hg]; exact (zzS (by repeat (first | (with_reducible first | exact HB.out | apply zzA | apply zzN | apply zzD) | exact HB.out))) : w.heap.size ≤ gb235)); clear HO222; clear HO225; clear HO230; clear HO233; clear HB; have HO222 := n0_; have HO225 := n1_; have HO230 := n2_; have HO233 := n3_; have HB := n4_; have BK235 := n5_; have GW235 := n6_; have GE235 := n7_; clear n0_ n1_ n2_ n3_ n4_ n5_ n6_ n7_; clear hb hbox hg; have hcz15_0 : w14.cell? ⟨gb235, 0, none⟩ = some (.int .i64 0) := (blk_cell BK235.out 0).trans rfl; have hcz15_1 : w14.cell? ⟨gb235, 1, none⟩ = some (.int .i64 0) := (blk_cell BK235.out 1).trans rfl; have hcz15_2 : w14.cell? ⟨gb235, 2, none⟩ = some (.slice none 0 0) := (blk_cell BK235.out 2).trans rfl; have hcz15_3 : w14.cell? ⟨gb235, 3, none⟩ = some (.slice none 0 0) := (blk_cell BK235.out 3).trans rfl; have hcz15_4 : w14.cell? ⟨gb235, 4, none⟩ = some (.int .i64 0) := (blk_cell BK235.out 4).trans rfl; have hcz15_5 : w14.cell? ⟨gb235, 5, none⟩ = some (.int .i64 0) := (blk_cell BK235.out 5).trans rfl; have hcz15_6 : w14.cell? ⟨gb235, 6, none⟩ = some (.slice none 0 0) := (blk_cell BK235.out 6).trans rfl; have hcz15_7 : w14.cell? ⟨gb235, 7, none⟩ = some (.slice none 0 0) := (blk_cell BK235.out 7).trans rfl; have hfz15_0 := blk_frozen BK235.out 0; have hfz15_1 := blk_frozen BK235.out 1; have hfz15_2 := blk_frozen BK235.out 2; have hfz15_3 := blk_frozen BK235.out 3; have hfz15_4 := blk_frozen BK235.out 4; have hfz15_5 := blk_frozen BK235.out 5; have hfz15_6 := blk_frozen BK235.out 6; have hfz15_7 := blk_frozen BK235.out 7; obtain ⟨Ao16, co16, eo16⟩ := Kd.R_slice HO222.out; subst eo16; obtain ⟨Ao17, co17, eo17⟩ := Kd.R_slice HO225.out; subst eo17; obtain ⟨Ao18, co18, eo18⟩ := Kd.R_slice HO230.out; subst eo18; obtain ⟨Ao19, co19, eo19⟩ := Kd.R_slice HO233.out; subst eo19) | (go_at_call 46; (refine (quant_Press.calls k _ _ l0 a1 a3 _ _ ([] : List Int) t236 t237 t238 t241 t244 t245 t246 t249 t252 _ ?side1 ?side2 ?side3 ?side4 A10.out).mono ?_); (case side1 => exact Kd.C_below HR0.out (by repeat (first | (with_reducible first | exact HB.out | apply zzA | apply zzN | apply zzD | refine below_set ?_ GE235.out) | exact HB.out))); (case side2 => exact HC0.out); (case side3 => exact Kd.C_nil _ _); (case side4 => exact Nat.le_refl _); rintro e w20 ⟨v239, v242, v247, v250, rfl, ho0, ho1, ho2, ho3, hb⟩; have n0_ := Aside0.mk (Kd.R_elder' (by (with_reducible repeat (first | apply rrA | apply rrN | apply rrD)); exact (Kd.R_mono (Kd.R_far (p := ⟨gb235, 7, none⟩) (Kd.R_far (p := ⟨gb235, 6, none⟩) (Kd.R_far (p := ⟨gb235, 5, none⟩) (Kd.R_far (p := ⟨gb235, 4, none⟩) (Kd.R_far (p := ⟨gb235, 3, none⟩) (Kd.R_far (p := ⟨gb235, 2, none⟩) (Kd.R_far (p := ⟨gb235, 1, none⟩) (Kd.R_far (p := ⟨gb235, 0, none⟩) (Kd.R_types HO222.out BK235.out (by decide)) (fun _ hk => hk.2) (.int .i64 t218)) (fun _ hk => hk.2) (.int .i64 t219)) (fun _ hk => hk.2) (.slice Ao16 t220.length co16)) (fun _ hk => hk.2) (.slice Ao17 t223.length co17)) (fun _ hk => hk.2) (.int .i64 t226)) (fun _ hk => hk.2) (.int .i64 t227)) (fun _ hk => hk.2) (.slice Ao18 t228.length co18)) (fun _ hk => hk.2) (.slice Ao19 t231.length co19)) (fun _ h_ => h_.1))) (Kd.R_base ho0) hb); have n1_ := Aside0.mk (Kd.R_elder' (by (with_reducible repeat (first | apply rrA | apply rrN | apply rrD)); exact (Kd.R_mono (Kd.R_far (p := ⟨gb235, 7, none⟩) (Kd.R_far (p := ⟨gb235, 6, none⟩) (Kd.R_far (p := ⟨gb235, 5, none⟩) (Kd.R_far (p := ⟨gb235, 4, none⟩) (Kd.R_far (p := ⟨gb235, 3, none⟩) (Kd.R_far (p := ⟨gb235, 2, none⟩) (Kd.R_far (p := ⟨gb235, 1, none⟩) (Kd.R_far (p := ⟨gb235, 0, none⟩) (Kd.R_types HO225.out BK235.out (by decide)) (fun _ hk => hk.2) (.int .i64 t218)) (fun _ hk => hk.2) (.int .i64 t219)) (fun _ hk => hk.2) (.slice Ao16 t220.length co16)) (fun _ hk => hk.2) (.slice Ao17 t223.length co17)) (fun _ hk => hk.2) (.int .i64 t226)) (fun _ hk => hk.2) (.int .i64 t227)) (fun _ hk => hk.2) (.slice Ao18 t228.length co18)) (fun _ hk => hk.2) (.slice Ao19 t231.length co19)) (fun _ h_ => h_.1))) (Kd.R_base ho1) hb); have n2_ := Aside0.mk (Kd.R_elder' (by (with_reducible repeat (first | apply rrA | apply rrN | apply rrD)); exact (Kd.R_mono (Kd.R_far (p := ⟨gb235, 7, none⟩) (Kd.R_far (p := ⟨gb235, 6, none⟩) (Kd.R_far (p := ⟨gb235, 5, none⟩) (Kd.R_far (p := ⟨gb235, 4, none⟩) (Kd.R_far (p := ⟨gb235, 3, none⟩) (Kd.R_far (p := ⟨gb235, 2, none⟩) (Kd.R_far (p := ⟨gb235, 1, none⟩) (Kd.R_far (p := ⟨gb235, 0, none⟩) (Kd.R_types HO230.out BK235.out (by decide)) (fun _ hk => hk.2) (.int .i64 t218)) (fun _ hk => hk.2) (.int .i64 t219)) (fun _ hk => hk.2) (.slice Ao16 t220.length co16)) (fun _ hk => hk.2) (.slice Ao17 t223.length co17)) (fun _ hk => hk.2) (.int .i64 t226)) (fun _ hk => hk.2) (.int .i64 t227)) (fun _ hk => hk.2) (.slice Ao18 t228.length co18)) (fun _ hk => hk.2) (.slice Ao19 t231.length co19)) (fun _ h_ => h_.1))) (Kd.R_base ho2) hb); have n3_ := Aside0.mk (Kd.R_elder' (by (with_reducible repeat (first | apply rrA | apply rrN | apply rrD)); exact (Kd.R_mono (Kd.R_far (p := ⟨gb235, 7, none⟩) (Kd.R_far (p := ⟨gb235, 6, none⟩) (Kd.R_far (p := ⟨gb235, 5, none⟩) (Kd.R_far (p := ⟨gb235, 4, none⟩) (Kd.R_far (p := ⟨gb235, 3, none⟩) (Kd.R_far (p := ⟨gb235, 2, none⟩) (Kd.R_far (p := ⟨gb235, 1, none⟩) (Kd.R_far (p := ⟨gb235, 0, none⟩) (Kd.R_types HO233.out BK235.out (by decide)) (fun _ hk => hk.2) (.int .i64 t218)) (fun _ hk => hk.2) (.int .i64 t219)) (fun _ hk => hk.2) (.slice Ao16 t220.length co16)) (fun _ hk => hk.2) (.slice Ao17 t223.length co17)) (fun _ hk => hk.2) (.int .i64 t226)) (fun _ hk => hk.2) (.int .i64 t227)) (fun _ hk => hk.2) (.slice Ao18 t228.length co18)) (fun _ hk => hk.2) (.slice Ao19 t231.length co19)) (fun _ h_ => h_.1))) (Kd.R_base ho3) hb); have n4_ := Aside0.mk (Kd.R_lower (Kd.R_new' ho0 (Kd.R_lt (by (with_reducible repeat (first | apply rrA | apply rrN | apply rrD)); exact (Kd.R_mono (Kd.R_far (p := ⟨gb235, 7, none⟩) (Kd.R_far (p := ⟨gb235, 6, none⟩) (Kd.R_far (p := ⟨gb235, 5, none⟩) (Kd.R_far (p := ⟨gb235, 4, none⟩) (Kd.R_far (p := ⟨gb235, 3, none⟩) (Kd.R_far (p := ⟨gb235, 2, none⟩) (Kd.R_far (p := ⟨gb235, 1, none⟩) (Kd.R_far (p := ⟨gb235, 0, none⟩) (Kd.R_types HO222.out BK235.out (by decide)) (fun _ hk => hk.2) (.int .i64 t218)) (fun _ hk => hk.2) (.int .i64 t219)) (fun _ hk => hk.2) (.slice Ao16 t220.length co16)) (fun _ hk => hk.2) (.slice Ao17 t223.length co17)) (fun _ hk => hk.2) (.int .i64 t226)) (fun _ hk => hk.2) (.int .i64 t227)) (fun _ hk => hk.2) (.slice Ao18 t228.length co18)) (fun _ hk => hk.2) (.slice Ao19 t231.length co19)) (fun _ h_ => h_.1))))) (zzS (by repeat (first | (with_reducible first | exact HB.out | apply zzA | apply zzN | apply zzD | refine below_set ?_ GE235.out) | exact HB.out)))); have n5_ := Aside0.mk (Kd.R_lower (Kd.R_new' ho1 (Kd.R_lt (by (with_reducible repeat (first | apply rrA | apply rrN | apply rrD)); exact (Kd.R_mono (Kd.R_far (p := ⟨gb235, 7, none⟩) (Kd.R_far (p := ⟨gb235, 6, none⟩) (Kd.R_far (p := ⟨gb235, 5, none⟩) (Kd.R_far (p := ⟨gb235, 4, none⟩) (Kd.R_far (p := ⟨gb235, 3, none⟩) (Kd.R_far (p := ⟨gb235, 2, none⟩) (Kd.R_far (p := ⟨gb235, 1, none⟩) (Kd.R_far (p := ⟨gb235, 0, none⟩) (Kd.R_types HO225.out BK235.out (by decide)) (fun _ hk => hk.2) (.int .i64 t218)) (fun _ hk => hk.2) (.int .i64 t219)) (fun _ hk => hk.2) (.slice Ao16 t220.length co16)) (fun _ hk => hk.2) (.slice Ao17 t223.length co17)) (fun _ hk => hk.2) (.int .i64 t226)) (fun _ hk => hk.2) (.int .i64 t227)) (fun _ hk => hk.2) (.slice Ao18 t228.length co18)) (fun _ hk => hk.2) (.slice Ao19 t231.length co19)) (fun _ h_ => h_.1))))) (zzS (by repeat (first | (with_reducible first | exact HB.out | apply zzA | apply zzN | apply zzD | refine below_set ?_ GE235.out) | exact HB.out)))); have n6_ := Aside0.mk (Kd.R_lower (Kd.R_new' ho2 (Kd.R_lt (by (with_reducible repeat (first | apply rrA | apply rrN | apply rrD)); exact (Kd.R_mono (Kd.R_far (p := ⟨gb235, 7, none⟩) (Kd.R_far (p := ⟨gb235, 6, none⟩) (Kd.R_far (p := ⟨gb235, 5, none⟩) (Kd.R_far (p := ⟨gb235, 4, none⟩) (Kd.R_far (p := ⟨gb235, 3, none⟩) (Kd.R_far (p := ⟨gb235, 2, none⟩) (Kd.R_far (p := ⟨gb235, 1, none⟩) (Kd.R_far (p := ⟨gb235, 0, none⟩) (Kd.R_types HO230.out BK235.out (by decide)) (fun _ hk => hk.2) (.int .i64 t218)) (fun _ hk => hk.2) (.int .i64 t219)) (fun _ hk => hk.2) (.slice Ao16 t220.length co16)) (fun _ hk => hk.2) (.slice Ao17 t223.length co17)) (fun _ hk => hk.2) (.int .i64 t226)) (fun _ hk => hk.2) (.int .i64 t227)) (fun _ hk => hk.2) (.slice Ao18 t228.length co18)) (fun _ hk => hk.2) (.slice Ao19 t231.length co19)) (fun _ h_ => h_.1))))) (zzS (by repeat (first | (with_reducible first | exact HB.out | apply zzA | apply zzN | apply zzD | refine below_set ?_ GE235.out) | exact HB.out)))); have n7_ := Aside0.mk (Kd.R_lower (Kd.R_new' ho3 (Kd.R_lt (by (with_reducible repeat (first | apply rrA | apply rrN | apply rrD)); exact (Kd.R_mono (Kd.R_far (p := ⟨gb235, 7, none⟩) (Kd.R_far (p := ⟨gb235, 6, none⟩) (Kd.R_far (p := ⟨gb235, 5, none⟩) (Kd.R_far (p := ⟨gb235, 4, none⟩) (Kd.R_far (p := ⟨gb235, 3, none⟩) (Kd.R_far (p := ⟨gb235, 2, none⟩) (Kd.R_far (p := ⟨gb235, 1, none⟩) (Kd.R_far (p := ⟨gb235, 0, none⟩) (Kd.R_types HO233.out BK235.out (by decide)) (fun _ hk => hk.2) (.int .i64 t218)) (fun _ hk => hk.2) (.int .i64 t219)) (fun _ hk => hk.2) (.slice Ao16 t220.length co16)) (fun _ hk => hk.2) (.slice Ao17 t223.length co17)) (fun _ hk => hk.2) (.int .i64 t226)) (fun _ hk => hk.2) (.int .i64 t227)) (fun _ hk => hk.2) (.slice Ao18 t228.length co18)) (fun _ hk => hk.2) (.slice Ao19 t231.length co19)) (fun _ h_ => h_.1))))) (zzS (by repeat (first | (with_reducible first | exact HB.out | apply zzA | apply zzN | apply zzD | refine below_set ?_ GE235.out) | exact HB.out)))); have n8_ := Aside0.mk (blk_below (g := gb235) (o := .cells #[.int .i64 t218, .int .i64 t219, .slice Ao16 t220.length co16, .slice Ao17 t223.length co17, .int .i64 t226, .int .i64 t227, .slice Ao18 t228.length co18, .slice Ao19 t231.length co19] 30 (0, 0)) (by (with_reducible repeat (first | refine kkN ?_ _ | refine kkD ?_ | refine kkA ?_ _)); refine blk_put (cs := #[.int .i64 t218, .int .i64 t219, .slice Ao16 t220.length co16, .slice Ao17 t223.length co17, .int .i64 t226, .int .i64 t227, .slice Ao18 t228.length co18, .slice none 0 0]) ?_ 7 _ rfl; (with_reducible repeat (first | refine kkN ?_ _ | refine kkD ?_ | refine kkA ?_ _)); refine blk_put (cs := #[.int .i64 t218, .int .i64 t219, .slice Ao16 t220.length co16, .slice Ao17 t223.length co17, .int .i64 t226, .int .i64 t227, .slice none 0 0, .slice none 0 0]) ?_ 6 _ rfl; (with_reducible repeat (first | refine kkN ?_ _ | refine kkD ?_ | refine kkA ?_ _)); refine blk_put (cs := #[.int .i64 t218, .int .i64 t219, .slice Ao16 t220.length co16, .slice Ao17 t223.length co17, .int .i64 t226, .int .i64 0, .slice none 0 0, .slice none 0 0]) ?_ 5 _ rfl; (with_reducible repeat (first | refine kkN ?_ _ | refine kkD ?_ | refine kkA ?_ _)); refine blk_put (cs := #[.int .i64 t218, .int .i64 t219, .slice Ao16 t220.length co16, .slice Ao17 t223.length co17, .int .i64 0, .int .i64 0, .slice none 0 0, .slice none 0 0]) ?_ 4 _ rfl; (with_reducible repeat (first | refine kkN ?_ _ | refine kkD ?_ | refine kkA ?_ _)); refine blk_put (cs := #[.int .i64 t218, .int .i64 t219, .slice Ao16 t220.length co16, .slice none 0 0, .int .i64 0, .int .i64 0, .slice none 0 0, .slice none 0 0]) ?_ 3 _ rfl; (with_reducible repeat (first | refine kkN ?_ _ | refine kkD ?_ | refine kkA ?_ _)); refine blk_put (cs := #[.int .i64 t218, .int .i64 t219, .slice none 0 0, .slice none 0 0, .int .i64 0, .int .i64 0, .slice none 0 0, .slice none 0 0]) ?_ 2 _ rfl; (with_reducible repeat (first | refine kkN ?_ _ | refine kkD ?_ | refine kkA ?_ _)); refine blk_put (cs := #[.int .i64 t218, .int .i64 0, .slice none 0 0, .slice none 0 0, .int .i64 0, .int .i64 0, .slice none 0 0, .slice none 0 0]) ?_ 1 _ rfl; (with_reducible repeat (first | refine kkN ?_ _ | refine kkD ?_ | refine kkA ?_ _)); refine blk_put (cs := #[.int .i64 0, .int .i64 0, .slice none 0 0, .slice none 0 0, .int .i64 0, .int .i64 0, .slice none 0 0, .slice none 0 0]) ?_ 0 _ rfl; (with_reducible repeat (first | refine kkN ?_ _ | refine kkD ?_ | refine kkA ?_ _)); exact BK235.out) hb); have n9_ := Aside0.mk (zzT (by repeat (first | (with_reducible first | exact HB.out | apply zzA | apply zzN | apply zzD | refine below_set ?_ GE235.out) | exact HB.out)) hb); clear HO222; clear HO225; clear HO230; clear HO233; clear BK235; clear HB; have HO222 := n0_; have HO225 := n1_; have HO230 := n2_; have HO233 := n3_; have HO240 := n4_; have HO243 := n5_; have HO248 := n6_; have HO251 := n7_; have BK235 := n8_; have HB := n9_; clear n0_ n1_ n2_ n3_ n4_ n5_ n6_ n7_ n8_ n9_; (try clear hb); (try clear hb2); (try clear hk); (try clear hi); (try clear ho0); (try clear ho1); (try clear ho2); (try clear ho3)) | ((with_reducible refine gate_dst (N := 12) rfl ?_); (try (refine gate_guard (by rfl) ?_; dsimp only)); refine box_event ?hg (N := 12) ?hd (cs := #[.int .i64 0, .int .i64 0, .slice none 0 0, .slice none 0 0, .int .i64 0, .int .i64 0, .slice none 0 0, .slice none 0 0]) (t := 30) ?hr ?_; (case hd => rfl); (case hg => rfl); (case hr => first | (go_simp; done) | (go_simp; rfl)); intro gb253 hg w21 hbox hb; have n0_ := Aside0.mk (Kd.R_below (by (with_reducible repeat (first | apply rrA | apply rrN | apply rrD)); exact HO222.out) hb); have n1_ := Aside0.mk (Kd.R_below (by (with_reducible repeat (first | apply rrA | apply rrN | apply rrD)); exact HO225.out) hb); have n2_ := Aside0.mk (Kd.R_below (by (with_reducible repeat (first | apply rrA | apply rrN | apply rrD)); exact HO230.out) hb); have n3_ := Aside0.mk (Kd.R_below (by (with_reducible repeat (first | apply rrA | apply rrN | apply rrD)); exact HO233.out) hb); have n4_ := Aside0.mk (Kd.R_below (by (with_reducible repeat (first | apply rrA | apply rrN | apply rrD)); exact HO240.out) hb); have n5_ := Aside0.mk (Kd.R_below (by (with_reducible repeat (first | apply rrA | apply rrN | apply rrD)); exact HO243.out) hb); have n6_ := Aside0.mk (Kd.R_below (by (with_reducible repeat (first | apply rrA | apply rrN | apply rrD)); exact HO248.out) hb); have n7_ := Aside0.mk (Kd.R_below (by (with_reducible repeat (first | apply rrA | apply rrN | apply rrD)); exact HO251.out) hb); have n8_ := Aside0.mk (blk_below (g := gb235) (o := .cells #[.int .i64 t218, .int .i64 t219, .slice Ao16 t220.length co16, .slice Ao17 t223.length co17, .int .i64 t226, .int .i64 t227, .slice Ao18 t228.length co18, .slice Ao19 t231.length co19] 30 (0, 0)) (by (with_reducible repeat (first | refine kkN ?_ _ | refine kkD ?_ | refine kkA ?_ _)); exact BK235.out) hb); have n9_ := Aside0.mk (zzT (by repeat (first | (with_reducible first | exact HB.out | apply zzA | apply zzN | apply zzD | refine below_set ?_ GE235.out) | exact HB.out)) hb); have n10_ := Aside0.mk (hbox); have n11_ := Aside0.mk ((by rw [hg]; exact (zzS (by repeat (first | (with_reducible first | exact HB.out | apply zzA | apply zzN | apply zzD | refine below_set ?_ GE235.out) | exact HB.out))) : w.heap.size ≤ gb253)); have n12_ := Aside0.mk ((by rw [hg]; exact (zzS (by repeat (first | (with_reducible first | exact HB.out | apply zzA | apply zzN | apply zzD | refine below_set ?_ GE235.out) | exact HB.out))) : w.heap.size ≤ gb253)); have n13_ := Aside0.mk ((by rw [hg]; exact Nat.ne_of_lt (blk_lt (g := gb235) (o := .cells #[.int .i64 t218, .int .i64 t219, .slice Ao16 t220.length co16, .slice Ao17 t223.length co17, .int .i64 t226, .int .i64 t227, .slice Ao18 t228.length co18, .slice Ao19 t231.length co19] 30 (0, 0)) (by (with_reducible repeat (first | refine kkN ?_ _ | refine kkD ?_ | refine kkA ?_ _)); exact BK235.out)) : gb235 ≠ gb253)); have n14_ := Aside0.mk ((by rw [hg]; exact Nat.ne_of_gt (blk_lt (g := gb235) (o := .cells #[.int .i64 t218, .int .i64 t219, .slice Ao16 t220.length co16, .slice Ao17 t223.length co17, .int .i64 t226, .int .i64 t227, .slice Ao18 t228.length co18, .slice Ao19 t231.length co19] 30 (0, 0)) (by (with_reducible repeat (first | refine kkN ?_ _ | refine kkD ?_ | refine kkA ?_ _)); exact BK235.out)) : gb253 ≠ gb235)); clear HO222; clear HO225; clear HO230; clear HO233; clear HO240; clear HO243; clear HO248; clear HO251; clear BK235; clear HB; have HO222 := n0_; have HO225 := n1_; have HO230 := n2_; have HO233 := n3_; have HO240 := n4_; have HO243 := n5_; have HO248 := n6_; have HO251 := n7_; have BK235 := n8_; have HB := n9_; have BK253 := n10_; have GW253 := n11_; have GE253 := n12_; have NB235_253 := n13_; have NB253_235 := n14_; clear n0_ n1_ n2_ n3_ n4_ n5_ n6_ n7_ n8_ n9_ n10_ n11_ n12_ n13_ n14_; clear hb hbox hg; have hnb22 := NB253_235.out; have hnc22 := NB235_253.out; have hcz23_0 : w21.cell? ⟨gb253, 0, none⟩ = some (.int .i64 0) := (blk_cell BK253.out 0).trans rfl; have hcz23_1 : w21.cell? ⟨gb253, 1, none⟩ = some (.int .i64 0) := (blk_cell BK253.out 1).trans rfl; have hcz23_2 : w21.cell? ⟨gb253, 2, none⟩ = some (.slice none 0 0) := (blk_cell BK253.out 2).trans rfl; have hcz23_3 : w21.cell? ⟨gb253, 3, none⟩ = some (.slice none 0 0) := (blk_cell BK253.out 3).trans rfl; have hcz23_4 : w21.cell? ⟨gb253, 4, none⟩ = some (.int .i64 0) := (blk_cell BK253.out 4).trans rfl; have hcz23_5 : w21.cell? ⟨gb253, 5, none⟩ = some (.int .i64 0) := (blk_cell BK253.out 5).trans rfl; have hcz23_6 : w21.cell? ⟨gb253, 6, none⟩ = some (.slice none 0 0) := (blk_cell BK253.out 6).trans rfl; have hcz23_7 : w21.cell? ⟨gb253, 7, none⟩ = some (.slice none 0 0) := (blk_cell BK253.out 7).trans rfl; have hfz23_0 := blk_frozen BK253.out 0; have hfz23_1 := blk_frozen BK253.out 1; have hfz23_2 := blk_frozen BK253.out 2; have hfz23_3 := blk_frozen BK253.out 3; have hfz23_4 := blk_frozen BK253.out 4; have hfz23_5 := blk_frozen BK253.out 5; have hfz23_6 := blk_frozen BK253.out 6; have hfz23_7 := blk_frozen BK253.out 7; obtain ⟨Ao24, co24, eo24⟩ := Kd.R_slice HO240.out; subst eo24; obtain ⟨Ao25, co25, eo25⟩ := Kd.R_slice HO243.out; subst eo25; obtain ⟨Ao26, co26, eo26⟩ := Kd.R_slice HO248.out; subst eo26; obtain ⟨Ao27, co27, eo27⟩ := Kd.R_slice HO251.out; subst eo27)))
   (try simp only [Act.put, List.setIfInBounds_toArray, List.set_cons_zero, List.set_cons_succ])
   go_cut [47] (fun v47 wc => ∃ (kq : Nat) (x47_10 : Bool), v47 = .bool x47_10 ∧ Aside0 (thrumlaw10_QuantSure.j0 kq l0 a1 true t234 t252 x47_10 t218 t219 t220 t223 t226 t227 t228 t231 t236 t237 t238 t241 t244 t245 t246 t249 = some r) ∧ Aside0 (kq ≤ k) ∧ Aside0 (Kd.R (Kd.int .i64) 3 wc w.heap.size (fun k_ => some k_ ≠ ((.slice Ao24 t238.length co24) : Value).ownBlock) (.slice Ao16 t220.length co16) t220) ∧ Aside0 (Kd.R (Kd.int .i64) 2 wc w.heap.size (fun k_ => some k_ ≠ ((.slice Ao25 t241.length co25) : Value).ownBlock) (.slice Ao17 t223.length co17) t223) ∧ Aside0 (Kd.R (Kd.int .u64) 64 wc w.heap.size (fun k_ => some k_ ≠ ((.slice Ao26 t246.length co26) : Value).ownBlock) (.slice Ao18 t228.length co18) t228) ∧ Aside0 (Kd.R Kd.bool 4 wc w.heap.size (fun k_ => some k_ ≠ ((.slice Ao27 t249.length co27) : Value).ownBlock) (.slice Ao19 t231.length co19) t231) ∧ Aside0 (Kd.R (Kd.int .i64) 3 wc w.heap.size (fun k_ => some k_ ≠ ((.slice Ao16 t220.length co16) : Value).ownBlock) (.slice Ao24 t238.length co24) t238) ∧ Aside0 (Kd.R (Kd.int .i64) 2 wc w.heap.size (fun k_ => some k_ ≠ ((.slice Ao17 t223.length co17) : Value).ownBlock) (.slice Ao25 t241.length co25) t241) ∧ Aside0 (Kd.R (Kd.int .u64) 64 wc w.heap.size (fun k_ => some k_ ≠ ((.slice Ao18 t228.length co18) : Value).ownBlock) (.slice Ao26 t246.length co26) t246) ∧ Aside0 (Kd.R Kd.bool 4 wc w.heap.size (fun k_ => some k_ ≠ ((.slice Ao19 t231.length co19) : Value).ownBlock) (.slice Ao27 t249.length co27) t249) ∧ Aside0 (wc.heap[gb235]? = some (.cells #[.int .i64 t218, .int .i64 t219, (.slice Ao16 t220.length co16), (.slice Ao17 t223.length co17), .int .i64 t226, .int .i64 t227, (.slice Ao18 t228.length co18), (.slice Ao19 t231.length co19)] 30 (0, 0))) ∧ Aside0 (wc.heap[gb253]? = some (.cells #[.int .i64 t236, .int .i64 t237, (.slice Ao24 t238.length co24), (.slice Ao25 t241.length co25), .int .i64 t244, .int .i64 t245, (.slice Ao26 t246.length co26), (.slice Ao27 t249.length co27)] 30 (0, 0))) ∧ Aside0 (Below w.heap.size w wc))
   case first =>
    have H := HC11.out
    clear HC11
    by_cases c28 : t234 = 0
    ·
     rw [if_pos c28] at H
     have c28b0 : (t234 == 0) = true := beq_iff_eq.mpr c28
     have c28b1 : (t234 != 0) = false := bne_eq_false_iff_eq.mpr c28
     clear c28
     (first | rw [c28b0] | (simp only [i64_w, i32_w]; rw [c28b0]) | skip)
     focus
      have H' := Aside0.mk H
      clear H
      go_wp2
      repeat (go_quiet (fail); try go_wp2)
      go_meet
      case rel => exact ⟨_, ((t252 != 0)), (by first | rfl | (simp; done) | (simp [*]; done)), H', ⟨by first | omega | exact Nat.le_refl _⟩, ⟨by (with_reducible repeat (first | apply rrA | apply rrN | apply rrD)); exact Kd.R_mono (Kd.R_far (p := ⟨gb253, 7, none⟩) (Kd.R_far (p := ⟨gb253, 6, none⟩) (Kd.R_far (p := ⟨gb253, 5, none⟩) (Kd.R_far (p := ⟨gb253, 4, none⟩) (Kd.R_far (p := ⟨gb253, 3, none⟩) (Kd.R_far (p := ⟨gb253, 2, none⟩) (Kd.R_far (p := ⟨gb253, 1, none⟩) (Kd.R_far (p := ⟨gb253, 0, none⟩) (Kd.R_types HO222.out BK253.out (by decide)) (fun _ hk => hk.2) (.int .i64 t236)) (fun _ hk => hk.2) (.int .i64 t237)) (fun _ hk => hk.2) (.slice Ao24 t238.length co24)) (fun _ hk => hk.2) (.slice Ao25 t241.length co25)) (fun _ hk => hk.2) (.int .i64 t244)) (fun _ hk => hk.2) (.int .i64 t245)) (fun _ hk => hk.2) (.slice Ao26 t246.length co26)) (fun _ hk => hk.2) (.slice Ao27 t249.length co27)) (fun _ hk => hk.1.2)⟩, ⟨by (with_reducible repeat (first | apply rrA | apply rrN | apply rrD)); exact Kd.R_mono (Kd.R_far (p := ⟨gb253, 7, none⟩) (Kd.R_far (p := ⟨gb253, 6, none⟩) (Kd.R_far (p := ⟨gb253, 5, none⟩) (Kd.R_far (p := ⟨gb253, 4, none⟩) (Kd.R_far (p := ⟨gb253, 3, none⟩) (Kd.R_far (p := ⟨gb253, 2, none⟩) (Kd.R_far (p := ⟨gb253, 1, none⟩) (Kd.R_far (p := ⟨gb253, 0, none⟩) (Kd.R_types HO225.out BK253.out (by decide)) (fun _ hk => hk.2) (.int .i64 t236)) (fun _ hk => hk.2) (.int .i64 t237)) (fun _ hk => hk.2) (.slice Ao24 t238.length co24)) (fun _ hk => hk.2) (.slice Ao25 t241.length co25)) (fun _ hk => hk.2) (.int .i64 t244)) (fun _ hk => hk.2) (.int .i64 t245)) (fun _ hk => hk.2) (.slice Ao26 t246.length co26)) (fun _ hk => hk.2) (.slice Ao27 t249.length co27)) (fun _ hk => hk.1.2)⟩, ⟨by (with_reducible repeat (first | apply rrA | apply rrN | apply rrD)); exact Kd.R_mono (Kd.R_far (p := ⟨gb253, 7, none⟩) (Kd.R_far (p := ⟨gb253, 6, none⟩) (Kd.R_far (p := ⟨gb253, 5, none⟩) (Kd.R_far (p := ⟨gb253, 4, none⟩) (Kd.R_far (p := ⟨gb253, 3, none⟩) (Kd.R_far (p := ⟨gb253, 2, none⟩) (Kd.R_far (p := ⟨gb253, 1, none⟩) (Kd.R_far (p := ⟨gb253, 0, none⟩) (Kd.R_types HO230.out BK253.out (by decide)) (fun _ hk => hk.2) (.int .i64 t236)) (fun _ hk => hk.2) (.int .i64 t237)) (fun _ hk => hk.2) (.slice Ao24 t238.length co24)) (fun _ hk => hk.2) (.slice Ao25 t241.length co25)) (fun _ hk => hk.2) (.int .i64 t244)) (fun _ hk => hk.2) (.int .i64 t245)) (fun _ hk => hk.2) (.slice Ao26 t246.length co26)) (fun _ hk => hk.2) (.slice Ao27 t249.length co27)) (fun _ hk => hk.1.2)⟩, ⟨by (with_reducible repeat (first | apply rrA | apply rrN | apply rrD)); exact Kd.R_mono (Kd.R_far (p := ⟨gb253, 7, none⟩) (Kd.R_far (p := ⟨gb253, 6, none⟩) (Kd.R_far (p := ⟨gb253, 5, none⟩) (Kd.R_far (p := ⟨gb253, 4, none⟩) (Kd.R_far (p := ⟨gb253, 3, none⟩) (Kd.R_far (p := ⟨gb253, 2, none⟩) (Kd.R_far (p := ⟨gb253, 1, none⟩) (Kd.R_far (p := ⟨gb253, 0, none⟩) (Kd.R_types HO233.out BK253.out (by decide)) (fun _ hk => hk.2) (.int .i64 t236)) (fun _ hk => hk.2) (.int .i64 t237)) (fun _ hk => hk.2) (.slice Ao24 t238.length co24)) (fun _ hk => hk.2) (.slice Ao25 t241.length co25)) (fun _ hk => hk.2) (.int .i64 t244)) (fun _ hk => hk.2) (.int .i64 t245)) (fun _ hk => hk.2) (.slice Ao26 t246.length co26)) (fun _ hk => hk.2) (.slice Ao27 t249.length co27)) (fun _ hk => hk.1.2)⟩, ⟨by (with_reducible repeat (first | apply rrA | apply rrN | apply rrD)); exact Kd.R_mono (Kd.R_far (p := ⟨gb253, 7, none⟩) (Kd.R_far (p := ⟨gb253, 6, none⟩) (Kd.R_far (p := ⟨gb253, 5, none⟩) (Kd.R_far (p := ⟨gb253, 4, none⟩) (Kd.R_far (p := ⟨gb253, 3, none⟩) (Kd.R_far (p := ⟨gb253, 2, none⟩) (Kd.R_far (p := ⟨gb253, 1, none⟩) (Kd.R_far (p := ⟨gb253, 0, none⟩) (Kd.R_types HO240.out BK253.out (by decide)) (fun _ hk => hk.2) (.int .i64 t236)) (fun _ hk => hk.2) (.int .i64 t237)) (fun _ hk => hk.2) (.slice Ao24 t238.length co24)) (fun _ hk => hk.2) (.slice Ao25 t241.length co25)) (fun _ hk => hk.2) (.int .i64 t244)) (fun _ hk => hk.2) (.int .i64 t245)) (fun _ hk => hk.2) (.slice Ao26 t246.length co26)) (fun _ hk => hk.2) (.slice Ao27 t249.length co27)) (fun _ hk => hk.1.2)⟩, ⟨by (with_reducible repeat (first | apply rrA | apply rrN | apply rrD)); exact Kd.R_mono (Kd.R_far (p := ⟨gb253, 7, none⟩) (Kd.R_far (p := ⟨gb253, 6, none⟩) (Kd.R_far (p := ⟨gb253, 5, none⟩) (Kd.R_far (p := ⟨gb253, 4, none⟩) (Kd.R_far (p := ⟨gb253, 3, none⟩) (Kd.R_far (p := ⟨gb253, 2, none⟩) (Kd.R_far (p := ⟨gb253, 1, none⟩) (Kd.R_far (p := ⟨gb253, 0, none⟩) (Kd.R_types HO243.out BK253.out (by decide)) (fun _ hk => hk.2) (.int .i64 t236)) (fun _ hk => hk.2) (.int .i64 t237)) (fun _ hk => hk.2) (.slice Ao24 t238.length co24)) (fun _ hk => hk.2) (.slice Ao25 t241.length co25)) (fun _ hk => hk.2) (.int .i64 t244)) (fun _ hk => hk.2) (.int .i64 t245)) (fun _ hk => hk.2) (.slice Ao26 t246.length co26)) (fun _ hk => hk.2) (.slice Ao27 t249.length co27)) (fun _ hk => hk.1.2)⟩, ⟨by (with_reducible repeat (first | apply rrA | apply rrN | apply rrD)); exact Kd.R_mono (Kd.R_far (p := ⟨gb253, 7, none⟩) (Kd.R_far (p := ⟨gb253, 6, none⟩) (Kd.R_far (p := ⟨gb253, 5, none⟩) (Kd.R_far (p := ⟨gb253, 4, none⟩) (Kd.R_far (p := ⟨gb253, 3, none⟩) (Kd.R_far (p := ⟨gb253, 2, none⟩) (Kd.R_far (p := ⟨gb253, 1, none⟩) (Kd.R_far (p := ⟨gb253, 0, none⟩) (Kd.R_types HO248.out BK253.out (by decide)) (fun _ hk => hk.2) (.int .i64 t236)) (fun _ hk => hk.2) (.int .i64 t237)) (fun _ hk => hk.2) (.slice Ao24 t238.length co24)) (fun _ hk => hk.2) (.slice Ao25 t241.length co25)) (fun _ hk => hk.2) (.int .i64 t244)) (fun _ hk => hk.2) (.int .i64 t245)) (fun _ hk => hk.2) (.slice Ao26 t246.length co26)) (fun _ hk => hk.2) (.slice Ao27 t249.length co27)) (fun _ hk => hk.1.2)⟩, ⟨by (with_reducible repeat (first | apply rrA | apply rrN | apply rrD)); exact Kd.R_mono (Kd.R_far (p := ⟨gb253, 7, none⟩) (Kd.R_far (p := ⟨gb253, 6, none⟩) (Kd.R_far (p := ⟨gb253, 5, none⟩) (Kd.R_far (p := ⟨gb253, 4, none⟩) (Kd.R_far (p := ⟨gb253, 3, none⟩) (Kd.R_far (p := ⟨gb253, 2, none⟩) (Kd.R_far (p := ⟨gb253, 1, none⟩) (Kd.R_far (p := ⟨gb253, 0, none⟩) (Kd.R_types HO251.out BK253.out (by decide)) (fun _ hk => hk.2) (.int .i64 t236)) (fun _ hk => hk.2) (.int .i64 t237)) (fun _ hk => hk.2) (.slice Ao24 t238.length co24)) (fun _ hk => hk.2) (.slice Ao25 t241.length co25)) (fun _ hk => hk.2) (.int .i64 t244)) (fun _ hk => hk.2) (.int .i64 t245)) (fun _ hk => hk.2) (.slice Ao26 t246.length co26)) (fun _ hk => hk.2) (.slice Ao27 t249.length co27)) (fun _ hk => hk.1.2)⟩, ⟨by (with_reducible repeat (first | refine kkN ?_ _ | refine kkD ?_ | refine kkA ?_ _)); refine blk_far ?_ NB235_253.out _; (with_reducible repeat (first | refine kkN ?_ _ | refine kkD ?_ | refine kkA ?_ _)); refine blk_far ?_ NB235_253.out _; (with_reducible repeat (first | refine kkN ?_ _ | refine kkD ?_ | refine kkA ?_ _)); refine blk_far ?_ NB235_253.out _; (with_reducible repeat (first | refine kkN ?_ _ | refine kkD ?_ | refine kkA ?_ _)); refine blk_far ?_ NB235_253.out _; (with_reducible repeat (first | refine kkN ?_ _ | refine kkD ?_ | refine kkA ?_ _)); refine blk_far ?_ NB235_253.out _; (with_reducible repeat (first | refine kkN ?_ _ | refine kkD ?_ | refine kkA ?_ _)); refine blk_far ?_ NB235_253.out _; (with_reducible repeat (first | refine kkN ?_ _ | refine kkD ?_ | refine kkA ?_ _)); refine blk_far ?_ NB235_253.out _; (with_reducible repeat (first | refine kkN ?_ _ | refine kkD ?_ | refine kkA ?_ _)); refine blk_far ?_ NB235_253.out _; (with_reducible repeat (first | refine kkN ?_ _ | refine kkD ?_ | refine kkA ?_ _)); exact BK235.out⟩, ⟨by (with_reducible repeat (first | refine kkN ?_ _ | refine kkD ?_ | refine kkA ?_ _)); refine blk_put (cs := #[.int .i64 t236, .int .i64 t237, .slice Ao24 t238.length co24, .slice Ao25 t241.length co25, .int .i64 t244, .int .i64 t245, .slice Ao26 t246.length co26, .slice none 0 0]) ?_ 7 _ rfl; (with_reducible repeat (first | refine kkN ?_ _ | refine kkD ?_ | refine kkA ?_ _)); refine blk_put (cs := #[.int .i64 t236, .int .i64 t237, .slice Ao24 t238.length co24, .slice Ao25 t241.length co25, .int .i64 t244, .int .i64 t245, .slice none 0 0, .slice none 0 0]) ?_ 6 _ rfl; (with_reducible repeat (first | refine kkN ?_ _ | refine kkD ?_ | refine kkA ?_ _)); refine blk_put (cs := #[.int .i64 t236, .int .i64 t237, .slice Ao24 t238.length co24, .slice Ao25 t241.length co25, .int .i64 t244, .int .i64 0, .slice none 0 0, .slice none 0 0]) ?_ 5 _ rfl; (with_reducible repeat (first | refine kkN ?_ _ | refine kkD ?_ | refine kkA ?_ _)); refine blk_put (cs := #[.int .i64 t236, .int .i64 t237, .slice Ao24 t238.length co24, .slice Ao25 t241.length co25, .int .i64 0, .int .i64 0, .slice none 0 0, .slice none 0 0]) ?_ 4 _ rfl; (with_reducible repeat (first | refine kkN ?_ _ | refine kkD ?_ | refine kkA ?_ _)); refine blk_put (cs := #[.int .i64 t236, .int .i64 t237, .slice Ao24 t238.length co24, .slice none 0 0, .int .i64 0, .int .i64 0, .slice none 0 0, .slice none 0 0]) ?_ 3 _ rfl; (with_reducible repeat (first | refine kkN ?_ _ | refine kkD ?_ | refine kkA ?_ _)); refine blk_put (cs := #[.int .i64 t236, .int .i64 t237, .slice none 0 0, .slice none 0 0, .int .i64 0, .int .i64 0, .slice none 0 0, .slice none 0 0]) ?_ 2 _ rfl; (with_reducible repeat (first | refine kkN ?_ _ | refine kkD ?_ | refine kkA ?_ _)); refine blk_put (cs := #[.int .i64 t236, .int .i64 0, .slice none 0 0, .slice none 0 0, .int .i64 0, .int .i64 0, .slice none 0 0, .slice none 0 0]) ?_ 1 _ rfl; (with_reducible repeat (first | refine kkN ?_ _ | refine kkD ?_ | refine kkA ?_ _)); refine blk_put (cs := #[.int .i64 0, .int .i64 0, .slice none 0 0, .slice none 0 0, .int .i64 0, .int .i64 0, .slice none 0 0, .slice none 0 0]) ?_ 0 _ rfl; (with_reducible repeat (first | refine kkN ?_ _ | refine kkD ?_ | refine kkA ?_ _)); exact BK253.out⟩, ⟨by repeat (first | (with_reducible first | exact HB.out | apply zzA | apply zzN | apply zzD | refine below_set ?_ GE235.out | refine below_set ?_ GE253.out) | exact HB.out)⟩⟩
    ·
     rw [if_neg c28] at H
     have c28b0 : (t234 == 0) = false := beq_eq_false_iff_ne.mpr c28
     have c28b1 : (t234 != 0) = true := bne_iff_ne.mpr c28
     (first | rw [c28b0] | (simp only [i64_w, i32_w]; rw [c28b0]) | skip)
     focus
      have H' := Aside0.mk H
      clear H
      go_wp2
      repeat (go_quiet (fail); try go_wp2)
      go_meet
      case rel => exact ⟨_, (true), (by first | rfl | (simp; done) | (simp [*]; done)), H', ⟨by first | omega | exact Nat.le_refl _⟩, ⟨by (with_reducible repeat (first | apply rrA | apply rrN | apply rrD)); exact Kd.R_mono (Kd.R_far (p := ⟨gb253, 7, none⟩) (Kd.R_far (p := ⟨gb253, 6, none⟩) (Kd.R_far (p := ⟨gb253, 5, none⟩) (Kd.R_far (p := ⟨gb253, 4, none⟩) (Kd.R_far (p := ⟨gb253, 3, none⟩) (Kd.R_far (p := ⟨gb253, 2, none⟩) (Kd.R_far (p := ⟨gb253, 1, none⟩) (Kd.R_far (p := ⟨gb253, 0, none⟩) (Kd.R_types HO222.out BK253.out (by decide)) (fun _ hk => hk.2) (.int .i64 t236)) (fun _ hk => hk.2) (.int .i64 t237)) (fun _ hk => hk.2) (.slice Ao24 t238.length co24)) (fun _ hk => hk.2) (.slice Ao25 t241.length co25)) (fun _ hk => hk.2) (.int .i64 t244)) (fun _ hk => hk.2) (.int .i64 t245)) (fun _ hk => hk.2) (.slice Ao26 t246.length co26)) (fun _ hk => hk.2) (.slice Ao27 t249.length co27)) (fun _ hk => hk.1.2)⟩, ⟨by (with_reducible repeat (first | apply rrA | apply rrN | apply rrD)); exact Kd.R_mono (Kd.R_far (p := ⟨gb253, 7, none⟩) (Kd.R_far (p := ⟨gb253, 6, none⟩) (Kd.R_far (p := ⟨gb253, 5, none⟩) (Kd.R_far (p := ⟨gb253, 4, none⟩) (Kd.R_far (p := ⟨gb253, 3, none⟩) (Kd.R_far (p := ⟨gb253, 2, none⟩) (Kd.R_far (p := ⟨gb253, 1, none⟩) (Kd.R_far (p := ⟨gb253, 0, none⟩) (Kd.R_types HO225.out BK253.out (by decide)) (fun _ hk => hk.2) (.int .i64 t236)) (fun _ hk => hk.2) (.int .i64 t237)) (fun _ hk => hk.2) (.slice Ao24 t238.length co24)) (fun _ hk => hk.2) (.slice Ao25 t241.length co25)) (fun _ hk => hk.2) (.int .i64 t244)) (fun _ hk => hk.2) (.int .i64 t245)) (fun _ hk => hk.2) (.slice Ao26 t246.length co26)) (fun _ hk => hk.2) (.slice Ao27 t249.length co27)) (fun _ hk => hk.1.2)⟩, ⟨by (with_reducible repeat (first | apply rrA | apply rrN | apply rrD)); exact Kd.R_mono (Kd.R_far (p := ⟨gb253, 7, none⟩) (Kd.R_far (p := ⟨gb253, 6, none⟩) (Kd.R_far (p := ⟨gb253, 5, none⟩) (Kd.R_far (p := ⟨gb253, 4, none⟩) (Kd.R_far (p := ⟨gb253, 3, none⟩) (Kd.R_far (p := ⟨gb253, 2, none⟩) (Kd.R_far (p := ⟨gb253, 1, none⟩) (Kd.R_far (p := ⟨gb253, 0, none⟩) (Kd.R_types HO230.out BK253.out (by decide)) (fun _ hk => hk.2) (.int .i64 t236)) (fun _ hk => hk.2) (.int .i64 t237)) (fun _ hk => hk.2) (.slice Ao24 t238.length co24)) (fun _ hk => hk.2) (.slice Ao25 t241.length co25)) (fun _ hk => hk.2) (.int .i64 t244)) (fun _ hk => hk.2) (.int .i64 t245)) (fun _ hk => hk.2) (.slice Ao26 t246.length co26)) (fun _ hk => hk.2) (.slice Ao27 t249.length co27)) (fun _ hk => hk.1.2)⟩, ⟨by (with_reducible repeat (first | apply rrA | apply rrN | apply rrD)); exact Kd.R_mono (Kd.R_far (p := ⟨gb253, 7, none⟩) (Kd.R_far (p := ⟨gb253, 6, none⟩) (Kd.R_far (p := ⟨gb253, 5, none⟩) (Kd.R_far (p := ⟨gb253, 4, none⟩) (Kd.R_far (p := ⟨gb253, 3, none⟩) (Kd.R_far (p := ⟨gb253, 2, none⟩) (Kd.R_far (p := ⟨gb253, 1, none⟩) (Kd.R_far (p := ⟨gb253, 0, none⟩) (Kd.R_types HO233.out BK253.out (by decide)) (fun _ hk => hk.2) (.int .i64 t236)) (fun _ hk => hk.2) (.int .i64 t237)) (fun _ hk => hk.2) (.slice Ao24 t238.length co24)) (fun _ hk => hk.2) (.slice Ao25 t241.length co25)) (fun _ hk => hk.2) (.int .i64 t244)) (fun _ hk => hk.2) (.int .i64 t245)) (fun _ hk => hk.2) (.slice Ao26 t246.length co26)) (fun _ hk => hk.2) (.slice Ao27 t249.length co27)) (fun _ hk => hk.1.2)⟩, ⟨by (with_reducible repeat (first | apply rrA | apply rrN | apply rrD)); exact Kd.R_mono (Kd.R_far (p := ⟨gb253, 7, none⟩) (Kd.R_far (p := ⟨gb253, 6, none⟩) (Kd.R_far (p := ⟨gb253, 5, none⟩) (Kd.R_far (p := ⟨gb253, 4, none⟩) (Kd.R_far (p := ⟨gb253, 3, none⟩) (Kd.R_far (p := ⟨gb253, 2, none⟩) (Kd.R_far (p := ⟨gb253, 1, none⟩) (Kd.R_far (p := ⟨gb253, 0, none⟩) (Kd.R_types HO240.out BK253.out (by decide)) (fun _ hk => hk.2) (.int .i64 t236)) (fun _ hk => hk.2) (.int .i64 t237)) (fun _ hk => hk.2) (.slice Ao24 t238.length co24)) (fun _ hk => hk.2) (.slice Ao25 t241.length co25)) (fun _ hk => hk.2) (.int .i64 t244)) (fun _ hk => hk.2) (.int .i64 t245)) (fun _ hk => hk.2) (.slice Ao26 t246.length co26)) (fun _ hk => hk.2) (.slice Ao27 t249.length co27)) (fun _ hk => hk.1.2)⟩, ⟨by (with_reducible repeat (first | apply rrA | apply rrN | apply rrD)); exact Kd.R_mono (Kd.R_far (p := ⟨gb253, 7, none⟩) (Kd.R_far (p := ⟨gb253, 6, none⟩) (Kd.R_far (p := ⟨gb253, 5, none⟩) (Kd.R_far (p := ⟨gb253, 4, none⟩) (Kd.R_far (p := ⟨gb253, 3, none⟩) (Kd.R_far (p := ⟨gb253, 2, none⟩) (Kd.R_far (p := ⟨gb253, 1, none⟩) (Kd.R_far (p := ⟨gb253, 0, none⟩) (Kd.R_types HO243.out BK253.out (by decide)) (fun _ hk => hk.2) (.int .i64 t236)) (fun _ hk => hk.2) (.int .i64 t237)) (fun _ hk => hk.2) (.slice Ao24 t238.length co24)) (fun _ hk => hk.2) (.slice Ao25 t241.length co25)) (fun _ hk => hk.2) (.int .i64 t244)) (fun _ hk => hk.2) (.int .i64 t245)) (fun _ hk => hk.2) (.slice Ao26 t246.length co26)) (fun _ hk => hk.2) (.slice Ao27 t249.length co27)) (fun _ hk => hk.1.2)⟩, ⟨by (with_reducible repeat (first | apply rrA | apply rrN | apply rrD)); exact Kd.R_mono (Kd.R_far (p := ⟨gb253, 7, none⟩) (Kd.R_far (p := ⟨gb253, 6, none⟩) (Kd.R_far (p := ⟨gb253, 5, none⟩) (Kd.R_far (p := ⟨gb253, 4, none⟩) (Kd.R_far (p := ⟨gb253, 3, none⟩) (Kd.R_far (p := ⟨gb253, 2, none⟩) (Kd.R_far (p := ⟨gb253, 1, none⟩) (Kd.R_far (p := ⟨gb253, 0, none⟩) (Kd.R_types HO248.out BK253.out (by decide)) (fun _ hk => hk.2) (.int .i64 t236)) (fun _ hk => hk.2) (.int .i64 t237)) (fun _ hk => hk.2) (.slice Ao24 t238.length co24)) (fun _ hk => hk.2) (.slice Ao25 t241.length co25)) (fun _ hk => hk.2) (.int .i64 t244)) (fun _ hk => hk.2) (.int .i64 t245)) (fun _ hk => hk.2) (.slice Ao26 t246.length co26)) (fun _ hk => hk.2) (.slice Ao27 t249.length co27)) (fun _ hk => hk.1.2)⟩, ⟨by (with_reducible repeat (first | apply rrA | apply rrN | apply rrD)); exact Kd.R_mono (Kd.R_far (p := ⟨gb253, 7, none⟩) (Kd.R_far (p := ⟨gb253, 6, none⟩) (Kd.R_far (p := ⟨gb253, 5, none⟩) (Kd.R_far (p := ⟨gb253, 4, none⟩) (Kd.R_far (p := ⟨gb253, 3, none⟩) (Kd.R_far (p := ⟨gb253, 2, none⟩) (Kd.R_far (p := ⟨gb253, 1, none⟩) (Kd.R_far (p := ⟨gb253, 0, none⟩) (Kd.R_types HO251.out BK253.out (by decide)) (fun _ hk => hk.2) (.int .i64 t236)) (fun _ hk => hk.2) (.int .i64 t237)) (fun _ hk => hk.2) (.slice Ao24 t238.length co24)) (fun _ hk => hk.2) (.slice Ao25 t241.length co25)) (fun _ hk => hk.2) (.int .i64 t244)) (fun _ hk => hk.2) (.int .i64 t245)) (fun _ hk => hk.2) (.slice Ao26 t246.length co26)) (fun _ hk => hk.2) (.slice Ao27 t249.length co27)) (fun _ hk => hk.1.2)⟩, ⟨by (with_reducible repeat (first | refine kkN ?_ _ | refine kkD ?_ | refine kkA ?_ _)); refine blk_far ?_ NB235_253.out _; (with_reducible repeat (first | refine kkN ?_ _ | refine kkD ?_ | refine kkA ?_ _)); refine blk_far ?_ NB235_253.out _; (with_reducible repeat (first | refine kkN ?_ _ | refine kkD ?_ | refine kkA ?_ _)); refine blk_far ?_ NB235_253.out _; (with_reducible repeat (first | refine kkN ?_ _ | refine kkD ?_ | refine kkA ?_ _)); refine blk_far ?_ NB235_253.out _; (with_reducible repeat (first | refine kkN ?_ _ | refine kkD ?_ | refine kkA ?_ _)); refine blk_far ?_ NB235_253.out _; (with_reducible repeat (first | refine kkN ?_ _ | refine kkD ?_ | refine kkA ?_ _)); refine blk_far ?_ NB235_253.out _; (with_reducible repeat (first | refine kkN ?_ _ | refine kkD ?_ | refine kkA ?_ _)); refine blk_far ?_ NB235_253.out _; (with_reducible repeat (first | refine kkN ?_ _ | refine kkD ?_ | refine kkA ?_ _)); refine blk_far ?_ NB235_253.out _; (with_reducible repeat (first | refine kkN ?_ _ | refine kkD ?_ | refine kkA ?_ _)); exact BK235.out⟩, ⟨by (with_reducible repeat (first | refine kkN ?_ _ | refine kkD ?_ | refine kkA ?_ _)); refine blk_put (cs := #[.int .i64 t236, .int .i64 t237, .slice Ao24 t238.length co24, .slice Ao25 t241.length co25, .int .i64 t244, .int .i64 t245, .slice Ao26 t246.length co26, .slice none 0 0]) ?_ 7 _ rfl; (with_reducible repeat (first | refine kkN ?_ _ | refine kkD ?_ | refine kkA ?_ _)); refine blk_put (cs := #[.int .i64 t236, .int .i64 t237, .slice Ao24 t238.length co24, .slice Ao25 t241.length co25, .int .i64 t244, .int .i64 t245, .slice none 0 0, .slice none 0 0]) ?_ 6 _ rfl; (with_reducible repeat (first | refine kkN ?_ _ | refine kkD ?_ | refine kkA ?_ _)); refine blk_put (cs := #[.int .i64 t236, .int .i64 t237, .slice Ao24 t238.length co24, .slice Ao25 t241.length co25, .int .i64 t244, .int .i64 0, .slice none 0 0, .slice none 0 0]) ?_ 5 _ rfl; (with_reducible repeat (first | refine kkN ?_ _ | refine kkD ?_ | refine kkA ?_ _)); refine blk_put (cs := #[.int .i64 t236, .int .i64 t237, .slice Ao24 t238.length co24, .slice Ao25 t241.length co25, .int .i64 0, .int .i64 0, .slice none 0 0, .slice none 0 0]) ?_ 4 _ rfl; (with_reducible repeat (first | refine kkN ?_ _ | refine kkD ?_ | refine kkA ?_ _)); refine blk_put (cs := #[.int .i64 t236, .int .i64 t237, .slice Ao24 t238.length co24, .slice none 0 0, .int .i64 0, .int .i64 0, .slice none 0 0, .slice none 0 0]) ?_ 3 _ rfl; (with_reducible repeat (first | refine kkN ?_ _ | refine kkD ?_ | refine kkA ?_ _)); refine blk_put (cs := #[.int .i64 t236, .int .i64 t237, .slice none 0 0, .slice none 0 0, .int .i64 0, .int .i64 0, .slice none 0 0, .slice none 0 0]) ?_ 2 _ rfl; (with_reducible repeat (first | refine kkN ?_ _ | refine kkD ?_ | refine kkA ?_ _)); refine blk_put (cs := #[.int .i64 t236, .int .i64 0, .slice none 0 0, .slice none 0 0, .int .i64 0, .int .i64 0, .slice none 0 0, .slice none 0 0]) ?_ 1 _ rfl; (with_reducible repeat (first | refine kkN ?_ _ | refine kkD ?_ | refine kkA ?_ _)); refine blk_put (cs := #[.int .i64 0, .int .i64 0, .slice none 0 0, .slice none 0 0, .int .i64 0, .int .i64 0, .slice none 0 0, .slice none 0 0]) ?_ 0 _ rfl; (with_reducible repeat (first | refine kkN ?_ _ | refine kkD ?_ | refine kkA ?_ _)); exact BK253.out⟩, ⟨by repeat (first | (with_reducible first | exact HB.out | apply zzA | apply zzN | apply zzD | refine below_set ?_ GE235.out | refine below_set ?_ GE253.out) | exact HB.out)⟩⟩
   case rest =>
    clear HC11
    try clear c1
    try clear c2
    try clear p2
    try clear c6
    try clear c8
    try clear c12
    try clear c22
    try clear c28
    try clear c28b0
    try clear c28b1
    try clear hcz15_0
    try clear hcz15_1
    try clear hcz15_2
    try clear hcz15_3
    try clear hcz15_4
    try clear hcz15_5
    try clear hcz15_6
    try clear hcz15_7
    try clear hcz23_0
    try clear hcz23_1
    try clear hcz23_2
    try clear hcz23_3
    try clear hcz23_4
    try clear hcz23_5
    try clear hcz23_6
    try clear hcz23_7
    try clear hfz15_0
    try clear hfz15_1
    try clear hfz15_2
    try clear hfz15_3
    try clear hfz15_4
    try clear hfz15_5
    try clear hfz15_6
    try clear hfz15_7
    try clear hfz23_0
    try clear hfz23_1
    try clear hfz23_2
    try clear hfz23_3
    try clear hfz23_4
    try clear hfz23_5
    try clear hfz23_6
    try clear hfz23_7
    obtain ⟨kq, x47_10, rfl, HA, HJ10, HO_236002, HO_236003, HO_236006, HO_236007, HO_254002, HO_254003, HO_254006, HO_254007, BK235, BK253, HB⟩ := hcut
    cases kq with
    | zero => exact absurd HA.out (by simp [thrumlaw10_QuantSure.j0])
    | succ kj10 =>
     have H := HA.out
     clear HA
     simp only [thrumlaw10_QuantSure.j0] at H
     by_cases c29 : x47_10 = true
     ·
      subst c29
      have H1 : (if true = true then (some (t234 == t252)) else (some false)) = some r := by rw [if_pos rfl] at H; exact H
      clear H
      have H := H1
      clear H1
      first | rw [if_pos rfl] at H | rw [if_pos trivial] at H
      focus
       obtain rfl := Option.some.inj H
       go_wp2
       repeat (go_quiet (fail); try go_wp2)
       go_ret
       exact ⟨by first | rfl | (simp [errW_none, errW_some] <;> rfl) | (simp [*, errW_none, errW_some] <;> rfl), by repeat (first | (with_reducible first | exact HB.out | apply zzA | apply zzN | apply zzD | refine below_set ?_ GE235.out | refine below_set ?_ GE253.out) | exact HB.out)⟩
     ·
      replace c29 := Bool.eq_false_iff.mpr c29
      subst c29
      have H1 : ((quant_Loosen.f kj10 t218 t219 t220 t223 t226 t227 t228 t231).bind fun bt254 => (if bt254.2 = 0 then (if (bt254.1.length : Int) = (l0.length : Int) then ((frame_May.f t218 t219 t220 t223 t226 t227 t228 t231).bind fun t258 => (if t258 = true then ((frame_May.f t236 t237 t238 t241 t244 t245 t246 t249).bind fun t259 => (if t259 = true then (if t219 = (l0.length : Int) then (if t237 = (l0.length : Int) then (if (t228.length : Int) = (t246.length : Int) then (if (t231.length : Int) = (l0.length : Int) then (if (t249.length : Int) = (l0.length : Int) then (thrumlaw10_QuantSure.j1 kj10 l0 a1 true bt254.1 ((t228.length : Int) != (l0.length : Int)) t218 t219 t220 t223 t226 t227 t228 t231 t236 t237 t238 t241 t244 t245 t246 t249) else (thrumlaw10_QuantSure.j1 kj10 l0 a1 true bt254.1 true t218 t219 t220 t223 t226 t227 t228 t231 t236 t237 t238 t241 t244 t245 t246 t249)) else (thrumlaw10_QuantSure.j1 kj10 l0 a1 true bt254.1 true t218 t219 t220 t223 t226 t227 t228 t231 t236 t237 t238 t241 t244 t245 t246 t249)) else (thrumlaw10_QuantSure.j1 kj10 l0 a1 true bt254.1 true t218 t219 t220 t223 t226 t227 t228 t231 t236 t237 t238 t241 t244 t245 t246 t249)) else (thrumlaw10_QuantSure.j1 kj10 l0 a1 true bt254.1 true t218 t219 t220 t223 t226 t227 t228 t231 t236 t237 t238 t241 t244 t245 t246 t249)) else (thrumlaw10_QuantSure.j1 kj10 l0 a1 true bt254.1 true t218 t219 t220 t223 t226 t227 t228 t231 t236 t237 t238 t241 t244 t245 t246 t249)) else (thrumlaw10_QuantSure.j1 kj10 l0 a1 true bt254.1 true t218 t219 t220 t223 t226 t227 t228 t231 t236 t237 t238 t241 t244 t245 t246 t249))) else (thrumlaw10_QuantSure.j1 kj10 l0 a1 true bt254.1 true t218 t219 t220 t223 t226 t227 t228 t231 t236 t237 t238 t241 t244 t245 t246 t249))) else (thrumlaw10_QuantSure.j1 kj10 l0 a1 true bt254.1 true t218 t219 t220 t223 t226 t227 t228 t231 t236 t237 t238 t241 t244 t245 t246 t249)) else (thrumlaw10_QuantSure.j1 kj10 l0 a1 true bt254.1 true t218 t219 t220 t223 t226 t227 t228 t231 t236 t237 t238 t241 t244 t245 t246 t249))) = some r := by rw [if_neg (show ¬ (false = true) by decide)] at H; exact H
      clear H
      have H := H1
      clear H1
      replace H := Option.bind_eq_some_iff.mp H
      obtain ⟨⟨t254, t257⟩, A300, H⟩ := H
      replace H : (if t257 = 0 then (if (t254.length : Int) = (l0.length : Int) then ((frame_May.f t218 t219 t220 t223 t226 t227 t228 t231).bind fun t258 => (if t258 = true then ((frame_May.f t236 t237 t238 t241 t244 t245 t246 t249).bind fun t259 => (if t259 = true then (if t219 = (l0.length : Int) then (if t237 = (l0.length : Int) then (if (t228.length : Int) = (t246.length : Int) then (if (t231.length : Int) = (l0.length : Int) then (if (t249.length : Int) = (l0.length : Int) then (thrumlaw10_QuantSure.j1 kj10 l0 a1 true t254 ((t228.length : Int) != (l0.length : Int)) t218 t219 t220 t223 t226 t227 t228 t231 t236 t237 t238 t241 t244 t245 t246 t249) else (thrumlaw10_QuantSure.j1 kj10 l0 a1 true t254 true t218 t219 t220 t223 t226 t227 t228 t231 t236 t237 t238 t241 t244 t245 t246 t249)) else (thrumlaw10_QuantSure.j1 kj10 l0 a1 true t254 true t218 t219 t220 t223 t226 t227 t228 t231 t236 t237 t238 t241 t244 t245 t246 t249)) else (thrumlaw10_QuantSure.j1 kj10 l0 a1 true t254 true t218 t219 t220 t223 t226 t227 t228 t231 t236 t237 t238 t241 t244 t245 t246 t249)) else (thrumlaw10_QuantSure.j1 kj10 l0 a1 true t254 true t218 t219 t220 t223 t226 t227 t228 t231 t236 t237 t238 t241 t244 t245 t246 t249)) else (thrumlaw10_QuantSure.j1 kj10 l0 a1 true t254 true t218 t219 t220 t223 t226 t227 t228 t231 t236 t237 t238 t241 t244 t245 t246 t249)) else (thrumlaw10_QuantSure.j1 kj10 l0 a1 true t254 true t218 t219 t220 t223 t226 t227 t228 t231 t236 t237 t238 t241 t244 t245 t246 t249))) else (thrumlaw10_QuantSure.j1 kj10 l0 a1 true t254 true t218 t219 t220 t223 t226 t227 t228 t231 t236 t237 t238 t241 t244 t245 t246 t249))) else (thrumlaw10_QuantSure.j1 kj10 l0 a1 true t254 true t218 t219 t220 t223 t226 t227 t228 t231 t236 t237 t238 t241 t244 t245 t246 t249)) else (thrumlaw10_QuantSure.j1 kj10 l0 a1 true t254 true t218 t219 t220 t223 t226 t227 t228 t231 t236 t237 t238 t241 t244 t245 t246 t249)) = some r := H
      have A30 := Aside0.mk A300
      clear A300
      have HC31 := Aside0.mk H
      clear H
      have hnb32 := NB235_253.out
      have hnc32 := NB253_235.out
      have hcz33_0 : wc.cell? ⟨gb235, 0, none⟩ = some (.int .i64 t218) := (blk_cell BK235.out 0).trans rfl
      have hcz33_1 : wc.cell? ⟨gb235, 1, none⟩ = some (.int .i64 t219) := (blk_cell BK235.out 1).trans rfl
      have hcz33_2 : wc.cell? ⟨gb235, 2, none⟩ = some (.slice Ao16 t220.length co16) := (blk_cell BK235.out 2).trans rfl
      have hcz33_3 : wc.cell? ⟨gb235, 3, none⟩ = some (.slice Ao17 t223.length co17) := (blk_cell BK235.out 3).trans rfl
      have hcz33_4 : wc.cell? ⟨gb235, 4, none⟩ = some (.int .i64 t226) := (blk_cell BK235.out 4).trans rfl
      have hcz33_5 : wc.cell? ⟨gb235, 5, none⟩ = some (.int .i64 t227) := (blk_cell BK235.out 5).trans rfl
      have hcz33_6 : wc.cell? ⟨gb235, 6, none⟩ = some (.slice Ao18 t228.length co18) := (blk_cell BK235.out 6).trans rfl
      have hcz33_7 : wc.cell? ⟨gb235, 7, none⟩ = some (.slice Ao19 t231.length co19) := (blk_cell BK235.out 7).trans rfl
      have hfz33_0 := blk_frozen BK235.out 0
      have hfz33_1 := blk_frozen BK235.out 1
      have hfz33_2 := blk_frozen BK235.out 2
      have hfz33_3 := blk_frozen BK235.out 3
      have hfz33_4 := blk_frozen BK235.out 4
      have hfz33_5 := blk_frozen BK235.out 5
      have hfz33_6 := blk_frozen BK235.out 6
      have hfz33_7 := blk_frozen BK235.out 7
      go_upto_region 11 with (first | (go_at_call 55; (with_reducible refine (quant_Loosen.calls kj10 t218 t219 _ _ t220 _ _ t223 t226 t227 _ _ t228 _ _ t231 t254 t257 _ ?side1 ?side2 ?side3 ?side4 ?side5 ?side6 ?side7 ?side8 A30.out).mono ?_); (case side1 => repeat (first | exact (Kd.R_reads' HO_236002.out).2.2 | (with_reducible refine ccA ?_ _) | (with_reducible refine ccN ?_ _) | (with_reducible refine ccD ?_))); (case side2 => exact (Kd.R_reads' HO_236002.out).2.1); (case side3 => repeat (first | exact (Kd.R_reads' HO_236003.out).2.2 | (with_reducible refine ccA ?_ _) | (with_reducible refine ccN ?_ _) | (with_reducible refine ccD ?_))); (case side4 => exact (Kd.R_reads' HO_236003.out).2.1); (case side5 => repeat (first | exact (Kd.R_reads' HO_236006.out).2.2 | (with_reducible refine ccA ?_ _) | (with_reducible refine ccN ?_ _) | (with_reducible refine ccD ?_))); (case side6 => exact (Kd.R_reads' HO_236006.out).2.1); (case side7 => repeat (first | exact (Kd.R_reads' HO_236007.out).2.2 | (with_reducible refine ccA ?_ _) | (with_reducible refine ccN ?_ _) | (with_reducible refine ccD ?_))); (case side8 => exact (Kd.R_reads' HO_236007.out).2.1); rintro e w34 ⟨v255, rfl, ho0, hb⟩; have n0_ := Aside0.mk (Kd.R_below (by (with_reducible repeat (first | apply rrA | apply rrN | apply rrD)); exact HO_236002.out) hb); have n1_ := Aside0.mk (Kd.R_elder' (by (with_reducible repeat (first | apply rrA | apply rrN | apply rrD)); exact HO_236003.out) (Kd.R_base ho0) hb); have n2_ := Aside0.mk (Kd.R_below (by (with_reducible repeat (first | apply rrA | apply rrN | apply rrD)); exact HO_236006.out) hb); have n3_ := Aside0.mk (Kd.R_below (by (with_reducible repeat (first | apply rrA | apply rrN | apply rrD)); exact HO_236007.out) hb); have n4_ := Aside0.mk (Kd.R_below (by (with_reducible repeat (first | apply rrA | apply rrN | apply rrD)); exact HO_254002.out) hb); have n5_ := Aside0.mk (Kd.R_elder' (by (with_reducible repeat (first | apply rrA | apply rrN | apply rrD)); exact HO_254003.out) (Kd.R_base ho0) hb); have n6_ := Aside0.mk (Kd.R_below (by (with_reducible repeat (first | apply rrA | apply rrN | apply rrD)); exact HO_254006.out) hb); have n7_ := Aside0.mk (Kd.R_below (by (with_reducible repeat (first | apply rrA | apply rrN | apply rrD)); exact HO_254007.out) hb); have n8_ := Aside0.mk (Kd.R_lower (Kd.R_new' (Kd.R_new' ho0 (Kd.R_lt (by (with_reducible repeat (first | apply rrA | apply rrN | apply rrD)); exact HO_236003.out))) (Kd.R_lt (by (with_reducible repeat (first | apply rrA | apply rrN | apply rrD)); exact HO_254003.out))) (zzS (by repeat (first | (with_reducible first | exact HB.out | apply zzA | apply zzN | apply zzD | refine below_set ?_ GE235.out | refine below_set ?_ GE253.out) | exact HB.out)))); have n9_ := Aside0.mk (blk_below (g := gb235) (o := .cells #[.int .i64 t218, .int .i64 t219, .slice Ao16 t220.length co16, .slice Ao17 t223.length co17, .int .i64 t226, .int .i64 t227, .slice Ao18 t228.length co18, .slice Ao19 t231.length co19] 30 (0, 0)) (by (with_reducible repeat (first | refine kkN ?_ _ | refine kkD ?_ | refine kkA ?_ _)); exact BK235.out) hb); have n10_ := Aside0.mk (blk_below (g := gb253) (o := .cells #[.int .i64 t236, .int .i64 t237, .slice Ao24 t238.length co24, .slice Ao25 t241.length co25, .int .i64 t244, .int .i64 t245, .slice Ao26 t246.length co26, .slice Ao27 t249.length co27] 30 (0, 0)) (by (with_reducible repeat (first | refine kkN ?_ _ | refine kkD ?_ | refine kkA ?_ _)); exact BK253.out) hb); have n11_ := Aside0.mk (zzT (by repeat (first | (with_reducible first | exact HB.out | apply zzA | apply zzN | apply zzD | refine below_set ?_ GE235.out | refine below_set ?_ GE253.out) | exact HB.out)) hb); clear HO_236002; clear HO_236003; clear HO_236006; clear HO_236007; clear HO_254002; clear HO_254003; clear HO_254006; clear HO_254007; clear BK235; clear BK253; clear HB; have HO_236002 := n0_; have HO_236003 := n1_; have HO_236006 := n2_; have HO_236007 := n3_; have HO_254002 := n4_; have HO_254003 := n5_; have HO_254006 := n6_; have HO_254007 := n7_; have HO256 := n8_; have BK235 := n9_; have BK253 := n10_; have HB := n11_; clear n0_ n1_ n2_ n3_ n4_ n5_ n6_ n7_ n8_ n9_ n10_ n11_; (try clear hb); (try clear hb2); (try clear hk); (try clear hi); (try clear ho0)))
      repeat (go_quiet (first | (go_at_call 55; (with_reducible refine (quant_Loosen.calls kj10 t218 t219 _ _ t220 _ _ t223 t226 t227 _ _ t228 _ _ t231 t254 t257 _ ?side1 ?side2 ?side3 ?side4 ?side5 ?side6 ?side7 ?side8 A30.out).mono ?_); (case side1 => repeat (first | exact (Kd.R_reads' HO_236002.out).2.2 | (with_reducible refine ccA ?_ _) | (with_reducible refine ccN ?_ _) | (with_reducible refine ccD ?_))); (case side2 => exact (Kd.R_reads' HO_236002.out).2.1); (case side3 => repeat (first | exact (Kd.R_reads' HO_236003.out).2.2 | (with_reducible refine ccA ?_ _) | (with_reducible refine ccN ?_ _) | (with_reducible refine ccD ?_))); (case side4 => exact (Kd.R_reads' HO_236003.out).2.1); (case side5 => repeat (first | exact (Kd.R_reads' HO_236006.out).2.2 | (with_reducible refine ccA ?_ _) | (with_reducible refine ccN ?_ _) | (with_reducible refine ccD ?_))); (case side6 => exact (Kd.R_reads' HO_236006.out).2.1); (case side7 => repeat (first | exact (Kd.R_reads' HO_236007.out).2.2 | (with_reducible refine ccA ?_ _) | (with_reducible refine ccN ?_ _) | (with_reducible refine ccD ?_))); (case side8 => exact (Kd.R_reads' HO_236007.out).2.1); rintro e w34 ⟨v255, rfl, ho0, hb⟩; have n0_ := Aside0.mk (Kd.R_below (by (with_reducible repeat (first | apply rrA | apply rrN | apply rrD)); exact HO_236002.out) hb); have n1_ := Aside0.mk (Kd.R_elder' (by (with_reducible repeat (first | apply rrA | apply rrN | apply rrD)); exact HO_236003.out) (Kd.R_base ho0) hb); have n2_ := Aside0.mk (Kd.R_below (by (with_reducible repeat (first | apply rrA | apply rrN | apply rrD)); exact HO_236006.out) hb); have n3_ := Aside0.mk (Kd.R_below (by (with_reducible repeat (first | apply rrA | apply rrN | apply rrD)); exact HO_236007.out) hb); have n4_ := Aside0.mk (Kd.R_below (by (with_reducible repeat (first | apply rrA | apply rrN | apply rrD)); exact HO_254002.out) hb); have n5_ := Aside0.mk (Kd.R_elder' (by (with_reducible repeat (first | apply rrA | apply rrN | apply rrD)); exact HO_254003.out) (Kd.R_base ho0) hb); have n6_ := Aside0.mk (Kd.R_below (by (with_reducible repeat (first | apply rrA | apply rrN | apply rrD)); exact HO_254006.out) hb); have n7_ := Aside0.mk (Kd.R_below (by (with_reducible repeat (first | apply rrA | apply rrN | apply rrD)); exact HO_254007.out) hb); have n8_ := Aside0.mk (Kd.R_lower (Kd.R_new' (Kd.R_new' ho0 (Kd.R_lt (by (with_reducible repeat (first | apply rrA | apply rrN | apply rrD)); exact HO_236003.out))) (Kd.R_lt (by (with_reducible repeat (first | apply rrA | apply rrN | apply rrD)); exact HO_254003.out))) (zzS (by repeat (first | (with_reducible first | exact HB.out | apply zzA | apply zzN | apply zzD | refine below_set ?_ GE235.out | refine below_set ?_ GE253.out) | exact HB.out)))); have n9_ := Aside0.mk (blk_below (g := gb235) (o := .cells #[.int .i64 t218, .int .i64 t219, .slice Ao16 t220.length co16, .slice Ao17 t223.length co17, .int .i64 t226, .int .i64 t227, .slice Ao18 t228.length co18, .slice Ao19 t231.length co19] 30 (0, 0)) (by (with_reducible repeat (first | refine kkN ?_ _ | refine kkD ?_ | refine kkA ?_ _)); exact BK235.out) hb); have n10_ := Aside0.mk (blk_below (g := gb253) (o := .cells #[.int .i64 t236, .int .i64 t237, .slice Ao24 t238.length co24, .slice Ao25 t241.length co25, .int .i64 t244, .int .i64 t245, .slice Ao26 t246.length co26, .slice Ao27 t249.length co27] 30 (0, 0)) (by (with_reducible repeat (first | refine kkN ?_ _ | refine kkD ?_ | refine kkA ?_ _)); exact BK253.out) hb); have n11_ := Aside0.mk (zzT (by repeat (first | (with_reducible first | exact HB.out | apply zzA | apply zzN | apply zzD | refine below_set ?_ GE235.out | refine below_set ?_ GE253.out) | exact HB.out)) hb); clear HO_236002; clear HO_236003; clear HO_236006; clear HO_236007; clear HO_254002; clear HO_254003; clear HO_254006; clear HO_254007; clear BK235; clear BK253; clear HB; have HO_236002 := n0_; have HO_236003 := n1_; have HO_236006 := n2_; have HO_236007 := n3_; have HO_254002 := n4_; have HO_254003 := n5_; have HO_254006 := n6_; have HO_254007 := n7_; have HO256 := n8_; have BK235 := n9_; have BK253 := n10_; have HB := n11_; clear n0_ n1_ n2_ n3_ n4_ n5_ n6_ n7_ n8_ n9_ n10_ n11_; (try clear hb); (try clear hb2); (try clear hk); (try clear hi); (try clear ho0))); go_upto_region 11 with (first | (go_at_call 55; (with_reducible refine (quant_Loosen.calls kj10 t218 t219 _ _ t220 _ _ t223 t226 t227 _ _ t228 _ _ t231 t254 t257 _ ?side1 ?side2 ?side3 ?side4 ?side5 ?side6 ?side7 ?side8 A30.out).mono ?_); (case side1 => repeat (first | exact (Kd.R_reads' HO_236002.out).2.2 | (with_reducible refine ccA ?_ _) | (with_reducible refine ccN ?_ _) | (with_reducible refine ccD ?_))); (case side2 => exact (Kd.R_reads' HO_236002.out).2.1); (case side3 => repeat (first | exact (Kd.R_reads' HO_236003.out).2.2 | (with_reducible refine ccA ?_ _) | (with_reducible refine ccN ?_ _) | (with_reducible refine ccD ?_))); (case side4 => exact (Kd.R_reads' HO_236003.out).2.1); (case side5 => repeat (first | exact (Kd.R_reads' HO_236006.out).2.2 | (with_reducible refine ccA ?_ _) | (with_reducible refine ccN ?_ _) | (with_reducible refine ccD ?_))); (case side6 => exact (Kd.R_reads' HO_236006.out).2.1); (case side7 => repeat (first | exact (Kd.R_reads' HO_236007.out).2.2 | (with_reducible refine ccA ?_ _) | (with_reducible refine ccN ?_ _) | (with_reducible refine ccD ?_))); (case side8 => exact (Kd.R_reads' HO_236007.out).2.1); rintro e w34 ⟨v255, rfl, ho0, hb⟩; have n0_ := Aside0.mk (Kd.R_below (by (with_reducible repeat (first | apply rrA | apply rrN | apply rrD)); exact HO_236002.out) hb); have n1_ := Aside0.mk (Kd.R_elder' (by (with_reducible repeat (first | apply rrA | apply rrN | apply rrD)); exact HO_236003.out) (Kd.R_base ho0) hb); have n2_ := Aside0.mk (Kd.R_below (by (with_reducible repeat (first | apply rrA | apply rrN | apply rrD)); exact HO_236006.out) hb); have n3_ := Aside0.mk (Kd.R_below (by (with_reducible repeat (first | apply rrA | apply rrN | apply rrD)); exact HO_236007.out) hb); have n4_ := Aside0.mk (Kd.R_below (by (with_reducible repeat (first | apply rrA | apply rrN | apply rrD)); exact HO_254002.out) hb); have n5_ := Aside0.mk (Kd.R_elder' (by (with_reducible repeat (first | apply rrA | apply rrN | apply rrD)); exact HO_254003.out) (Kd.R_base ho0) hb); have n6_ := Aside0.mk (Kd.R_below (by (with_reducible repeat (first | apply rrA | apply rrN | apply rrD)); exact HO_254006.out) hb); have n7_ := Aside0.mk (Kd.R_below (by (with_reducible repeat (first | apply rrA | apply rrN | apply rrD)); exact HO_254007.out) hb); have n8_ := Aside0.mk (Kd.R_lower (Kd.R_new' (Kd.R_new' ho0 (Kd.R_lt (by (with_reducible repeat (first | apply rrA | apply rrN | apply rrD)); exact HO_236003.out))) (Kd.R_lt (by (with_reducible repeat (first | apply rrA | apply rrN | apply rrD)); exact HO_254003.out))) (zzS (by repeat (first | (with_reducible first | exact HB.out | apply zzA | apply zzN | apply zzD | refine below_set ?_ GE235.out | refine below_set ?_ GE253.out) | exact HB.out)))); have n9_ := Aside0.mk (blk_below (g := gb235) (o := .cells #[.int .i64 t218, .int .i64 t219, .slice Ao16 t220.length co16, .slice Ao17 t223.length co17, .int .i64 t226, .int .i64 t227, .slice Ao18 t228.length co18, .slice Ao19 t231.length co19] 30 (0, 0)) (by (with_reducible repeat (first | refine kkN ?_ _ | refine kkD ?_ | refine kkA ?_ _)); exact BK235.out) hb); have n10_ := Aside0.mk (blk_below (g := gb253) (o := .cells #[.int .i64 t236, .int .i64 t237, .slice Ao24 t238.length co24, .slice Ao25 t241.length co25, .int .i64 t244, .int .i64 t245, .slice Ao26 t246.length co26, .slice Ao27 t249.length co27] 30 (0, 0)) (by (with_reducible repeat (first | refine kkN ?_ _ | refine kkD ?_ | refine kkA ?_ _)); exact BK253.out) hb); have n11_ := Aside0.mk (zzT (by repeat (first | (with_reducible first | exact HB.out | apply zzA | apply zzN | apply zzD | refine below_set ?_ GE235.out | refine below_set ?_ GE253.out) | exact HB.out)) hb); clear HO_236002; clear HO_236003; clear HO_236006; clear HO_236007; clear HO_254002; clear HO_254003; clear HO_254006; clear HO_254007; clear BK235; clear BK253; clear HB; have HO_236002 := n0_; have HO_236003 := n1_; have HO_236006 := n2_; have HO_236007 := n3_; have HO_254002 := n4_; have HO_254003 := n5_; have HO_254006 := n6_; have HO_254007 := n7_; have HO256 := n8_; have BK235 := n9_; have BK253 := n10_; have HB := n11_; clear n0_ n1_ n2_ n3_ n4_ n5_ n6_ n7_ n8_ n9_ n10_ n11_; (try clear hb); (try clear hb2); (try clear hk); (try clear hi); (try clear ho0))))
      (try simp only [Act.put, List.setIfInBounds_toArray, List.set_cons_zero, List.set_cons_succ])
      go_cut [124] (fun v124 wc => ∃ (kq : Nat) (x124_30 : Bool), v124 = .bool x124_30 ∧ Aside0 (thrumlaw10_QuantSure.j1 kq l0 a1 true t254 x124_30 t218 t219 t220 t223 t226 t227 t228 t231 t236 t237 t238 t241 t244 t245 t246 t249 = some r) ∧ Aside0 (kq ≤ kj10) ∧ Aside0 (Kd.R (Kd.int .i64) 2 wc w.heap.size (fun k_ => some k_ ≠ ((.slice Ao17 t223.length co17) : Value).ownBlock ∧ some k_ ≠ ((.slice Ao25 t241.length co25) : Value).ownBlock) v255 t254) ∧ Aside0 (Kd.R (Kd.int .i64) 3 wc w.heap.size (fun k_ => some k_ ≠ ((.slice Ao24 t238.length co24) : Value).ownBlock) (.slice Ao16 t220.length co16) t220) ∧ Aside0 (Kd.R (Kd.int .i64) 2 wc w.heap.size (fun k_ => some k_ ≠ (v255 : Value).ownBlock ∧ some k_ ≠ ((.slice Ao25 t241.length co25) : Value).ownBlock) (.slice Ao17 t223.length co17) t223) ∧ Aside0 (Kd.R (Kd.int .u64) 64 wc w.heap.size (fun k_ => some k_ ≠ ((.slice Ao26 t246.length co26) : Value).ownBlock) (.slice Ao18 t228.length co18) t228) ∧ Aside0 (Kd.R Kd.bool 4 wc w.heap.size (fun k_ => some k_ ≠ ((.slice Ao27 t249.length co27) : Value).ownBlock) (.slice Ao19 t231.length co19) t231) ∧ Aside0 (Kd.R (Kd.int .i64) 3 wc w.heap.size (fun k_ => some k_ ≠ ((.slice Ao16 t220.length co16) : Value).ownBlock) (.slice Ao24 t238.length co24) t238) ∧ Aside0 (Kd.R (Kd.int .i64) 2 wc w.heap.size (fun k_ => some k_ ≠ (v255 : Value).ownBlock ∧ some k_ ≠ ((.slice Ao17 t223.length co17) : Value).ownBlock) (.slice Ao25 t241.length co25) t241) ∧ Aside0 (Kd.R (Kd.int .u64) 64 wc w.heap.size (fun k_ => some k_ ≠ ((.slice Ao18 t228.length co18) : Value).ownBlock) (.slice Ao26 t246.length co26) t246) ∧ Aside0 (Kd.R Kd.bool 4 wc w.heap.size (fun k_ => some k_ ≠ ((.slice Ao19 t231.length co19) : Value).ownBlock) (.slice Ao27 t249.length co27) t249) ∧ Aside0 (wc.heap[gb235]? = some (.cells #[.int .i64 t218, .int .i64 t219, (.slice Ao16 t220.length co16), (.slice Ao17 t223.length co17), .int .i64 t226, .int .i64 t227, (.slice Ao18 t228.length co18), (.slice Ao19 t231.length co19)] 30 (0, 0))) ∧ Aside0 (wc.heap[gb253]? = some (.cells #[.int .i64 t236, .int .i64 t237, (.slice Ao24 t238.length co24), (.slice Ao25 t241.length co25), .int .i64 t244, .int .i64 t245, (.slice Ao26 t246.length co26), (.slice Ao27 t249.length co27)] 30 (0, 0))) ∧ Aside0 (Below w.heap.size w wc))
      case first =>
       have H := HC31.out
       clear HC31
       by_cases c35 : t257 = 0
       ·
        rw [if_pos c35] at H
        have c35b0 : (t257 == 0) = true := beq_iff_eq.mpr c35
        have c35b1 : (t257 != 0) = false := bne_eq_false_iff_eq.mpr c35
        clear c35
        (first | rw [c35b0] | (simp only [i64_w, i32_w]; rw [c35b0]) | skip)
        by_cases c36 : (t254.length : Int) = (l0.length : Int)
        ·
         rw [if_pos c36] at H
         have c36b0 : ((t254.length : Int) == (l0.length : Int)) = true := beq_iff_eq.mpr c36
         have c36b1 : ((t254.length : Int) != (l0.length : Int)) = false := bne_eq_false_iff_eq.mpr c36
         have c36b2 : (t254.length == l0.length) = true := by first | simpa using c36 | (simp at c36 ⊢; omega)
         clear c36
         replace H := Option.bind_eq_some_iff.mp H
         obtain ⟨t258, A370, H⟩ := H
         replace H : (if t258 = true then ((frame_May.f t236 t237 t238 t241 t244 t245 t246 t249).bind fun t259 => (if t259 = true then (if t219 = (l0.length : Int) then (if t237 = (l0.length : Int) then (if (t228.length : Int) = (t246.length : Int) then (if (t231.length : Int) = (l0.length : Int) then (if (t249.length : Int) = (l0.length : Int) then (thrumlaw10_QuantSure.j1 kj10 l0 a1 true t254 ((t228.length : Int) != (l0.length : Int)) t218 t219 t220 t223 t226 t227 t228 t231 t236 t237 t238 t241 t244 t245 t246 t249) else (thrumlaw10_QuantSure.j1 kj10 l0 a1 true t254 true t218 t219 t220 t223 t226 t227 t228 t231 t236 t237 t238 t241 t244 t245 t246 t249)) else (thrumlaw10_QuantSure.j1 kj10 l0 a1 true t254 true t218 t219 t220 t223 t226 t227 t228 t231 t236 t237 t238 t241 t244 t245 t246 t249)) else (thrumlaw10_QuantSure.j1 kj10 l0 a1 true t254 true t218 t219 t220 t223 t226 t227 t228 t231 t236 t237 t238 t241 t244 t245 t246 t249)) else (thrumlaw10_QuantSure.j1 kj10 l0 a1 true t254 true t218 t219 t220 t223 t226 t227 t228 t231 t236 t237 t238 t241 t244 t245 t246 t249)) else (thrumlaw10_QuantSure.j1 kj10 l0 a1 true t254 true t218 t219 t220 t223 t226 t227 t228 t231 t236 t237 t238 t241 t244 t245 t246 t249)) else (thrumlaw10_QuantSure.j1 kj10 l0 a1 true t254 true t218 t219 t220 t223 t226 t227 t228 t231 t236 t237 t238 t241 t244 t245 t246 t249))) else (thrumlaw10_QuantSure.j1 kj10 l0 a1 true t254 true t218 t219 t220 t223 t226 t227 t228 t231 t236 t237 t238 t241 t244 t245 t246 t249)) = some r := H
         have A37 := Aside0.mk A370
         clear A370
         by_cases c38 : t258 = true
         ·
          subst c38
          have H1 : ((frame_May.f t236 t237 t238 t241 t244 t245 t246 t249).bind fun t259 => (if t259 = true then (if t219 = (l0.length : Int) then (if t237 = (l0.length : Int) then (if (t228.length : Int) = (t246.length : Int) then (if (t231.length : Int) = (l0.length : Int) then (if (t249.length : Int) = (l0.length : Int) then (thrumlaw10_QuantSure.j1 kj10 l0 a1 true t254 ((t228.length : Int) != (l0.length : Int)) t218 t219 t220 t223 t226 t227 t228 t231 t236 t237 t238 t241 t244 t245 t246 t249) else (thrumlaw10_QuantSure.j1 kj10 l0 a1 true t254 true t218 t219 t220 t223 t226 t227 t228 t231 t236 t237 t238 t241 t244 t245 t246 t249)) else (thrumlaw10_QuantSure.j1 kj10 l0 a1 true t254 true t218 t219 t220 t223 t226 t227 t228 t231 t236 t237 t238 t241 t244 t245 t246 t249)) else (thrumlaw10_QuantSure.j1 kj10 l0 a1 true t254 true t218 t219 t220 t223 t226 t227 t228 t231 t236 t237 t238 t241 t244 t245 t246 t249)) else (thrumlaw10_QuantSure.j1 kj10 l0 a1 true t254 true t218 t219 t220 t223 t226 t227 t228 t231 t236 t237 t238 t241 t244 t245 t246 t249)) else (thrumlaw10_QuantSure.j1 kj10 l0 a1 true t254 true t218 t219 t220 t223 t226 t227 t228 t231 t236 t237 t238 t241 t244 t245 t246 t249)) else (thrumlaw10_QuantSure.j1 kj10 l0 a1 true t254 true t218 t219 t220 t223 t226 t227 t228 t231 t236 t237 t238 t241 t244 t245 t246 t249))) = some r := by rw [if_pos rfl] at H; exact H
          clear H
          have H := H1
          clear H1
          replace H := Option.bind_eq_some_iff.mp H
          obtain ⟨t259, A390, H⟩ := H
          replace H : (if t259 = true then (if t219 = (l0.length : Int) then (if t237 = (l0.length : Int) then (if (t228.length : Int) = (t246.length : Int) then (if (t231.length : Int) = (l0.length : Int) then (if (t249.length : Int) = (l0.length : Int) then (thrumlaw10_QuantSure.j1 kj10 l0 a1 true t254 ((t228.length : Int) != (l0.length : Int)) t218 t219 t220 t223 t226 t227 t228 t231 t236 t237 t238 t241 t244 t245 t246 t249) else (thrumlaw10_QuantSure.j1 kj10 l0 a1 true t254 true t218 t219 t220 t223 t226 t227 t228 t231 t236 t237 t238 t241 t244 t245 t246 t249)) else (thrumlaw10_QuantSure.j1 kj10 l0 a1 true t254 true t218 t219 t220 t223 t226 t227 t228 t231 t236 t237 t238 t241 t244 t245 t246 t249)) else (thrumlaw10_QuantSure.j1 kj10 l0 a1 true t254 true t218 t219 t220 t223 t226 t227 t228 t231 t236 t237 t238 t241 t244 t245 t246 t249)) else (thrumlaw10_QuantSure.j1 kj10 l0 a1 true t254 true t218 t219 t220 t223 t226 t227 t228 t231 t236 t237 t238 t241 t244 t245 t246 t249)) else (thrumlaw10_QuantSure.j1 kj10 l0 a1 true t254 true t218 t219 t220 t223 t226 t227 t228 t231 t236 t237 t238 t241 t244 t245 t246 t249)) else (thrumlaw10_QuantSure.j1 kj10 l0 a1 true t254 true t218 t219 t220 t223 t226 t227 t228 t231 t236 t237 t238 t241 t244 t245 t246 t249)) = some r := H
          have A39 := Aside0.mk A390
          clear A390
          by_cases c40 : t259 = true
          ·
           subst c40
           have H1 : (if t219 = (l0.length : Int) then (if t237 = (l0.length : Int) then (if (t228.length : Int) = (t246.length : Int) then (if (t231.length : Int) = (l0.length : Int) then (if (t249.length : Int) = (l0.length : Int) then (thrumlaw10_QuantSure.j1 kj10 l0 a1 true t254 ((t228.length : Int) != (l0.length : Int)) t218 t219 t220 t223 t226 t227 t228 t231 t236 t237 t238 t241 t244 t245 t246 t249) else (thrumlaw10_QuantSure.j1 kj10 l0 a1 true t254 true t218 t219 t220 t223 t226 t227 t228 t231 t236 t237 t238 t241 t244 t245 t246 t249)) else (thrumlaw10_QuantSure.j1 kj10 l0 a1 true t254 true t218 t219 t220 t223 t226 t227 t228 t231 t236 t237 t238 t241 t244 t245 t246 t249)) else (thrumlaw10_QuantSure.j1 kj10 l0 a1 true t254 true t218 t219 t220 t223 t226 t227 t228 t231 t236 t237 t238 t241 t244 t245 t246 t249)) else (thrumlaw10_QuantSure.j1 kj10 l0 a1 true t254 true t218 t219 t220 t223 t226 t227 t228 t231 t236 t237 t238 t241 t244 t245 t246 t249)) else (thrumlaw10_QuantSure.j1 kj10 l0 a1 true t254 true t218 t219 t220 t223 t226 t227 t228 t231 t236 t237 t238 t241 t244 t245 t246 t249)) = some r := by rw [if_pos rfl] at H; exact H
           clear H
           have H := H1
           clear H1
           by_cases c41 : t219 = (l0.length : Int)
           ·
            rw [if_pos c41] at H
            have c41b0 : (t219 == (l0.length : Int)) = true := beq_iff_eq.mpr c41
            have c41b1 : (t219 != (l0.length : Int)) = false := bne_eq_false_iff_eq.mpr c41
            clear c41
            by_cases c42 : t237 = (l0.length : Int)
            ·
             rw [if_pos c42] at H
             have c42b0 : (t237 == (l0.length : Int)) = true := beq_iff_eq.mpr c42
             have c42b1 : (t237 != (l0.length : Int)) = false := bne_eq_false_iff_eq.mpr c42
             clear c42
             by_cases c43 : (t228.length : Int) = (t246.length : Int)
             ·
              rw [if_pos c43] at H
              have c43b0 : ((t228.length : Int) == (t246.length : Int)) = true := beq_iff_eq.mpr c43
              have c43b1 : ((t228.length : Int) != (t246.length : Int)) = false := bne_eq_false_iff_eq.mpr c43
              have c43b2 : (t228.length == t246.length) = true := by first | simpa using c43 | (simp at c43 ⊢; omega)
              clear c43
              by_cases c44 : (t231.length : Int) = (l0.length : Int)
              ·
               rw [if_pos c44] at H
               have c44b0 : ((t231.length : Int) == (l0.length : Int)) = true := beq_iff_eq.mpr c44
               have c44b1 : ((t231.length : Int) != (l0.length : Int)) = false := bne_eq_false_iff_eq.mpr c44
               have c44b2 : (t231.length == l0.length) = true := by first | simpa using c44 | (simp at c44 ⊢; omega)
               clear c44
               by_cases c45 : (t249.length : Int) = (l0.length : Int)
               ·
                rw [if_pos c45] at H
                have c45b0 : ((t249.length : Int) == (l0.length : Int)) = true := beq_iff_eq.mpr c45
                have c45b1 : ((t249.length : Int) != (l0.length : Int)) = false := bne_eq_false_iff_eq.mpr c45
                have c45b2 : (t249.length == l0.length) = true := by first | simpa using c45 | (simp at c45 ⊢; omega)
                clear c45
                focus
                 have H' := Aside0.mk H
                 clear H
                 obtain ⟨Ao46, co46, eo46⟩ := Kd.R_slice HO256.out
                 subst eo46
                 have hnb47 := NB235_253.out
                 have hnc47 := NB253_235.out
                 have hcz48_0 : w34.cell? ⟨gb235, 0, none⟩ = some (.int .i64 t218) := (blk_cell BK235.out 0).trans rfl
                 have hcz48_1 : w34.cell? ⟨gb235, 1, none⟩ = some (.int .i64 t219) := (blk_cell BK235.out 1).trans rfl
                 have hcz48_2 : w34.cell? ⟨gb235, 2, none⟩ = some (.slice Ao16 t220.length co16) := (blk_cell BK235.out 2).trans rfl
                 have hcz48_3 : w34.cell? ⟨gb235, 3, none⟩ = some (.slice Ao17 t223.length co17) := (blk_cell BK235.out 3).trans rfl
                 have hcz48_4 : w34.cell? ⟨gb235, 4, none⟩ = some (.int .i64 t226) := (blk_cell BK235.out 4).trans rfl
                 have hcz48_5 : w34.cell? ⟨gb235, 5, none⟩ = some (.int .i64 t227) := (blk_cell BK235.out 5).trans rfl
                 have hcz48_6 : w34.cell? ⟨gb235, 6, none⟩ = some (.slice Ao18 t228.length co18) := (blk_cell BK235.out 6).trans rfl
                 have hcz48_7 : w34.cell? ⟨gb235, 7, none⟩ = some (.slice Ao19 t231.length co19) := (blk_cell BK235.out 7).trans rfl
                 have hfz48_0 := blk_frozen BK235.out 0
                 have hfz48_1 := blk_frozen BK235.out 1
                 have hfz48_2 := blk_frozen BK235.out 2
                 have hfz48_3 := blk_frozen BK235.out 3
                 have hfz48_4 := blk_frozen BK235.out 4
                 have hfz48_5 := blk_frozen BK235.out 5
                 have hfz48_6 := blk_frozen BK235.out 6
                 have hfz48_7 := blk_frozen BK235.out 7
                 go_wp2_with (first | (go_at_call 60; (with_reducible refine (frame_May.calls t218 t219 _ _ t220 _ _ t223 t226 t227 _ _ t228 _ _ t231 true _ ?side1 ?side2 ?side3 ?side4 ?side5 ?side6 ?side7 ?side8 A37.out).mono ?_); (case side1 => repeat (first | exact (Kd.R_reads' HO_236002.out).2.2 | (with_reducible refine ccA ?_ _) | (with_reducible refine ccN ?_ _) | (with_reducible refine ccD ?_))); (case side2 => exact (Kd.R_reads' HO_236002.out).2.1); (case side3 => repeat (first | exact (Kd.R_reads' HO_236003.out).2.2 | (with_reducible refine ccA ?_ _) | (with_reducible refine ccN ?_ _) | (with_reducible refine ccD ?_))); (case side4 => exact (Kd.R_reads' HO_236003.out).2.1); (case side5 => repeat (first | exact (Kd.R_reads' HO_236006.out).2.2 | (with_reducible refine ccA ?_ _) | (with_reducible refine ccN ?_ _) | (with_reducible refine ccD ?_))); (case side6 => exact (Kd.R_reads' HO_236006.out).2.1); (case side7 => repeat (first | exact (Kd.R_reads' HO_236007.out).2.2 | (with_reducible refine ccA ?_ _) | (with_reducible refine ccN ?_ _) | (with_reducible refine ccD ?_))); (case side8 => exact (Kd.R_reads' HO_236007.out).2.1); rintro e w49 ⟨rfl, hb⟩; have n0_ := Aside0.mk (Kd.R_below (by (with_reducible repeat (first | apply rrA | apply rrN | apply rrD)); exact HO_236002.out) hb); have n1_ := Aside0.mk (Kd.R_below (by (with_reducible repeat (first | apply rrA | apply rrN | apply rrD)); exact HO_236003.out) hb); have n2_ := Aside0.mk (Kd.R_below (by (with_reducible repeat (first | apply rrA | apply rrN | apply rrD)); exact HO_236006.out) hb); have n3_ := Aside0.mk (Kd.R_below (by (with_reducible repeat (first | apply rrA | apply rrN | apply rrD)); exact HO_236007.out) hb); have n4_ := Aside0.mk (Kd.R_below (by (with_reducible repeat (first | apply rrA | apply rrN | apply rrD)); exact HO_254002.out) hb); have n5_ := Aside0.mk (Kd.R_below (by (with_reducible repeat (first | apply rrA | apply rrN | apply rrD)); exact HO_254003.out) hb); have n6_ := Aside0.mk (Kd.R_below (by (with_reducible repeat (first | apply rrA | apply rrN | apply rrD)); exact HO_254006.out) hb); have n7_ := Aside0.mk (Kd.R_below (by (with_reducible repeat (first | apply rrA | apply rrN | apply rrD)); exact HO_254007.out) hb); have n8_ := Aside0.mk (Kd.R_below (by (with_reducible repeat (first | apply rrA | apply rrN | apply rrD)); exact HO256.out) hb); have n9_ := Aside0.mk (blk_below (g := gb235) (o := .cells #[.int .i64 t218, .int .i64 t219, .slice Ao16 t220.length co16, .slice Ao17 t223.length co17, .int .i64 t226, .int .i64 t227, .slice Ao18 t228.length co18, .slice Ao19 t231.length co19] 30 (0, 0)) (by (with_reducible repeat (first | refine kkN ?_ _ | refine kkD ?_ | refine kkA ?_ _)); exact BK235.out) hb); have n10_ := Aside0.mk (blk_below (g := gb253) (o := .cells #[.int .i64 t236, .int .i64 t237, .slice Ao24 t238.length co24, .slice Ao25 t241.length co25, .int .i64 t244, .int .i64 t245, .slice Ao26 t246.length co26, .slice Ao27 t249.length co27] 30 (0, 0)) (by (with_reducible repeat (first | refine kkN ?_ _ | refine kkD ?_ | refine kkA ?_ _)); exact BK253.out) hb); have n11_ := Aside0.mk (zzT (by repeat (first | (with_reducible first | exact HB.out | apply zzA | apply zzN | apply zzD | refine below_set ?_ GE235.out | refine below_set ?_ GE253.out) | exact HB.out)) hb); clear HO_236002; clear HO_236003; clear HO_236006; clear HO_236007; clear HO_254002; clear HO_254003; clear HO_254006; clear HO_254007; clear HO256; clear BK235; clear BK253; clear HB; have HO_236002 := n0_; have HO_236003 := n1_; have HO_236006 := n2_; have HO_236007 := n3_; have HO_254002 := n4_; have HO_254003 := n5_; have HO_254006 := n6_; have HO_254007 := n7_; have HO256 := n8_; have BK235 := n9_; have BK253 := n10_; have HB := n11_; clear n0_ n1_ n2_ n3_ n4_ n5_ n6_ n7_ n8_ n9_ n10_ n11_; (try clear hb); (try clear hb2); (try clear hk); (try clear hi); have hcz50_0 : w49.cell? ⟨gb253, 0, none⟩ = some (.int .i64 t236) := (blk_cell BK253.out 0).trans rfl; have hcz50_1 : w49.cell? ⟨gb253, 1, none⟩ = some (.int .i64 t237) := (blk_cell BK253.out 1).trans rfl; have hcz50_2 : w49.cell? ⟨gb253, 2, none⟩ = some (.slice Ao24 t238.length co24) := (blk_cell BK253.out 2).trans rfl; have hcz50_3 : w49.cell? ⟨gb253, 3, none⟩ = some (.slice Ao25 t241.length co25) := (blk_cell BK253.out 3).trans rfl; have hcz50_4 : w49.cell? ⟨gb253, 4, none⟩ = some (.int .i64 t244) := (blk_cell BK253.out 4).trans rfl; have hcz50_5 : w49.cell? ⟨gb253, 5, none⟩ = some (.int .i64 t245) := (blk_cell BK253.out 5).trans rfl; have hcz50_6 : w49.cell? ⟨gb253, 6, none⟩ = some (.slice Ao26 t246.length co26) := (blk_cell BK253.out 6).trans rfl; have hcz50_7 : w49.cell? ⟨gb253, 7, none⟩ = some (.slice Ao27 t249.length co27) := (blk_cell BK253.out 7).trans rfl; have hfz50_0 := blk_frozen BK253.out 0; have hfz50_1 := blk_frozen BK253.out 1; have hfz50_2 := blk_frozen BK253.out 2; have hfz50_3 := blk_frozen BK253.out 3; have hfz50_4 := blk_frozen BK253.out 4; have hfz50_5 := blk_frozen BK253.out 5; have hfz50_6 := blk_frozen BK253.out 6; have hfz50_7 := blk_frozen BK253.out 7) | (go_at_call 60; (with_reducible refine (frame_May.calls t236 t237 _ _ t238 _ _ t241 t244 t245 _ _ t246 _ _ t249 true _ ?side1 ?side2 ?side3 ?side4 ?side5 ?side6 ?side7 ?side8 A39.out).mono ?_); (case side1 => repeat (first | exact (Kd.R_reads' HO_254002.out).2.2 | (with_reducible refine ccA ?_ _) | (with_reducible refine ccN ?_ _) | (with_reducible refine ccD ?_))); (case side2 => exact (Kd.R_reads' HO_254002.out).2.1); (case side3 => repeat (first | exact (Kd.R_reads' HO_254003.out).2.2 | (with_reducible refine ccA ?_ _) | (with_reducible refine ccN ?_ _) | (with_reducible refine ccD ?_))); (case side4 => exact (Kd.R_reads' HO_254003.out).2.1); (case side5 => repeat (first | exact (Kd.R_reads' HO_254006.out).2.2 | (with_reducible refine ccA ?_ _) | (with_reducible refine ccN ?_ _) | (with_reducible refine ccD ?_))); (case side6 => exact (Kd.R_reads' HO_254006.out).2.1); (case side7 => repeat (first | exact (Kd.R_reads' HO_254007.out).2.2 | (with_reducible refine ccA ?_ _) | (with_reducible refine ccN ?_ _) | (with_reducible refine ccD ?_))); (case side8 => exact (Kd.R_reads' HO_254007.out).2.1); rintro e w51 ⟨rfl, hb⟩; have n0_ := Aside0.mk (Kd.R_below (by (with_reducible repeat (first | apply rrA | apply rrN | apply rrD)); exact HO_236002.out) hb); have n1_ := Aside0.mk (Kd.R_below (by (with_reducible repeat (first | apply rrA | apply rrN | apply rrD)); exact HO_236003.out) hb); have n2_ := Aside0.mk (Kd.R_below (by (with_reducible repeat (first | apply rrA | apply rrN | apply rrD)); exact HO_236006.out) hb); have n3_ := Aside0.mk (Kd.R_below (by (with_reducible repeat (first | apply rrA | apply rrN | apply rrD)); exact HO_236007.out) hb); have n4_ := Aside0.mk (Kd.R_below (by (with_reducible repeat (first | apply rrA | apply rrN | apply rrD)); exact HO_254002.out) hb); have n5_ := Aside0.mk (Kd.R_below (by (with_reducible repeat (first | apply rrA | apply rrN | apply rrD)); exact HO_254003.out) hb); have n6_ := Aside0.mk (Kd.R_below (by (with_reducible repeat (first | apply rrA | apply rrN | apply rrD)); exact HO_254006.out) hb); have n7_ := Aside0.mk (Kd.R_below (by (with_reducible repeat (first | apply rrA | apply rrN | apply rrD)); exact HO_254007.out) hb); have n8_ := Aside0.mk (Kd.R_below (by (with_reducible repeat (first | apply rrA | apply rrN | apply rrD)); exact HO256.out) hb); have n9_ := Aside0.mk (blk_below (g := gb235) (o := .cells #[.int .i64 t218, .int .i64 t219, .slice Ao16 t220.length co16, .slice Ao17 t223.length co17, .int .i64 t226, .int .i64 t227, .slice Ao18 t228.length co18, .slice Ao19 t231.length co19] 30 (0, 0)) (by (with_reducible repeat (first | refine kkN ?_ _ | refine kkD ?_ | refine kkA ?_ _)); exact BK235.out) hb); have n10_ := Aside0.mk (blk_below (g := gb253) (o := .cells #[.int .i64 t236, .int .i64 t237, .slice Ao24 t238.length co24, .slice Ao25 t241.length co25, .int .i64 t244, .int .i64 t245, .slice Ao26 t246.length co26, .slice Ao27 t249.length co27] 30 (0, 0)) (by (with_reducible repeat (first | refine kkN ?_ _ | refine kkD ?_ | refine kkA ?_ _)); exact BK253.out) hb); have n11_ := Aside0.mk (zzT (by repeat (first | (with_reducible first | exact HB.out | apply zzA | apply zzN | apply zzD | refine below_set ?_ GE235.out | refine below_set ?_ GE253.out) | exact HB.out)) hb); clear HO_236002; clear HO_236003; clear HO_236006; clear HO_236007; clear HO_254002; clear HO_254003; clear HO_254006; clear HO_254007; clear HO256; clear BK235; clear BK253; clear HB; have HO_236002 := n0_; have HO_236003 := n1_; have HO_236006 := n2_; have HO_236007 := n3_; have HO_254002 := n4_; have HO_254003 := n5_; have HO_254006 := n6_; have HO_254007 := n7_; have HO256 := n8_; have BK235 := n9_; have BK253 := n10_; have HB := n11_; clear n0_ n1_ n2_ n3_ n4_ n5_ n6_ n7_ n8_ n9_ n10_ n11_; (try clear hb); (try clear hb2); (try clear hk); (try clear hi); have hcz52_0 : w51.cell? ⟨gb235, 0, none⟩ = some (.int .i64 t218) := (blk_cell BK235.out 0).trans rfl; have hcz52_1 : w51.cell? ⟨gb235, 1, none⟩ = some (.int .i64 t219) := (blk_cell BK235.out 1).trans rfl; have hcz52_2 : w51.cell? ⟨gb235, 2, none⟩ = some (.slice Ao16 t220.length co16) := (blk_cell BK235.out 2).trans rfl; have hcz52_3 : w51.cell? ⟨gb235, 3, none⟩ = some (.slice Ao17 t223.length co17) := (blk_cell BK235.out 3).trans rfl; have hcz52_4 : w51.cell? ⟨gb235, 4, none⟩ = some (.int .i64 t226) := (blk_cell BK235.out 4).trans rfl; have hcz52_5 : w51.cell? ⟨gb235, 5, none⟩ = some (.int .i64 t227) := (blk_cell BK235.out 5).trans rfl; have hcz52_6 : w51.cell? ⟨gb235, 6, none⟩ = some (.slice Ao18 t228.length co18) := (blk_cell BK235.out 6).trans rfl; have hcz52_7 : w51.cell? ⟨gb235, 7, none⟩ = some (.slice Ao19 t231.length co19) := (blk_cell BK235.out 7).trans rfl; have hfz52_0 := blk_frozen BK235.out 0; have hfz52_1 := blk_frozen BK235.out 1; have hfz52_2 := blk_frozen BK235.out 2; have hfz52_3 := blk_frozen BK235.out 3; have hfz52_4 := blk_frozen BK235.out 4; have hfz52_5 := blk_frozen BK235.out 5; have hfz52_6 := blk_frozen BK235.out 6; have hfz52_7 := blk_frozen BK235.out 7; have hcz53_0 : w51.cell? ⟨gb253, 0, none⟩ = some (.int .i64 t236) := (blk_cell BK253.out 0).trans rfl; have hcz53_1 : w51.cell? ⟨gb253, 1, none⟩ = some (.int .i64 t237) := (blk_cell BK253.out 1).trans rfl; have hcz53_2 : w51.cell? ⟨gb253, 2, none⟩ = some (.slice Ao24 t238.length co24) := (blk_cell BK253.out 2).trans rfl; have hcz53_3 : w51.cell? ⟨gb253, 3, none⟩ = some (.slice Ao25 t241.length co25) := (blk_cell BK253.out 3).trans rfl; have hcz53_4 : w51.cell? ⟨gb253, 4, none⟩ = some (.int .i64 t244) := (blk_cell BK253.out 4).trans rfl; have hcz53_5 : w51.cell? ⟨gb253, 5, none⟩ = some (.int .i64 t245) := (blk_cell BK253.out 5).trans rfl; have hcz53_6 : w51.cell? ⟨gb253, 6, none⟩ = some (.slice Ao26 t246.length co26) := (blk_cell BK253.out 6).trans rfl; have hcz53_7 : w51.cell? ⟨gb253, 7, none⟩ = some (.slice Ao27 t249.length co27) := (blk_cell BK253.out 7).trans rfl; have hfz53_0 := blk_frozen BK253.out 0; have hfz53_1 := blk_frozen BK253.out 1; have hfz53_2 := blk_frozen BK253.out 2; have hfz53_3 := blk_frozen BK253.out 3; have hfz53_4 := blk_frozen BK253.out 4; have hfz53_5 := blk_frozen BK253.out 5; have hfz53_6 := blk_frozen BK253.out 6; have hfz53_7 := blk_frozen BK253.out 7))
                 repeat (go_quiet (first | (go_at_call 60; (with_reducible refine (frame_May.calls t218 t219 _ _ t220 _ _ t223 t226 t227 _ _ t228 _ _ t231 true _ ?side1 ?side2 ?side3 ?side4 ?side5 ?side6 ?side7 ?side8 A37.out).mono ?_); (case side1 => repeat (first | exact (Kd.R_reads' HO_236002.out).2.2 | (with_reducible refine ccA ?_ _) | (with_reducible refine ccN ?_ _) | (with_reducible refine ccD ?_))); (case side2 => exact (Kd.R_reads' HO_236002.out).2.1); (case side3 => repeat (first | exact (Kd.R_reads' HO_236003.out).2.2 | (with_reducible refine ccA ?_ _) | (with_reducible refine ccN ?_ _) | (with_reducible refine ccD ?_))); (case side4 => exact (Kd.R_reads' HO_236003.out).2.1); (case side5 => repeat (first | exact (Kd.R_reads' HO_236006.out).2.2 | (with_reducible refine ccA ?_ _) | (with_reducible refine ccN ?_ _) | (with_reducible refine ccD ?_))); (case side6 => exact (Kd.R_reads' HO_236006.out).2.1); (case side7 => repeat (first | exact (Kd.R_reads' HO_236007.out).2.2 | (with_reducible refine ccA ?_ _) | (with_reducible refine ccN ?_ _) | (with_reducible refine ccD ?_))); (case side8 => exact (Kd.R_reads' HO_236007.out).2.1); rintro e w49 ⟨rfl, hb⟩; have n0_ := Aside0.mk (Kd.R_below (by (with_reducible repeat (first | apply rrA | apply rrN | apply rrD)); exact HO_236002.out) hb); have n1_ := Aside0.mk (Kd.R_below (by (with_reducible repeat (first | apply rrA | apply rrN | apply rrD)); exact HO_236003.out) hb); have n2_ := Aside0.mk (Kd.R_below (by (with_reducible repeat (first | apply rrA | apply rrN | apply rrD)); exact HO_236006.out) hb); have n3_ := Aside0.mk (Kd.R_below (by (with_reducible repeat (first | apply rrA | apply rrN | apply rrD)); exact HO_236007.out) hb); have n4_ := Aside0.mk (Kd.R_below (by (with_reducible repeat (first | apply rrA | apply rrN | apply rrD)); exact HO_254002.out) hb); have n5_ := Aside0.mk (Kd.R_below (by (with_reducible repeat (first | apply rrA | apply rrN | apply rrD)); exact HO_254003.out) hb); have n6_ := Aside0.mk (Kd.R_below (by (with_reducible repeat (first | apply rrA | apply rrN | apply rrD)); exact HO_254006.out) hb); have n7_ := Aside0.mk (Kd.R_below (by (with_reducible repeat (first | apply rrA | apply rrN | apply rrD)); exact HO_254007.out) hb); have n8_ := Aside0.mk (Kd.R_below (by (with_reducible repeat (first | apply rrA | apply rrN | apply rrD)); exact HO256.out) hb); have n9_ := Aside0.mk (blk_below (g := gb235) (o := .cells #[.int .i64 t218, .int .i64 t219, .slice Ao16 t220.length co16, .slice Ao17 t223.length co17, .int .i64 t226, .int .i64 t227, .slice Ao18 t228.length co18, .slice Ao19 t231.length co19] 30 (0, 0)) (by (with_reducible repeat (first | refine kkN ?_ _ | refine kkD ?_ | refine kkA ?_ _)); exact BK235.out) hb); have n10_ := Aside0.mk (blk_below (g := gb253) (o := .cells #[.int .i64 t236, .int .i64 t237, .slice Ao24 t238.length co24, .slice Ao25 t241.length co25, .int .i64 t244, .int .i64 t245, .slice Ao26 t246.length co26, .slice Ao27 t249.length co27] 30 (0, 0)) (by (with_reducible repeat (first | refine kkN ?_ _ | refine kkD ?_ | refine kkA ?_ _)); exact BK253.out) hb); have n11_ := Aside0.mk (zzT (by repeat (first | (with_reducible first | exact HB.out | apply zzA | apply zzN | apply zzD | refine below_set ?_ GE235.out | refine below_set ?_ GE253.out) | exact HB.out)) hb); clear HO_236002; clear HO_236003; clear HO_236006; clear HO_236007; clear HO_254002; clear HO_254003; clear HO_254006; clear HO_254007; clear HO256; clear BK235; clear BK253; clear HB; have HO_236002 := n0_; have HO_236003 := n1_; have HO_236006 := n2_; have HO_236007 := n3_; have HO_254002 := n4_; have HO_254003 := n5_; have HO_254006 := n6_; have HO_254007 := n7_; have HO256 := n8_; have BK235 := n9_; have BK253 := n10_; have HB := n11_; clear n0_ n1_ n2_ n3_ n4_ n5_ n6_ n7_ n8_ n9_ n10_ n11_; (try clear hb); (try clear hb2); (try clear hk); (try clear hi); have hcz50_0 : w49.cell? ⟨gb253, 0, none⟩ = some (.int .i64 t236) := (blk_cell BK253.out 0).trans rfl; have hcz50_1 : w49.cell? ⟨gb253, 1, none⟩ = some (.int .i64 t237) := (blk_cell BK253.out 1).trans rfl; have hcz50_2 : w49.cell? ⟨gb253, 2, none⟩ = some (.slice Ao24 t238.length co24) := (blk_cell BK253.out 2).trans rfl; have hcz50_3 : w49.cell? ⟨gb253, 3, none⟩ = some (.slice Ao25 t241.length co25) := (blk_cell BK253.out 3).trans rfl; have hcz50_4 : w49.cell? ⟨gb253, 4, none⟩ = some (.int .i64 t244) := (blk_cell BK253.out 4).trans rfl; have hcz50_5 : w49.cell? ⟨gb253, 5, none⟩ = some (.int .i64 t245) := (blk_cell BK253.out 5).trans rfl; have hcz50_6 : w49.cell? ⟨gb253, 6, none⟩ = some (.slice Ao26 t246.length co26) := (blk_cell BK253.out 6).trans rfl; have hcz50_7 : w49.cell? ⟨gb253, 7, none⟩ = some (.slice Ao27 t249.length co27) := (blk_cell BK253.out 7).trans rfl; have hfz50_0 := blk_frozen BK253.out 0; have hfz50_1 := blk_frozen BK253.out 1; have hfz50_2 := blk_frozen BK253.out 2; have hfz50_3 := blk_frozen BK253.out 3; have hfz50_4 := blk_frozen BK253.out 4; have hfz50_5 := blk_frozen BK253.out 5; have hfz50_6 := blk_frozen BK253.out 6; have hfz50_7 := blk_frozen BK253.out 7) | (go_at_call 60; (with_reducible refine (frame_May.calls t236 t237 _ _ t238 _ _ t241 t244 t245 _ _ t246 _ _ t249 true _ ?side1 ?side2 ?side3 ?side4 ?side5 ?side6 ?side7 ?side8 A39.out).mono ?_); (case side1 => repeat (first | exact (Kd.R_reads' HO_254002.out).2.2 | (with_reducible refine ccA ?_ _) | (with_reducible refine ccN ?_ _) | (with_reducible refine ccD ?_))); (case side2 => exact (Kd.R_reads' HO_254002.out).2.1); (case side3 => repeat (first | exact (Kd.R_reads' HO_254003.out).2.2 | (with_reducible refine ccA ?_ _) | (with_reducible refine ccN ?_ _) | (with_reducible refine ccD ?_))); (case side4 => exact (Kd.R_reads' HO_254003.out).2.1); (case side5 => repeat (first | exact (Kd.R_reads' HO_254006.out).2.2 | (with_reducible refine ccA ?_ _) | (with_reducible refine ccN ?_ _) | (with_reducible refine ccD ?_))); (case side6 => exact (Kd.R_reads' HO_254006.out).2.1); (case side7 => repeat (first | exact (Kd.R_reads' HO_254007.out).2.2 | (with_reducible refine ccA ?_ _) | (with_reducible refine ccN ?_ _) | (with_reducible refine ccD ?_))); (case side8 => exact (Kd.R_reads' HO_254007.out).2.1); rintro e w51 ⟨rfl, hb⟩; have n0_ := Aside0.mk (Kd.R_below (by (with_reducible repeat (first | apply rrA | apply rrN | apply rrD)); exact HO_236002.out) hb); have n1_ := Aside0.mk (Kd.R_below (by (with_reducible repeat (first | apply rrA | apply rrN | apply rrD)); exact HO_236003.out) hb); have n2_ := Aside0.mk (Kd.R_below (by (with_reducible repeat (first | apply rrA | apply rrN | apply rrD)); exact HO_236006.out) hb); have n3_ := Aside0.mk (Kd.R_below (by (with_reducible repeat (first | apply rrA | apply rrN | apply rrD)); exact HO_236007.out) hb); have n4_ := Aside0.mk (Kd.R_below (by (with_reducible repeat (first | apply rrA | apply rrN | apply rrD)); exact HO_254002.out) hb); have n5_ := Aside0.mk (Kd.R_below (by (with_reducible repeat (first | apply rrA | apply rrN | apply rrD)); exact HO_254003.out) hb); have n6_ := Aside0.mk (Kd.R_below (by (with_reducible repeat (first | apply rrA | apply rrN | apply rrD)); exact HO_254006.out) hb); have n7_ := Aside0.mk (Kd.R_below (by (with_reducible repeat (first | apply rrA | apply rrN | apply rrD)); exact HO_254007.out) hb); have n8_ := Aside0.mk (Kd.R_below (by (with_reducible repeat (first | apply rrA | apply rrN | apply rrD)); exact HO256.out) hb); have n9_ := Aside0.mk (blk_below (g := gb235) (o := .cells #[.int .i64 t218, .int .i64 t219, .slice Ao16 t220.length co16, .slice Ao17 t223.length co17, .int .i64 t226, .int .i64 t227, .slice Ao18 t228.length co18, .slice Ao19 t231.length co19] 30 (0, 0)) (by (with_reducible repeat (first | refine kkN ?_ _ | refine kkD ?_ | refine kkA ?_ _)); exact BK235.out) hb); have n10_ := Aside0.mk (blk_below (g := gb253) (o := .cells #[.int .i64 t236, .int .i64 t237, .slice Ao24 t238.length co24, .slice Ao25 t241.length co25, .int .i64 t244, .int .i64 t245, .slice Ao26 t246.length co26, .slice Ao27 t249.length co27] 30 (0, 0)) (by (with_reducible repeat (first | refine kkN ?_ _ | refine kkD ?_ | refine kkA ?_ _)); exact BK253.out) hb); have n11_ := Aside0.mk (zzT (by repeat (first | (with_reducible first | exact HB.out | apply zzA | apply zzN | apply zzD | refine below_set ?_ GE235.out | refine below_set ?_ GE253.out) | exact HB.out)) hb); clear HO_236002; clear HO_236003; clear HO_236006; clear HO_236007; clear HO_254002; clear HO_254003; clear HO_254006; clear HO_254007; clear HO256; clear BK235; clear BK253; clear HB; have HO_236002 := n0_; have HO_236003 := n1_; have HO_236006 := n2_; have HO_236007 := n3_; have HO_254002 := n4_; have HO_254003 := n5_; have HO_254006 := n6_; have HO_254007 := n7_; have HO256 := n8_; have BK235 := n9_; have BK253 := n10_; have HB := n11_; clear n0_ n1_ n2_ n3_ n4_ n5_ n6_ n7_ n8_ n9_ n10_ n11_; (try clear hb); (try clear hb2); (try clear hk); (try clear hi); have hcz52_0 : w51.cell? ⟨gb235, 0, none⟩ = some (.int .i64 t218) := (blk_cell BK235.out 0).trans rfl; have hcz52_1 : w51.cell? ⟨gb235, 1, none⟩ = some (.int .i64 t219) := (blk_cell BK235.out 1).trans rfl; have hcz52_2 : w51.cell? ⟨gb235, 2, none⟩ = some (.slice Ao16 t220.length co16) := (blk_cell BK235.out 2).trans rfl; have hcz52_3 : w51.cell? ⟨gb235, 3, none⟩ = some (.slice Ao17 t223.length co17) := (blk_cell BK235.out 3).trans rfl; have hcz52_4 : w51.cell? ⟨gb235, 4, none⟩ = some (.int .i64 t226) := (blk_cell BK235.out 4).trans rfl; have hcz52_5 : w51.cell? ⟨gb235, 5, none⟩ = some (.int .i64 t227) := (blk_cell BK235.out 5).trans rfl; have hcz52_6 : w51.cell? ⟨gb235, 6, none⟩ = some (.slice Ao18 t228.length co18) := (blk_cell BK235.out 6).trans rfl; have hcz52_7 : w51.cell? ⟨gb235, 7, none⟩ = some (.slice Ao19 t231.length co19) := (blk_cell BK235.out 7).trans rfl; have hfz52_0 := blk_frozen BK235.out 0; have hfz52_1 := blk_frozen BK235.out 1; have hfz52_2 := blk_frozen BK235.out 2; have hfz52_3 := blk_frozen BK235.out 3; have hfz52_4 := blk_frozen BK235.out 4; have hfz52_5 := blk_frozen BK235.out 5; have hfz52_6 := blk_frozen BK235.out 6; have hfz52_7 := blk_frozen BK235.out 7; have hcz53_0 : w51.cell? ⟨gb253, 0, none⟩ = some (.int .i64 t236) := (blk_cell BK253.out 0).trans rfl; have hcz53_1 : w51.cell? ⟨gb253, 1, none⟩ = some (.int .i64 t237) := (blk_cell BK253.out 1).trans rfl; have hcz53_2 : w51.cell? ⟨gb253, 2, none⟩ = some (.slice Ao24 t238.length co24) := (blk_cell BK253.out 2).trans rfl; have hcz53_3 : w51.cell? ⟨gb253, 3, none⟩ = some (.slice Ao25 t241.length co25) := (blk_cell BK253.out 3).trans rfl; have hcz53_4 : w51.cell? ⟨gb253, 4, none⟩ = some (.int .i64 t244) := (blk_cell BK253.out 4).trans rfl; have hcz53_5 : w51.cell? ⟨gb253, 5, none⟩ = some (.int .i64 t245) := (blk_cell BK253.out 5).trans rfl; have hcz53_6 : w51.cell? ⟨gb253, 6, none⟩ = some (.slice Ao26 t246.length co26) := (blk_cell BK253.out 6).trans rfl; have hcz53_7 : w51.cell? ⟨gb253, 7, none⟩ = some (.slice Ao27 t249.length co27) := (blk_cell BK253.out 7).trans rfl; have hfz53_0 := blk_frozen BK253.out 0; have hfz53_1 := blk_frozen BK253.out 1; have hfz53_2 := blk_frozen BK253.out 2; have hfz53_3 := blk_frozen BK253.out 3; have hfz53_4 := blk_frozen BK253.out 4; have hfz53_5 := blk_frozen BK253.out 5; have hfz53_6 := blk_frozen BK253.out 6; have hfz53_7 := blk_frozen BK253.out 7)); try go_wp2_with (first | (go_at_call 60; (with_reducible refine (frame_May.calls t218 t219 _ _ t220 _ _ t223 t226 t227 _ _ t228 _ _ t231 true _ ?side1 ?side2 ?side3 ?side4 ?side5 ?side6 ?side7 ?side8 A37.out).mono ?_); (case side1 => repeat (first | exact (Kd.R_reads' HO_236002.out).2.2 | (with_reducible refine ccA ?_ _) | (with_reducible refine ccN ?_ _) | (with_reducible refine ccD ?_))); (case side2 => exact (Kd.R_reads' HO_236002.out).2.1); (case side3 => repeat (first | exact (Kd.R_reads' HO_236003.out).2.2 | (with_reducible refine ccA ?_ _) | (with_reducible refine ccN ?_ _) | (with_reducible refine ccD ?_))); (case side4 => exact (Kd.R_reads' HO_236003.out).2.1); (case side5 => repeat (first | exact (Kd.R_reads' HO_236006.out).2.2 | (with_reducible refine ccA ?_ _) | (with_reducible refine ccN ?_ _) | (with_reducible refine ccD ?_))); (case side6 => exact (Kd.R_reads' HO_236006.out).2.1); (case side7 => repeat (first | exact (Kd.R_reads' HO_236007.out).2.2 | (with_reducible refine ccA ?_ _) | (with_reducible refine ccN ?_ _) | (with_reducible refine ccD ?_))); (case side8 => exact (Kd.R_reads' HO_236007.out).2.1); rintro e w49 ⟨rfl, hb⟩; have n0_ := Aside0.mk (Kd.R_below (by (with_reducible repeat (first | apply rrA | apply rrN | apply rrD)); exact HO_236002.out) hb); have n1_ := Aside0.mk (Kd.R_below (by (with_reducible repeat (first | apply rrA | apply rrN | apply rrD)); exact HO_236003.out) hb); have n2_ := Aside0.mk (Kd.R_below (by (with_reducible repeat (first | apply rrA | apply rrN | apply rrD)); exact HO_236006.out) hb); have n3_ := Aside0.mk (Kd.R_below (by (with_reducible repeat (first | apply rrA | apply rrN | apply rrD)); exact HO_236007.out) hb); have n4_ := Aside0.mk (Kd.R_below (by (with_reducible repeat (first | apply rrA | apply rrN | apply rrD)); exact HO_254002.out) hb); have n5_ := Aside0.mk (Kd.R_below (by (with_reducible repeat (first | apply rrA | apply rrN | apply rrD)); exact HO_254003.out) hb); have n6_ := Aside0.mk (Kd.R_below (by (with_reducible repeat (first | apply rrA | apply rrN | apply rrD)); exact HO_254006.out) hb); have n7_ := Aside0.mk (Kd.R_below (by (with_reducible repeat (first | apply rrA | apply rrN | apply rrD)); exact HO_254007.out) hb); have n8_ := Aside0.mk (Kd.R_below (by (with_reducible repeat (first | apply rrA | apply rrN | apply rrD)); exact HO256.out) hb); have n9_ := Aside0.mk (blk_below (g := gb235) (o := .cells #[.int .i64 t218, .int .i64 t219, .slice Ao16 t220.length co16, .slice Ao17 t223.length co17, .int .i64 t226, .int .i64 t227, .slice Ao18 t228.length co18, .slice Ao19 t231.length co19] 30 (0, 0)) (by (with_reducible repeat (first | refine kkN ?_ _ | refine kkD ?_ | refine kkA ?_ _)); exact BK235.out) hb); have n10_ := Aside0.mk (blk_below (g := gb253) (o := .cells #[.int .i64 t236, .int .i64 t237, .slice Ao24 t238.length co24, .slice Ao25 t241.length co25, .int .i64 t244, .int .i64 t245, .slice Ao26 t246.length co26, .slice Ao27 t249.length co27] 30 (0, 0)) (by (with_reducible repeat (first | refine kkN ?_ _ | refine kkD ?_ | refine kkA ?_ _)); exact BK253.out) hb); have n11_ := Aside0.mk (zzT (by repeat (first | (with_reducible first | exact HB.out | apply zzA | apply zzN | apply zzD | refine below_set ?_ GE235.out | refine below_set ?_ GE253.out) | exact HB.out)) hb); clear HO_236002; clear HO_236003; clear HO_236006; clear HO_236007; clear HO_254002; clear HO_254003; clear HO_254006; clear HO_254007; clear HO256; clear BK235; clear BK253; clear HB; have HO_236002 := n0_; have HO_236003 := n1_; have HO_236006 := n2_; have HO_236007 := n3_; have HO_254002 := n4_; have HO_254003 := n5_; have HO_254006 := n6_; have HO_254007 := n7_; have HO256 := n8_; have BK235 := n9_; have BK253 := n10_; have HB := n11_; clear n0_ n1_ n2_ n3_ n4_ n5_ n6_ n7_ n8_ n9_ n10_ n11_; (try clear hb); (try clear hb2); (try clear hk); (try clear hi); have hcz50_0 : w49.cell? ⟨gb253, 0, none⟩ = some (.int .i64 t236) := (blk_cell BK253.out 0).trans rfl; have hcz50_1 : w49.cell? ⟨gb253, 1, none⟩ = some (.int .i64 t237) := (blk_cell BK253.out 1).trans rfl; have hcz50_2 : w49.cell? ⟨gb253, 2, none⟩ = some (.slice Ao24 t238.length co24) := (blk_cell BK253.out 2).trans rfl; have hcz50_3 : w49.cell? ⟨gb253, 3, none⟩ = some (.slice Ao25 t241.length co25) := (blk_cell BK253.out 3).trans rfl; have hcz50_4 : w49.cell? ⟨gb253, 4, none⟩ = some (.int .i64 t244) := (blk_cell BK253.out 4).trans rfl; have hcz50_5 : w49.cell? ⟨gb253, 5, none⟩ = some (.int .i64 t245) := (blk_cell BK253.out 5).trans rfl; have hcz50_6 : w49.cell? ⟨gb253, 6, none⟩ = some (.slice Ao26 t246.length co26) := (blk_cell BK253.out 6).trans rfl; have hcz50_7 : w49.cell? ⟨gb253, 7, none⟩ = some (.slice Ao27 t249.length co27) := (blk_cell BK253.out 7).trans rfl; have hfz50_0 := blk_frozen BK253.out 0; have hfz50_1 := blk_frozen BK253.out 1; have hfz50_2 := blk_frozen BK253.out 2; have hfz50_3 := blk_frozen BK253.out 3; have hfz50_4 := blk_frozen BK253.out 4; have hfz50_5 := blk_frozen BK253.out 5; have hfz50_6 := blk_frozen BK253.out 6; have hfz50_7 := blk_frozen BK253.out 7) | (go_at_call 60; (with_reducible refine (frame_May.calls t236 t237 _ _ t238 _ _ t241 t244 t245 _ _ t246 _ _ t249 true _ ?side1 ?side2 ?side3 ?side4 ?side5 ?side6 ?side7 ?side8 A39.out).mono ?_); (case side1 => repeat (first | exact (Kd.R_reads' HO_254002.out).2.2 | (with_reducible refine ccA ?_ _) | (with_reducible refine ccN ?_ _) | (with_reducible refine ccD ?_))); (case side2 => exact (Kd.R_reads' HO_254002.out).2.1); (case side3 => repeat (first | exact (Kd.R_reads' HO_254003.out).2.2 | (with_reducible refine ccA ?_ _) | (with_reducible refine ccN ?_ _) | (with_reducible refine ccD ?_))); (case side4 => exact (Kd.R_reads' HO_254003.out).2.1); (case side5 => repeat (first | exact (Kd.R_reads' HO_254006.out).2.2 | (with_reducible refine ccA ?_ _) | (with_reducible refine ccN ?_ _) | (with_reducible refine ccD ?_))); (case side6 => exact (Kd.R_reads' HO_254006.out).2.1); (case side7 => repeat (first | exact (Kd.R_reads' HO_254007.out).2.2 | (with_reducible refine ccA ?_ _) | (with_reducible refine ccN ?_ _) | (with_reducible refine ccD ?_))); (case side8 => exact (Kd.R_reads' HO_254007.out).2.1); rintro e w51 ⟨rfl, hb⟩; have n0_ := Aside0.mk (Kd.R_below (by (with_reducible repeat (first | apply rrA | apply rrN | apply rrD)); exact HO_236002.out) hb); have n1_ := Aside0.mk (Kd.R_below (by (with_reducible repeat (first | apply rrA | apply rrN | apply rrD)); exact HO_236003.out) hb); have n2_ := Aside0.mk (Kd.R_below (by (with_reducible repeat (first | apply rrA | apply rrN | apply rrD)); exact HO_236006.out) hb); have n3_ := Aside0.mk (Kd.R_below (by (with_reducible repeat (first | apply rrA | apply rrN | apply rrD)); exact HO_236007.out) hb); have n4_ := Aside0.mk (Kd.R_below (by (with_reducible repeat (first | apply rrA | apply rrN | apply rrD)); exact HO_254002.out) hb); have n5_ := Aside0.mk (Kd.R_below (by (with_reducible repeat (first | apply rrA | apply rrN | apply rrD)); exact HO_254003.out) hb); have n6_ := Aside0.mk (Kd.R_below (by (with_reducible repeat (first | apply rrA | apply rrN | apply rrD)); exact HO_254006.out) hb); have n7_ := Aside0.mk (Kd.R_below (by (with_reducible repeat (first | apply rrA | apply rrN | apply rrD)); exact HO_254007.out) hb); have n8_ := Aside0.mk (Kd.R_below (by (with_reducible repeat (first | apply rrA | apply rrN | apply rrD)); exact HO256.out) hb); have n9_ := Aside0.mk (blk_below (g := gb235) (o := .cells #[.int .i64 t218, .int .i64 t219, .slice Ao16 t220.length co16, .slice Ao17 t223.length co17, .int .i64 t226, .int .i64 t227, .slice Ao18 t228.length co18, .slice Ao19 t231.length co19] 30 (0, 0)) (by (with_reducible repeat (first | refine kkN ?_ _ | refine kkD ?_ | refine kkA ?_ _)); exact BK235.out) hb); have n10_ := Aside0.mk (blk_below (g := gb253) (o := .cells #[.int .i64 t236, .int .i64 t237, .slice Ao24 t238.length co24, .slice Ao25 t241.length co25, .int .i64 t244, .int .i64 t245, .slice Ao26 t246.length co26, .slice Ao27 t249.length co27] 30 (0, 0)) (by (with_reducible repeat (first | refine kkN ?_ _ | refine kkD ?_ | refine kkA ?_ _)); exact BK253.out) hb); have n11_ := Aside0.mk (zzT (by repeat (first | (with_reducible first | exact HB.out | apply zzA | apply zzN | apply zzD | refine below_set ?_ GE235.out | refine below_set ?_ GE253.out) | exact HB.out)) hb); clear HO_236002; clear HO_236003; clear HO_236006; clear HO_236007; clear HO_254002; clear HO_254003; clear HO_254006; clear HO_254007; clear HO256; clear BK235; clear BK253; clear HB; have HO_236002 := n0_; have HO_236003 := n1_; have HO_236006 := n2_; have HO_236007 := n3_; have HO_254002 := n4_; have HO_254003 := n5_; have HO_254006 := n6_; have HO_254007 := n7_; have HO256 := n8_; have BK235 := n9_; have BK253 := n10_; have HB := n11_; clear n0_ n1_ n2_ n3_ n4_ n5_ n6_ n7_ n8_ n9_ n10_ n11_; (try clear hb); (try clear hb2); (try clear hk); (try clear hi); have hcz52_0 : w51.cell? ⟨gb235, 0, none⟩ = some (.int .i64 t218) := (blk_cell BK235.out 0).trans rfl; have hcz52_1 : w51.cell? ⟨gb235, 1, none⟩ = some (.int .i64 t219) := (blk_cell BK235.out 1).trans rfl; have hcz52_2 : w51.cell? ⟨gb235, 2, none⟩ = some (.slice Ao16 t220.length co16) := (blk_cell BK235.out 2).trans rfl; have hcz52_3 : w51.cell? ⟨gb235, 3, none⟩ = some (.slice Ao17 t223.length co17) := (blk_cell BK235.out 3).trans rfl; have hcz52_4 : w51.cell? ⟨gb235, 4, none⟩ = some (.int .i64 t226) := (blk_cell BK235.out 4).trans rfl; have hcz52_5 : w51.cell? ⟨gb235, 5, none⟩ = some (.int .i64 t227) := (blk_cell BK235.out 5).trans rfl; have hcz52_6 : w51.cell? ⟨gb235, 6, none⟩ = some (.slice Ao18 t228.length co18) := (blk_cell BK235.out 6).trans rfl; have hcz52_7 : w51.cell? ⟨gb235, 7, none⟩ = some (.slice Ao19 t231.length co19) := (blk_cell BK235.out 7).trans rfl; have hfz52_0 := blk_frozen BK235.out 0; have hfz52_1 := blk_frozen BK235.out 1; have hfz52_2 := blk_frozen BK235.out 2; have hfz52_3 := blk_frozen BK235.out 3; have hfz52_4 := blk_frozen BK235.out 4; have hfz52_5 := blk_frozen BK235.out 5; have hfz52_6 := blk_frozen BK235.out 6; have hfz52_7 := blk_frozen BK235.out 7; have hcz53_0 : w51.cell? ⟨gb253, 0, none⟩ = some (.int .i64 t236) := (blk_cell BK253.out 0).trans rfl; have hcz53_1 : w51.cell? ⟨gb253, 1, none⟩ = some (.int .i64 t237) := (blk_cell BK253.out 1).trans rfl; have hcz53_2 : w51.cell? ⟨gb253, 2, none⟩ = some (.slice Ao24 t238.length co24) := (blk_cell BK253.out 2).trans rfl; have hcz53_3 : w51.cell? ⟨gb253, 3, none⟩ = some (.slice Ao25 t241.length co25) := (blk_cell BK253.out 3).trans rfl; have hcz53_4 : w51.cell? ⟨gb253, 4, none⟩ = some (.int .i64 t244) := (blk_cell BK253.out 4).trans rfl; have hcz53_5 : w51.cell? ⟨gb253, 5, none⟩ = some (.int .i64 t245) := (blk_cell BK253.out 5).trans rfl; have hcz53_6 : w51.cell? ⟨gb253, 6, none⟩ = some (.slice Ao26 t246.length co26) := (blk_cell BK253.out 6).trans rfl; have hcz53_7 : w51.cell? ⟨gb253, 7, none⟩ = some (.slice Ao27 t249.length co27) := (blk_cell BK253.out 7).trans rfl; have hfz53_0 := blk_frozen BK253.out 0; have hfz53_1 := blk_frozen BK253.out 1; have hfz53_2 := blk_frozen BK253.out 2; have hfz53_3 := blk_frozen BK253.out 3; have hfz53_4 := blk_frozen BK253.out 4; have hfz53_5 := blk_frozen BK253.out 5; have hfz53_6 := blk_frozen BK253.out 6; have hfz53_7 := blk_frozen BK253.out 7)))
                 go_meet
                 case rel => exact ⟨_, (((t228.length : Int) != (l0.length : Int))), (by first | rfl | (simp; done) | (simp [*]; done)), H', ⟨by have := HJ10.out; first | omega | exact Nat.le_refl _⟩, ⟨by (with_reducible repeat (first | apply rrA | apply rrN | apply rrD)); exact Kd.R_mono HO256.out (fun _ hk => ⟨hk.1.2, hk.2⟩)⟩, ⟨by (with_reducible repeat (first | apply rrA | apply rrN | apply rrD)); exact HO_236002.out⟩, ⟨by (with_reducible repeat (first | apply rrA | apply rrN | apply rrD)); exact Kd.R_mono HO_236003.out (fun _ hk => ⟨hk.2, hk.1⟩)⟩, ⟨by (with_reducible repeat (first | apply rrA | apply rrN | apply rrD)); exact HO_236006.out⟩, ⟨by (with_reducible repeat (first | apply rrA | apply rrN | apply rrD)); exact HO_236007.out⟩, ⟨by (with_reducible repeat (first | apply rrA | apply rrN | apply rrD)); exact HO_254002.out⟩, ⟨by (with_reducible repeat (first | apply rrA | apply rrN | apply rrD)); exact Kd.R_mono HO_254003.out (fun _ hk => ⟨hk.2, hk.1⟩)⟩, ⟨by (with_reducible repeat (first | apply rrA | apply rrN | apply rrD)); exact HO_254006.out⟩, ⟨by (with_reducible repeat (first | apply rrA | apply rrN | apply rrD)); exact HO_254007.out⟩, ⟨by (with_reducible repeat (first | refine kkN ?_ _ | refine kkD ?_ | refine kkA ?_ _)); exact BK235.out⟩, ⟨by (with_reducible repeat (first | refine kkN ?_ _ | refine kkD ?_ | refine kkA ?_ _)); exact BK253.out⟩, ⟨by repeat (first | (with_reducible first | exact HB.out | apply zzA | apply zzN | apply zzD | refine below_set ?_ GE235.out | refine below_set ?_ GE253.out) | exact HB.out)⟩⟩
               ·
                rw [if_neg c45] at H
                exact (thrumlaw10_QuantSure.j1_not (H.trans (by rw [HR_.out]))).elim
              ·
               rw [if_neg c44] at H
               exact (thrumlaw10_QuantSure.j1_not (H.trans (by rw [HR_.out]))).elim
             ·
              rw [if_neg c43] at H
              exact (thrumlaw10_QuantSure.j1_not (H.trans (by rw [HR_.out]))).elim
            ·
             rw [if_neg c42] at H
             exact (thrumlaw10_QuantSure.j1_not (H.trans (by rw [HR_.out]))).elim
           ·
            rw [if_neg c41] at H
            exact (thrumlaw10_QuantSure.j1_not (H.trans (by rw [HR_.out]))).elim
          ·
           replace c40 := Bool.eq_false_iff.mpr c40
           subst c40
           have H1 : (thrumlaw10_QuantSure.j1 kj10 l0 a1 true t254 true t218 t219 t220 t223 t226 t227 t228 t231 t236 t237 t238 t241 t244 t245 t246 t249) = some r := by rw [if_neg (show ¬ (false = true) by decide)] at H; exact H
           exact (thrumlaw10_QuantSure.j1_not (H1.trans (by rw [HR_.out]))).elim
         ·
          replace c38 := Bool.eq_false_iff.mpr c38
          subst c38
          have H1 : (thrumlaw10_QuantSure.j1 kj10 l0 a1 true t254 true t218 t219 t220 t223 t226 t227 t228 t231 t236 t237 t238 t241 t244 t245 t246 t249) = some r := by rw [if_neg (show ¬ (false = true) by decide)] at H; exact H
          exact (thrumlaw10_QuantSure.j1_not (H1.trans (by rw [HR_.out]))).elim
        ·
         rw [if_neg c36] at H
         exact (thrumlaw10_QuantSure.j1_not (H.trans (by rw [HR_.out]))).elim
       ·
        rw [if_neg c35] at H
        exact (thrumlaw10_QuantSure.j1_not (H.trans (by rw [HR_.out]))).elim
      case rest =>
       clear HC31
       try clear c1
       try clear c2
       try clear p2
       try clear c3
       try clear c4
       try clear c5
       try clear c6
       try clear c7
       try clear c8
       try clear c9
       try clear c10
       try clear c12
       try clear c22
       try clear c28
       try clear c28b0
       try clear c28b1
       try clear c29
       try clear c32
       try clear c35
       try clear c35b0
       try clear c35b1
       try clear c36
       try clear c36b0
       try clear c36b1
       try clear c36b2
       try clear c38
       try clear c40
       try clear c41
       try clear c41b0
       try clear c41b1
       try clear c42
       try clear c42b0
       try clear c42b1
       try clear c43
       try clear c43b0
       try clear c43b1
       try clear c43b2
       try clear c44
       try clear c44b0
       try clear c44b1
       try clear c44b2
       try clear c45
       try clear c45b0
       try clear c45b1
       try clear c45b2
       try clear c47
       try clear c55
       try clear c63
       try clear c71
       try clear c79
       try clear c87
       try clear c94
       try clear c100
       try clear hcz101_0
       try clear hcz101_1
       try clear hcz101_2
       try clear hcz101_3
       try clear hcz101_4
       try clear hcz101_5
       try clear hcz101_6
       try clear hcz101_7
       try clear hcz15_0
       try clear hcz15_1
       try clear hcz15_2
       try clear hcz15_3
       try clear hcz15_4
       try clear hcz15_5
       try clear hcz15_6
       try clear hcz15_7
       try clear hcz23_0
       try clear hcz23_1
       try clear hcz23_2
       try clear hcz23_3
       try clear hcz23_4
       try clear hcz23_5
       try clear hcz23_6
       try clear hcz23_7
       try clear hcz33_0
       try clear hcz33_1
       try clear hcz33_2
       try clear hcz33_3
       try clear hcz33_4
       try clear hcz33_5
       try clear hcz33_6
       try clear hcz33_7
       try clear hcz48_0
       try clear hcz48_1
       try clear hcz48_2
       try clear hcz48_3
       try clear hcz48_4
       try clear hcz48_5
       try clear hcz48_6
       try clear hcz48_7
       try clear hcz50_0
       try clear hcz50_1
       try clear hcz50_2
       try clear hcz50_3
       try clear hcz50_4
       try clear hcz50_5
       try clear hcz50_6
       try clear hcz50_7
       try clear hcz52_0
       try clear hcz52_1
       try clear hcz52_2
       try clear hcz52_3
       try clear hcz52_4
       try clear hcz52_5
       try clear hcz52_6
       try clear hcz52_7
       try clear hcz53_0
       try clear hcz53_1
       try clear hcz53_2
       try clear hcz53_3
       try clear hcz53_4
       try clear hcz53_5
       try clear hcz53_6
       try clear hcz53_7
       try clear hcz56_0
       try clear hcz56_1
       try clear hcz56_2
       try clear hcz56_3
       try clear hcz56_4
       try clear hcz56_5
       try clear hcz56_6
       try clear hcz56_7
       try clear hcz58_0
       try clear hcz58_1
       try clear hcz58_2
       try clear hcz58_3
       try clear hcz58_4
       try clear hcz58_5
       try clear hcz58_6
       try clear hcz58_7
       try clear hcz60_0
       try clear hcz60_1
       try clear hcz60_2
       try clear hcz60_3
       try clear hcz60_4
       try clear hcz60_5
       try clear hcz60_6
       try clear hcz60_7
       try clear hcz61_0
       try clear hcz61_1
       try clear hcz61_2
       try clear hcz61_3
       try clear hcz61_4
       try clear hcz61_5
       try clear hcz61_6
       try clear hcz61_7
       try clear hcz64_0
       try clear hcz64_1
       try clear hcz64_2
       try clear hcz64_3
       try clear hcz64_4
       try clear hcz64_5
       try clear hcz64_6
       try clear hcz64_7
       try clear hcz66_0
       try clear hcz66_1
       try clear hcz66_2
       try clear hcz66_3
       try clear hcz66_4
       try clear hcz66_5
       try clear hcz66_6
       try clear hcz66_7
       try clear hcz68_0
       try clear hcz68_1
       try clear hcz68_2
       try clear hcz68_3
       try clear hcz68_4
       try clear hcz68_5
       try clear hcz68_6
       try clear hcz68_7
       try clear hcz69_0
       try clear hcz69_1
       try clear hcz69_2
       try clear hcz69_3
       try clear hcz69_4
       try clear hcz69_5
       try clear hcz69_6
       try clear hcz69_7
       try clear hcz72_0
       try clear hcz72_1
       try clear hcz72_2
       try clear hcz72_3
       try clear hcz72_4
       try clear hcz72_5
       try clear hcz72_6
       try clear hcz72_7
       try clear hcz74_0
       try clear hcz74_1
       try clear hcz74_2
       try clear hcz74_3
       try clear hcz74_4
       try clear hcz74_5
       try clear hcz74_6
       try clear hcz74_7
       try clear hcz76_0
       try clear hcz76_1
       try clear hcz76_2
       try clear hcz76_3
       try clear hcz76_4
       try clear hcz76_5
       try clear hcz76_6
       try clear hcz76_7
       try clear hcz77_0
       try clear hcz77_1
       try clear hcz77_2
       try clear hcz77_3
       try clear hcz77_4
       try clear hcz77_5
       try clear hcz77_6
       try clear hcz77_7
       try clear hcz80_0
       try clear hcz80_1
       try clear hcz80_2
       try clear hcz80_3
       try clear hcz80_4
       try clear hcz80_5
       try clear hcz80_6
       try clear hcz80_7
       try clear hcz82_0
       try clear hcz82_1
       try clear hcz82_2
       try clear hcz82_3
       try clear hcz82_4
       try clear hcz82_5
       try clear hcz82_6
       try clear hcz82_7
       try clear hcz84_0
       try clear hcz84_1
       try clear hcz84_2
       try clear hcz84_3
       try clear hcz84_4
       try clear hcz84_5
       try clear hcz84_6
       try clear hcz84_7
       try clear hcz85_0
       try clear hcz85_1
       try clear hcz85_2
       try clear hcz85_3
       try clear hcz85_4
       try clear hcz85_5
       try clear hcz85_6
       try clear hcz85_7
       try clear hcz88_0
       try clear hcz88_1
       try clear hcz88_2
       try clear hcz88_3
       try clear hcz88_4
       try clear hcz88_5
       try clear hcz88_6
       try clear hcz88_7
       try clear hcz90_0
       try clear hcz90_1
       try clear hcz90_2
       try clear hcz90_3
       try clear hcz90_4
       try clear hcz90_5
       try clear hcz90_6
       try clear hcz90_7
       try clear hcz92_0
       try clear hcz92_1
       try clear hcz92_2
       try clear hcz92_3
       try clear hcz92_4
       try clear hcz92_5
       try clear hcz92_6
       try clear hcz92_7
       try clear hcz95_0
       try clear hcz95_1
       try clear hcz95_2
       try clear hcz95_3
       try clear hcz95_4
       try clear hcz95_5
       try clear hcz95_6
       try clear hcz95_7
       try clear hcz97_0
       try clear hcz97_1
       try clear hcz97_2
       try clear hcz97_3
       try clear hcz97_4
       try clear hcz97_5
       try clear hcz97_6
       try clear hcz97_7
       try clear hfz101_0
       try clear hfz101_1
       try clear hfz101_2
       try clear hfz101_3
       try clear hfz101_4
       try clear hfz101_5
       try clear hfz101_6
       try clear hfz101_7
       try clear hfz15_0
       try clear hfz15_1
       try clear hfz15_2
       try clear hfz15_3
       try clear hfz15_4
       try clear hfz15_5
       try clear hfz15_6
       try clear hfz15_7
       try clear hfz23_0
       try clear hfz23_1
       try clear hfz23_2
       try clear hfz23_3
       try clear hfz23_4
       try clear hfz23_5
       try clear hfz23_6
       try clear hfz23_7
       try clear hfz33_0
       try clear hfz33_1
       try clear hfz33_2
       try clear hfz33_3
       try clear hfz33_4
       try clear hfz33_5
       try clear hfz33_6
       try clear hfz33_7
       try clear hfz48_0
       try clear hfz48_1
       try clear hfz48_2
       try clear hfz48_3
       try clear hfz48_4
       try clear hfz48_5
       try clear hfz48_6
       try clear hfz48_7
       try clear hfz50_0
       try clear hfz50_1
       try clear hfz50_2
       try clear hfz50_3
       try clear hfz50_4
       try clear hfz50_5
       try clear hfz50_6
       try clear hfz50_7
       try clear hfz52_0
       try clear hfz52_1
       try clear hfz52_2
       try clear hfz52_3
       try clear hfz52_4
       try clear hfz52_5
       try clear hfz52_6
       try clear hfz52_7
       try clear hfz53_0
       try clear hfz53_1
       try clear hfz53_2
       try clear hfz53_3
       try clear hfz53_4
       try clear hfz53_5
       try clear hfz53_6
       try clear hfz53_7
       try clear hfz56_0
       try clear hfz56_1
       try clear hfz56_2
       try clear hfz56_3
       try clear hfz56_4
       try clear hfz56_5
       try clear hfz56_6
       try clear hfz56_7
       try clear hfz58_0
       try clear hfz58_1
       try clear hfz58_2
       try clear hfz58_3
       try clear hfz58_4
       try clear hfz58_5
       try clear hfz58_6
       try clear hfz58_7
       try clear hfz60_0
       try clear hfz60_1
       try clear hfz60_2
       try clear hfz60_3
       try clear hfz60_4
       try clear hfz60_5
       try clear hfz60_6
       try clear hfz60_7
       try clear hfz61_0
       try clear hfz61_1
       try clear hfz61_2
       try clear hfz61_3
       try clear hfz61_4
       try clear hfz61_5
       try clear hfz61_6
       try clear hfz61_7
       try clear hfz64_0
       try clear hfz64_1
       try clear hfz64_2
       try clear hfz64_3
       try clear hfz64_4
       try clear hfz64_5
       try clear hfz64_6
       try clear hfz64_7
       try clear hfz66_0
       try clear hfz66_1
       try clear hfz66_2
       try clear hfz66_3
       try clear hfz66_4
       try clear hfz66_5
       try clear hfz66_6
       try clear hfz66_7
       try clear hfz68_0
       try clear hfz68_1
       try clear hfz68_2
       try clear hfz68_3
       try clear hfz68_4
       try clear hfz68_5
       try clear hfz68_6
       try clear hfz68_7
       try clear hfz69_0
       try clear hfz69_1
       try clear hfz69_2
       try clear hfz69_3
       try clear hfz69_4
       try clear hfz69_5
       try clear hfz69_6
       try clear hfz69_7
       try clear hfz72_0
       try clear hfz72_1
       try clear hfz72_2
       try clear hfz72_3
       try clear hfz72_4
       try clear hfz72_5
       try clear hfz72_6
       try clear hfz72_7
       try clear hfz74_0
       try clear hfz74_1
       try clear hfz74_2
       try clear hfz74_3
       try clear hfz74_4
       try clear hfz74_5
       try clear hfz74_6
       try clear hfz74_7
       try clear hfz76_0
       try clear hfz76_1
       try clear hfz76_2
       try clear hfz76_3
       try clear hfz76_4
       try clear hfz76_5
       try clear hfz76_6
       try clear hfz76_7
       try clear hfz77_0
       try clear hfz77_1
       try clear hfz77_2
       try clear hfz77_3
       try clear hfz77_4
       try clear hfz77_5
       try clear hfz77_6
       try clear hfz77_7
       try clear hfz80_0
       try clear hfz80_1
       try clear hfz80_2
       try clear hfz80_3
       try clear hfz80_4
       try clear hfz80_5
       try clear hfz80_6
       try clear hfz80_7
       try clear hfz82_0
       try clear hfz82_1
       try clear hfz82_2
       try clear hfz82_3
       try clear hfz82_4
       try clear hfz82_5
       try clear hfz82_6
       try clear hfz82_7
       try clear hfz84_0
       try clear hfz84_1
       try clear hfz84_2
       try clear hfz84_3
       try clear hfz84_4
       try clear hfz84_5
       try clear hfz84_6
       try clear hfz84_7
       try clear hfz85_0
       try clear hfz85_1
       try clear hfz85_2
       try clear hfz85_3
       try clear hfz85_4
       try clear hfz85_5
       try clear hfz85_6
       try clear hfz85_7
       try clear hfz88_0
       try clear hfz88_1
       try clear hfz88_2
       try clear hfz88_3
       try clear hfz88_4
       try clear hfz88_5
       try clear hfz88_6
       try clear hfz88_7
       try clear hfz90_0
       try clear hfz90_1
       try clear hfz90_2
       try clear hfz90_3
       try clear hfz90_4
       try clear hfz90_5
       try clear hfz90_6
       try clear hfz90_7
       try clear hfz92_0
       try clear hfz92_1
       try clear hfz92_2
       try clear hfz92_3
       try clear hfz92_4
       try clear hfz92_5
       try clear hfz92_6
       try clear hfz92_7
       try clear hfz95_0
       try clear hfz95_1
       try clear hfz95_2
       try clear hfz95_3
       try clear hfz95_4
       try clear hfz95_5
       try clear hfz95_6
       try clear hfz95_7
       try clear hfz97_0
       try clear hfz97_1
       try clear hfz97_2
       try clear hfz97_3
       try clear hfz97_4
       try clear hfz97_5
       try clear hfz97_6
       try clear hfz97_7
       try clear p2
       obtain ⟨kq, x124_30, rfl, HA, HJ30, HO_14, HO_236002, HO_236003, HO_236006, HO_236007, HO_254002, HO_254003, HO_254006, HO_254007, BK235, BK253, HB⟩ := hcut
       cases kq with
       | zero => exact absurd HA.out (by simp [thrumlaw10_QuantSure.j1])
       | succ kj30 =>
        have H := HA.out
        clear HA
        simp only [thrumlaw10_QuantSure.j1] at H
        by_cases c104 : x124_30 = true
        ·
         subst c104
         have H1 : (some false) = some r := by rw [if_pos rfl] at H; exact H
         exact absurd (Option.some.inj H1) (by rw [HR_.out]; decide)
        ·
         replace c104 := Bool.eq_false_iff.mpr c104
         subst c104
         have H1 : (thrumlaw10_QuantSure.l0 kj30 a1 true t254 l0 (l0.length : Int) 0 t218 t219 t220 t223 t226 t227 t228 t231 t236 t237 t238 t241 t244 t245 t246 t249) = some r := by rw [if_neg (show ¬ (false = true) by decide)] at H; exact H
         clear H
         have H := H1
         clear H1
         have H' := Aside0.mk H
         clear H
         go_wp2
         repeat (go_quiet (fail); try go_wp2)
         go_loopg [127] kj30 (fun kq v127 w' => ∃ (x127_3 : Int), v127 = .int .i64 x127_3 ∧ Aside0 (thrumlaw10_QuantSure.l0 kq a1 true t254 l0 (l0.length : Int) x127_3 t218 t219 t220 t223 t226 t227 t228 t231 t236 t237 t238 t241 t244 t245 t246 t249 = some r) ∧ Aside0 (kq ≤ kj30) ∧ Aside0 (Kd.R (Kd.int .i64) 2 w' w.heap.size (fun k_ => some k_ ≠ ((.slice Ao17 t223.length co17) : Value).ownBlock ∧ some k_ ≠ ((.slice Ao25 t241.length co25) : Value).ownBlock) v255 t254) ∧ Aside0 (Kd.R (Kd.int .i64) 3 w' w.heap.size (fun k_ => some k_ ≠ ((.slice Ao24 t238.length co24) : Value).ownBlock) (.slice Ao16 t220.length co16) t220) ∧ Aside0 (Kd.R (Kd.int .i64) 2 w' w.heap.size (fun k_ => some k_ ≠ (v255 : Value).ownBlock ∧ some k_ ≠ ((.slice Ao25 t241.length co25) : Value).ownBlock) (.slice Ao17 t223.length co17) t223) ∧ Aside0 (Kd.R (Kd.int .u64) 64 w' w.heap.size (fun k_ => some k_ ≠ ((.slice Ao26 t246.length co26) : Value).ownBlock) (.slice Ao18 t228.length co18) t228) ∧ Aside0 (Kd.R Kd.bool 4 w' w.heap.size (fun k_ => some k_ ≠ ((.slice Ao27 t249.length co27) : Value).ownBlock) (.slice Ao19 t231.length co19) t231) ∧ Aside0 (Kd.R (Kd.int .i64) 3 w' w.heap.size (fun k_ => some k_ ≠ ((.slice Ao16 t220.length co16) : Value).ownBlock) (.slice Ao24 t238.length co24) t238) ∧ Aside0 (Kd.R (Kd.int .i64) 2 w' w.heap.size (fun k_ => some k_ ≠ (v255 : Value).ownBlock ∧ some k_ ≠ ((.slice Ao17 t223.length co17) : Value).ownBlock) (.slice Ao25 t241.length co25) t241) ∧ Aside0 (Kd.R (Kd.int .u64) 64 w' w.heap.size (fun k_ => some k_ ≠ ((.slice Ao18 t228.length co18) : Value).ownBlock) (.slice Ao26 t246.length co26) t246) ∧ Aside0 (Kd.R Kd.bool 4 w' w.heap.size (fun k_ => some k_ ≠ ((.slice Ao19 t231.length co19) : Value).ownBlock) (.slice Ao27 t249.length co27) t249) ∧ Aside0 (w'.heap[gb235]? = some (.cells #[.int .i64 t218, .int .i64 t219, (.slice Ao16 t220.length co16), (.slice Ao17 t223.length co17), .int .i64 t226, .int .i64 t227, (.slice Ao18 t228.length co18), (.slice Ao19 t231.length co19)] 30 (0, 0))) ∧ Aside0 (w'.heap[gb253]? = some (.cells #[.int .i64 t236, .int .i64 t237, (.slice Ao24 t238.length co24), (.slice Ao25 t241.length co25), .int .i64 t244, .int .i64 t245, (.slice Ao26 t246.length co26), (.slice Ao27 t249.length co27)] 30 (0, 0))) ∧ Aside0 (Below w.heap.size w w'))
         case atStart => exact ⟨(0), (by first | rfl | (simp; done) | (simp [*]; done)), H', ⟨Nat.le_refl _⟩, ⟨by (with_reducible repeat (first | apply rrA | apply rrN | apply rrD)); exact HO_14.out⟩, ⟨by (with_reducible repeat (first | apply rrA | apply rrN | apply rrD)); exact HO_236002.out⟩, ⟨by (with_reducible repeat (first | apply rrA | apply rrN | apply rrD)); exact HO_236003.out⟩, ⟨by (with_reducible repeat (first | apply rrA | apply rrN | apply rrD)); exact HO_236006.out⟩, ⟨by (with_reducible repeat (first | apply rrA | apply rrN | apply rrD)); exact HO_236007.out⟩, ⟨by (with_reducible repeat (first | apply rrA | apply rrN | apply rrD)); exact HO_254002.out⟩, ⟨by (with_reducible repeat (first | apply rrA | apply rrN | apply rrD)); exact HO_254003.out⟩, ⟨by (with_reducible repeat (first | apply rrA | apply rrN | apply rrD)); exact HO_254006.out⟩, ⟨by (with_reducible repeat (first | apply rrA | apply rrN | apply rrD)); exact HO_254007.out⟩, ⟨by (with_reducible repeat (first | refine kkN ?_ _ | refine kkD ?_ | refine kkA ?_ _)); exact BK235.out⟩, ⟨by (with_reducible repeat (first | refine kkN ?_ _ | refine kkD ?_ | refine kkA ?_ _)); exact BK253.out⟩, ⟨by repeat (first | (with_reducible first | exact HB.out | apply zzA | apply zzN | apply zzD | refine below_set ?_ GE235.out | refine below_set ?_ GE253.out) | exact HB.out)⟩⟩
         case round =>
          clear H'
          try clear c1
          try clear c2
          try clear p2
          try clear c3
          try clear c4
          try clear c5
          try clear c6
          try clear c7
          try clear c8
          try clear c9
          try clear c10
          try clear c12
          try clear c22
          try clear c28
          try clear c28b0
          try clear c28b1
          try clear c29
          try clear c32
          try clear c35
          try clear c35b0
          try clear c35b1
          try clear c36
          try clear c36b0
          try clear c36b1
          try clear c36b2
          try clear c38
          try clear c40
          try clear c41
          try clear c41b0
          try clear c41b1
          try clear c42
          try clear c42b0
          try clear c42b1
          try clear c43
          try clear c43b0
          try clear c43b1
          try clear c43b2
          try clear c44
          try clear c44b0
          try clear c44b1
          try clear c44b2
          try clear c45
          try clear c45b0
          try clear c45b1
          try clear c45b2
          try clear c47
          try clear c55
          try clear c63
          try clear c71
          try clear c79
          try clear c87
          try clear c94
          try clear c100
          try clear c104
          try clear hcz101_0
          try clear hcz101_1
          try clear hcz101_2
          try clear hcz101_3
          try clear hcz101_4
          try clear hcz101_5
          try clear hcz101_6
          try clear hcz101_7
          try clear hcz15_0
          try clear hcz15_1
          try clear hcz15_2
          try clear hcz15_3
          try clear hcz15_4
          try clear hcz15_5
          try clear hcz15_6
          try clear hcz15_7
          try clear hcz23_0
          try clear hcz23_1
          try clear hcz23_2
          try clear hcz23_3
          try clear hcz23_4
          try clear hcz23_5
          try clear hcz23_6
          try clear hcz23_7
          try clear hcz33_0
          try clear hcz33_1
          try clear hcz33_2
          try clear hcz33_3
          try clear hcz33_4
          try clear hcz33_5
          try clear hcz33_6
          try clear hcz33_7
          try clear hcz48_0
          try clear hcz48_1
          try clear hcz48_2
          try clear hcz48_3
          try clear hcz48_4
          try clear hcz48_5
          try clear hcz48_6
          try clear hcz48_7
          try clear hcz50_0
          try clear hcz50_1
          try clear hcz50_2
          try clear hcz50_3
          try clear hcz50_4
          try clear hcz50_5
          try clear hcz50_6
          try clear hcz50_7
          try clear hcz52_0
          try clear hcz52_1
          try clear hcz52_2
          try clear hcz52_3
          try clear hcz52_4
          try clear hcz52_5
          try clear hcz52_6
          try clear hcz52_7
          try clear hcz53_0
          try clear hcz53_1
          try clear hcz53_2
          try clear hcz53_3
          try clear hcz53_4
          try clear hcz53_5
          try clear hcz53_6
          try clear hcz53_7
          try clear hcz56_0
          try clear hcz56_1
          try clear hcz56_2
          try clear hcz56_3
          try clear hcz56_4
          try clear hcz56_5
          try clear hcz56_6
          try clear hcz56_7
          try clear hcz58_0
          try clear hcz58_1
          try clear hcz58_2
          try clear hcz58_3
          try clear hcz58_4
          try clear hcz58_5
          try clear hcz58_6
          try clear hcz58_7
          try clear hcz60_0
          try clear hcz60_1
          try clear hcz60_2
          try clear hcz60_3
          try clear hcz60_4
          try clear hcz60_5
          try clear hcz60_6
          try clear hcz60_7
          try clear hcz61_0
          try clear hcz61_1
          try clear hcz61_2
          try clear hcz61_3
          try clear hcz61_4
          try clear hcz61_5
          try clear hcz61_6
          try clear hcz61_7
          try clear hcz64_0
          try clear hcz64_1
          try clear hcz64_2
          try clear hcz64_3
          try clear hcz64_4
          try clear hcz64_5
          try clear hcz64_6
          try clear hcz64_7
          try clear hcz66_0
          try clear hcz66_1
          try clear hcz66_2
          try clear hcz66_3
          try clear hcz66_4
          try clear hcz66_5
          try clear hcz66_6
          try clear hcz66_7
          try clear hcz68_0
          try clear hcz68_1
          try clear hcz68_2
          try clear hcz68_3
          try clear hcz68_4
          try clear hcz68_5
          try clear hcz68_6
          try clear hcz68_7
          try clear hcz69_0
          try clear hcz69_1
          try clear hcz69_2
          try clear hcz69_3
          try clear hcz69_4
          try clear hcz69_5
          try clear hcz69_6
          try clear hcz69_7
          try clear hcz72_0
          try clear hcz72_1
          try clear hcz72_2
          try clear hcz72_3
          try clear hcz72_4
          try clear hcz72_5
          try clear hcz72_6
          try clear hcz72_7
          try clear hcz74_0
          try clear hcz74_1
          try clear hcz74_2
          try clear hcz74_3
          try clear hcz74_4
          try clear hcz74_5
          try clear hcz74_6
          try clear hcz74_7
          try clear hcz76_0
          try clear hcz76_1
          try clear hcz76_2
          try clear hcz76_3
          try clear hcz76_4
          try clear hcz76_5
          try clear hcz76_6
          try clear hcz76_7
          try clear hcz77_0
          try clear hcz77_1
          try clear hcz77_2
          try clear hcz77_3
          try clear hcz77_4
          try clear hcz77_5
          try clear hcz77_6
          try clear hcz77_7
          try clear hcz80_0
          try clear hcz80_1
          try clear hcz80_2
          try clear hcz80_3
          try clear hcz80_4
          try clear hcz80_5
          try clear hcz80_6
          try clear hcz80_7
          try clear hcz82_0
          try clear hcz82_1
          try clear hcz82_2
          try clear hcz82_3
          try clear hcz82_4
          try clear hcz82_5
          try clear hcz82_6
          try clear hcz82_7
          try clear hcz84_0
          try clear hcz84_1
          try clear hcz84_2
          try clear hcz84_3
          try clear hcz84_4
          try clear hcz84_5
          try clear hcz84_6
          try clear hcz84_7
          try clear hcz85_0
          try clear hcz85_1
          try clear hcz85_2
          try clear hcz85_3
          try clear hcz85_4
          try clear hcz85_5
          try clear hcz85_6
          try clear hcz85_7
          try clear hcz88_0
          try clear hcz88_1
          try clear hcz88_2
          try clear hcz88_3
          try clear hcz88_4
          try clear hcz88_5
          try clear hcz88_6
          try clear hcz88_7
          try clear hcz90_0
          try clear hcz90_1
          try clear hcz90_2
          try clear hcz90_3
          try clear hcz90_4
          try clear hcz90_5
          try clear hcz90_6
          try clear hcz90_7
          try clear hcz92_0
          try clear hcz92_1
          try clear hcz92_2
          try clear hcz92_3
          try clear hcz92_4
          try clear hcz92_5
          try clear hcz92_6
          try clear hcz92_7
          try clear hcz95_0
          try clear hcz95_1
          try clear hcz95_2
          try clear hcz95_3
          try clear hcz95_4
          try clear hcz95_5
          try clear hcz95_6
          try clear hcz95_7
          try clear hcz97_0
          try clear hcz97_1
          try clear hcz97_2
          try clear hcz97_3
          try clear hcz97_4
          try clear hcz97_5
          try clear hcz97_6
          try clear hcz97_7
          try clear hfz101_0
          try clear hfz101_1
          try clear hfz101_2
          try clear hfz101_3
          try clear hfz101_4
          try clear hfz101_5
          try clear hfz101_6
          try clear hfz101_7
          try clear hfz15_0
          try clear hfz15_1
          try clear hfz15_2
          try clear hfz15_3
          try clear hfz15_4
          try clear hfz15_5
          try clear hfz15_6
          try clear hfz15_7
          try clear hfz23_0
          try clear hfz23_1
          try clear hfz23_2
          try clear hfz23_3
          try clear hfz23_4
          try clear hfz23_5
          try clear hfz23_6
          try clear hfz23_7
          try clear hfz33_0
          try clear hfz33_1
          try clear hfz33_2
          try clear hfz33_3
          try clear hfz33_4
          try clear hfz33_5
          try clear hfz33_6
          try clear hfz33_7
          try clear hfz48_0
          try clear hfz48_1
          try clear hfz48_2
          try clear hfz48_3
          try clear hfz48_4
          try clear hfz48_5
          try clear hfz48_6
          try clear hfz48_7
          try clear hfz50_0
          try clear hfz50_1
          try clear hfz50_2
          try clear hfz50_3
          try clear hfz50_4
          try clear hfz50_5
          try clear hfz50_6
          try clear hfz50_7
          try clear hfz52_0
          try clear hfz52_1
          try clear hfz52_2
          try clear hfz52_3
          try clear hfz52_4
          try clear hfz52_5
          try clear hfz52_6
          try clear hfz52_7
          try clear hfz53_0
          try clear hfz53_1
          try clear hfz53_2
          try clear hfz53_3
          try clear hfz53_4
          try clear hfz53_5
          try clear hfz53_6
          try clear hfz53_7
          try clear hfz56_0
          try clear hfz56_1
          try clear hfz56_2
          try clear hfz56_3
          try clear hfz56_4
          try clear hfz56_5
          try clear hfz56_6
          try clear hfz56_7
          try clear hfz58_0
          try clear hfz58_1
          try clear hfz58_2
          try clear hfz58_3
          try clear hfz58_4
          try clear hfz58_5
          try clear hfz58_6
          try clear hfz58_7
          try clear hfz60_0
          try clear hfz60_1
          try clear hfz60_2
          try clear hfz60_3
          try clear hfz60_4
          try clear hfz60_5
          try clear hfz60_6
          try clear hfz60_7
          try clear hfz61_0
          try clear hfz61_1
          try clear hfz61_2
          try clear hfz61_3
          try clear hfz61_4
          try clear hfz61_5
          try clear hfz61_6
          try clear hfz61_7
          try clear hfz64_0
          try clear hfz64_1
          try clear hfz64_2
          try clear hfz64_3
          try clear hfz64_4
          try clear hfz64_5
          try clear hfz64_6
          try clear hfz64_7
          try clear hfz66_0
          try clear hfz66_1
          try clear hfz66_2
          try clear hfz66_3
          try clear hfz66_4
          try clear hfz66_5
          try clear hfz66_6
          try clear hfz66_7
          try clear hfz68_0
          try clear hfz68_1
          try clear hfz68_2
          try clear hfz68_3
          try clear hfz68_4
          try clear hfz68_5
          try clear hfz68_6
          try clear hfz68_7
          try clear hfz69_0
          try clear hfz69_1
          try clear hfz69_2
          try clear hfz69_3
          try clear hfz69_4
          try clear hfz69_5
          try clear hfz69_6
          try clear hfz69_7
          try clear hfz72_0
          try clear hfz72_1
          try clear hfz72_2
          try clear hfz72_3
          try clear hfz72_4
          try clear hfz72_5
          try clear hfz72_6
          try clear hfz72_7
          try clear hfz74_0
          try clear hfz74_1
          try clear hfz74_2
          try clear hfz74_3
          try clear hfz74_4
          try clear hfz74_5
          try clear hfz74_6
          try clear hfz74_7
          try clear hfz76_0
          try clear hfz76_1
          try clear hfz76_2
          try clear hfz76_3
          try clear hfz76_4
          try clear hfz76_5
          try clear hfz76_6
          try clear hfz76_7
          try clear hfz77_0
          try clear hfz77_1
          try clear hfz77_2
          try clear hfz77_3
          try clear hfz77_4
          try clear hfz77_5
          try clear hfz77_6
          try clear hfz77_7
          try clear hfz80_0
          try clear hfz80_1
          try clear hfz80_2
          try clear hfz80_3
          try clear hfz80_4
          try clear hfz80_5
          try clear hfz80_6
          try clear hfz80_7
          try clear hfz82_0
          try clear hfz82_1
          try clear hfz82_2
          try clear hfz82_3
          try clear hfz82_4
          try clear hfz82_5
          try clear hfz82_6
          try clear hfz82_7
          try clear hfz84_0
          try clear hfz84_1
          try clear hfz84_2
          try clear hfz84_3
          try clear hfz84_4
          try clear hfz84_5
          try clear hfz84_6
          try clear hfz84_7
          try clear hfz85_0
          try clear hfz85_1
          try clear hfz85_2
          try clear hfz85_3
          try clear hfz85_4
          try clear hfz85_5
          try clear hfz85_6
          try clear hfz85_7
          try clear hfz88_0
          try clear hfz88_1
          try clear hfz88_2
          try clear hfz88_3
          try clear hfz88_4
          try clear hfz88_5
          try clear hfz88_6
          try clear hfz88_7
          try clear hfz90_0
          try clear hfz90_1
          try clear hfz90_2
          try clear hfz90_3
          try clear hfz90_4
          try clear hfz90_5
          try clear hfz90_6
          try clear hfz90_7
          try clear hfz92_0
          try clear hfz92_1
          try clear hfz92_2
          try clear hfz92_3
          try clear hfz92_4
          try clear hfz92_5
          try clear hfz92_6
          try clear hfz92_7
          try clear hfz95_0
          try clear hfz95_1
          try clear hfz95_2
          try clear hfz95_3
          try clear hfz95_4
          try clear hfz95_5
          try clear hfz95_6
          try clear hfz95_7
          try clear hfz97_0
          try clear hfz97_1
          try clear hfz97_2
          try clear hfz97_3
          try clear hfz97_4
          try clear hfz97_5
          try clear hfz97_6
          try clear hfz97_7
          try clear p2
          obtain ⟨x127_3, rfl, HA, HK3, HO_14, HO_236002, HO_236003, HO_236006, HO_236007, HO_254002, HO_254003, HO_254006, HO_254007, BK235, BK253, HB⟩ := hrel
          cases gk with
          | zero => exact absurd HA.out (by simp [thrumlaw10_QuantSure.l0])
          | succ k3 =>
           have H := HA.out
           clear HA
           simp only [thrumlaw10_QuantSure.l0] at H
           by_cases c105 : x127_3 < (l0.length : Int)
           ·
            rw [if_pos c105] at H
            have c105b0 : decide (x127_3 < (l0.length : Int)) = true := decide_eq_true c105
            clear c105
            by_cases c106 : 0 ≤ x127_3
            ·
             rw [if_pos c106] at H
             have c106b0 : decide (0 ≤ x127_3) = true := decide_eq_true c106
             clear c106
             by_cases c107 : x127_3 < (l0.length : Int)
             ·
              rw [if_pos c107] at H
              have c107b0 : decide (x127_3 < (l0.length : Int)) = true := decide_eq_true c107
              clear c107
              replace H := Option.bind_eq_some_iff.mp H
              obtain ⟨⟨t261, t262, t263⟩, A1080, H⟩ := H
              replace H : (if t263 = 0 then (if t262 = 0 then (if x127_3 < (t228.length : Int) then (if x127_3 < (t246.length : Int) then (if (rd t228 x127_3) = (rd t246 x127_3) then (if x127_3 < (t231.length : Int) then (if x127_3 < (t249.length : Int) then (thrumlaw10_QuantSure.j3 k3 a1 true t254 x127_3 (rd l0 x127_3) l0 (l0.length : Int) x127_3 ((rdOf false t231 x127_3) != (rdOf false t249 x127_3)) t218 t219 t220 t223 t226 t227 t228 t231 t236 t237 t238 t241 t244 t245 t246 t249) else (none)) else (none)) else (thrumlaw10_QuantSure.j3 k3 a1 true t254 x127_3 (rd l0 x127_3) l0 (l0.length : Int) x127_3 true t218 t219 t220 t223 t226 t227 t228 t231 t236 t237 t238 t241 t244 t245 t246 t249)) else (none)) else (none)) else (if x127_3 < (t231.length : Int) then (if x127_3 < (t249.length : Int) then (thrumlaw10_QuantSure.j3 k3 a1 true t254 x127_3 (rd l0 x127_3) l0 (l0.length : Int) x127_3 ((rdOf false t231 x127_3) != (rdOf false t249 x127_3)) t218 t219 t220 t223 t226 t227 t228 t231 t236 t237 t238 t241 t244 t245 t246 t249) else (none)) else (none))) else (thrumlaw10_QuantSure.j3 k3 a1 true t254 x127_3 (rd l0 x127_3) l0 (l0.length : Int) x127_3 true t218 t219 t220 t223 t226 t227 t228 t231 t236 t237 t238 t241 t244 t245 t246 t249)) = some r := H
              have A108 := Aside0.mk A1080
              clear A1080
              have HC109 := Aside0.mk H
              clear H
              have p260 : 0 ≤ (x127_3 : Int) := of_decide_eq_true (by first | (with_reducible assumption) | assumption)
              have q260 : x127_3 < (l0.length : Int) := of_decide_eq_true (by first | (with_reducible assumption) | assumption)
              obtain ⟨ad260, e260, hx260_0⟩ := Kd.at_int HR0.out x127_3 p260 q260
              cases e260
              replace hx260_0 := (HB.out.cell (World.block_lt_of_cell? w _ hx260_0)).trans hx260_0
              replace p260 := eq_true p260
              replace q260 := eq_true q260
              have hnb110 := NB235_253.out
              have hnc110 := NB253_235.out
              have hcz111_0 : wr.cell? ⟨gb235, 0, none⟩ = some (.int .i64 t218) := (blk_cell BK235.out 0).trans rfl
              have hcz111_1 : wr.cell? ⟨gb235, 1, none⟩ = some (.int .i64 t219) := (blk_cell BK235.out 1).trans rfl
              have hcz111_2 : wr.cell? ⟨gb235, 2, none⟩ = some (.slice Ao16 t220.length co16) := (blk_cell BK235.out 2).trans rfl
              have hcz111_3 : wr.cell? ⟨gb235, 3, none⟩ = some (.slice Ao17 t223.length co17) := (blk_cell BK235.out 3).trans rfl
              have hcz111_4 : wr.cell? ⟨gb235, 4, none⟩ = some (.int .i64 t226) := (blk_cell BK235.out 4).trans rfl
              have hcz111_5 : wr.cell? ⟨gb235, 5, none⟩ = some (.int .i64 t227) := (blk_cell BK235.out 5).trans rfl
              have hcz111_6 : wr.cell? ⟨gb235, 6, none⟩ = some (.slice Ao18 t228.length co18) := (blk_cell BK235.out 6).trans rfl
              have hcz111_7 : wr.cell? ⟨gb235, 7, none⟩ = some (.slice Ao19 t231.length co19) := (blk_cell BK235.out 7).trans rfl
              have hfz111_0 := blk_frozen BK235.out 0
              have hfz111_1 := blk_frozen BK235.out 1
              have hfz111_2 := blk_frozen BK235.out 2
              have hfz111_3 := blk_frozen BK235.out 3
              have hfz111_4 := blk_frozen BK235.out 4
              have hfz111_5 := blk_frozen BK235.out 5
              have hfz111_6 := blk_frozen BK235.out 6
              have hfz111_7 := blk_frozen BK235.out 7
              go_upto_region 17 with (first | (go_at_call 47; (with_reducible refine (quant_Level.calls (rd l0 x127_3) t226 a1 t261 t262 t263 _ A108.out).mono ?_); rintro e w' ⟨rfl, ⟨nd, rfl⟩⟩; (try first | exact ⟨rfl, _, wwN _ _ _⟩ | exact ⟨rfl, _, ww3 _ _ _ _⟩)))
              repeat (go_quiet (first | (go_at_call 47; (with_reducible refine (quant_Level.calls (rd l0 x127_3) t226 a1 t261 t262 t263 _ A108.out).mono ?_); rintro e w' ⟨rfl, ⟨nd, rfl⟩⟩; (try first | exact ⟨rfl, _, wwN _ _ _⟩ | exact ⟨rfl, _, ww3 _ _ _ _⟩))); go_upto_region 17 with (first | (go_at_call 47; (with_reducible refine (quant_Level.calls (rd l0 x127_3) t226 a1 t261 t262 t263 _ A108.out).mono ?_); rintro e w' ⟨rfl, ⟨nd, rfl⟩⟩; (try first | exact ⟨rfl, _, wwN _ _ _⟩ | exact ⟨rfl, _, ww3 _ _ _ _⟩))))
              (try simp only [Act.put, List.setIfInBounds_toArray, List.set_cons_zero, List.set_cons_succ])
              go_cut [172] (fun v172 wc => ∃ (kq : Nat) (x172_108 : Bool), v172 = .bool x172_108 ∧ Aside0 (thrumlaw10_QuantSure.j3 kq a1 true t254 x127_3 (rd l0 x127_3) l0 (l0.length : Int) x127_3 x172_108 t218 t219 t220 t223 t226 t227 t228 t231 t236 t237 t238 t241 t244 t245 t246 t249 = some r) ∧ Aside0 (kq ≤ k3) ∧ Aside0 (Kd.R (Kd.int .i64) 2 wc w.heap.size (fun k_ => some k_ ≠ ((.slice Ao17 t223.length co17) : Value).ownBlock ∧ some k_ ≠ ((.slice Ao25 t241.length co25) : Value).ownBlock) v255 t254) ∧ Aside0 (Kd.R (Kd.int .i64) 3 wc w.heap.size (fun k_ => some k_ ≠ ((.slice Ao24 t238.length co24) : Value).ownBlock) (.slice Ao16 t220.length co16) t220) ∧ Aside0 (Kd.R (Kd.int .i64) 2 wc w.heap.size (fun k_ => some k_ ≠ (v255 : Value).ownBlock ∧ some k_ ≠ ((.slice Ao25 t241.length co25) : Value).ownBlock) (.slice Ao17 t223.length co17) t223) ∧ Aside0 (Kd.R (Kd.int .u64) 64 wc w.heap.size (fun k_ => some k_ ≠ ((.slice Ao26 t246.length co26) : Value).ownBlock) (.slice Ao18 t228.length co18) t228) ∧ Aside0 (Kd.R Kd.bool 4 wc w.heap.size (fun k_ => some k_ ≠ ((.slice Ao27 t249.length co27) : Value).ownBlock) (.slice Ao19 t231.length co19) t231) ∧ Aside0 (Kd.R (Kd.int .i64) 3 wc w.heap.size (fun k_ => some k_ ≠ ((.slice Ao16 t220.length co16) : Value).ownBlock) (.slice Ao24 t238.length co24) t238) ∧ Aside0 (Kd.R (Kd.int .i64) 2 wc w.heap.size (fun k_ => some k_ ≠ (v255 : Value).ownBlock ∧ some k_ ≠ ((.slice Ao17 t223.length co17) : Value).ownBlock) (.slice Ao25 t241.length co25) t241) ∧ Aside0 (Kd.R (Kd.int .u64) 64 wc w.heap.size (fun k_ => some k_ ≠ ((.slice Ao18 t228.length co18) : Value).ownBlock) (.slice Ao26 t246.length co26) t246) ∧ Aside0 (Kd.R Kd.bool 4 wc w.heap.size (fun k_ => some k_ ≠ ((.slice Ao19 t231.length co19) : Value).ownBlock) (.slice Ao27 t249.length co27) t249) ∧ Aside0 (wc.heap[gb235]? = some (.cells #[.int .i64 t218, .int .i64 t219, (.slice Ao16 t220.length co16), (.slice Ao17 t223.length co17), .int .i64 t226, .int .i64 t227, (.slice Ao18 t228.length co18), (.slice Ao19 t231.length co19)] 30 (0, 0))) ∧ Aside0 (wc.heap[gb253]? = some (.cells #[.int .i64 t236, .int .i64 t237, (.slice Ao24 t238.length co24), (.slice Ao25 t241.length co25), .int .i64 t244, .int .i64 t245, (.slice Ao26 t246.length co26), (.slice Ao27 t249.length co27)] 30 (0, 0))) ∧ Aside0 (Below w.heap.size w wc))
              case first =>
               have H := HC109.out
               clear HC109
               by_cases c112 : t263 = 0
               ·
                rw [if_pos c112] at H
                have c112b0 : (t263 == 0) = true := beq_iff_eq.mpr c112
                have c112b1 : (t263 != 0) = false := bne_eq_false_iff_eq.mpr c112
                clear c112
                (first | rw [c112b0] | (simp only [i64_w, i32_w]; rw [c112b0]) | skip)
                by_cases c113 : t262 = 0
                ·
                 rw [if_pos c113] at H
                 have c113b0 : (t262 == 0) = true := beq_iff_eq.mpr c113
                 have c113b1 : (t262 != 0) = false := bne_eq_false_iff_eq.mpr c113
                 clear c113
                 by_cases c114 : x127_3 < (t228.length : Int)
                 ·
                  rw [if_pos c114] at H
                  have c114b0 : decide (x127_3 < (t228.length : Int)) = true := decide_eq_true c114
                  clear c114
                  by_cases c115 : x127_3 < (t246.length : Int)
                  ·
                   rw [if_pos c115] at H
                   have c115b0 : decide (x127_3 < (t246.length : Int)) = true := decide_eq_true c115
                   clear c115
                   by_cases c116 : (rd t228 x127_3) = (rd t246 x127_3)
                   ·
                    rw [if_pos c116] at H
                    have c116b0 : ((rd t228 x127_3) == (rd t246 x127_3)) = true := beq_iff_eq.mpr c116
                    have c116b1 : ((rd t228 x127_3) != (rd t246 x127_3)) = false := bne_eq_false_iff_eq.mpr c116
                    clear c116
                    by_cases c117 : x127_3 < (t231.length : Int)
                    ·
                     rw [if_pos c117] at H
                     have c117b0 : decide (x127_3 < (t231.length : Int)) = true := decide_eq_true c117
                     clear c117
                     by_cases c118 : x127_3 < (t249.length : Int)
                     ·
                      rw [if_pos c118] at H
                      have c118b0 : decide (x127_3 < (t249.length : Int)) = true := decide_eq_true c118
                      clear c118
                      focus
                       have H' := Aside0.mk H
                       clear H
                       have hnb119 := NB235_253.out
                       have hnc119 := NB253_235.out
                       have hcz120_0 : wr.cell? ⟨gb235, 0, none⟩ = some (.int .i64 t218) := (blk_cell BK235.out 0).trans rfl
                       have hcz120_1 : wr.cell? ⟨gb235, 1, none⟩ = some (.int .i64 t219) := (blk_cell BK235.out 1).trans rfl
                       have hcz120_2 : wr.cell? ⟨gb235, 2, none⟩ = some (.slice Ao16 t220.length co16) := (blk_cell BK235.out 2).trans rfl
                       have hcz120_3 : wr.cell? ⟨gb235, 3, none⟩ = some (.slice Ao17 t223.length co17) := (blk_cell BK235.out 3).trans rfl
                       have hcz120_4 : wr.cell? ⟨gb235, 4, none⟩ = some (.int .i64 t226) := (blk_cell BK235.out 4).trans rfl
                       have hcz120_5 : wr.cell? ⟨gb235, 5, none⟩ = some (.int .i64 t227) := (blk_cell BK235.out 5).trans rfl
                       have hcz120_6 : wr.cell? ⟨gb235, 6, none⟩ = some (.slice Ao18 t228.length co18) := (blk_cell BK235.out 6).trans rfl
                       have hcz120_7 : wr.cell? ⟨gb235, 7, none⟩ = some (.slice Ao19 t231.length co19) := (blk_cell BK235.out 7).trans rfl
                       have hfz120_0 := blk_frozen BK235.out 0
                       have hfz120_1 := blk_frozen BK235.out 1
                       have hfz120_2 := blk_frozen BK235.out 2
                       have hfz120_3 := blk_frozen BK235.out 3
                       have hfz120_4 := blk_frozen BK235.out 4
                       have hfz120_5 := blk_frozen BK235.out 5
                       have hfz120_6 := blk_frozen BK235.out 6
                       have hfz120_7 := blk_frozen BK235.out 7
                       have p264 : 0 ≤ (x127_3 : Int) := of_decide_eq_true (by first | (with_reducible assumption) | assumption)
                       have q264 : x127_3 < (t228.length : Int) := of_decide_eq_true (by first | (with_reducible assumption) | assumption)
                       obtain ⟨ad264, e264, hx264_0⟩ := Kd.at_int (Kd.R_reads' HO_236006.out).2.2 x127_3 p264 q264
                       cases e264
                       replace p264 := eq_true p264
                       replace q264 := eq_true q264
                       have hcz121_0 : wr.cell? ⟨gb253, 0, none⟩ = some (.int .i64 t236) := (blk_cell BK253.out 0).trans rfl
                       have hcz121_1 : wr.cell? ⟨gb253, 1, none⟩ = some (.int .i64 t237) := (blk_cell BK253.out 1).trans rfl
                       have hcz121_2 : wr.cell? ⟨gb253, 2, none⟩ = some (.slice Ao24 t238.length co24) := (blk_cell BK253.out 2).trans rfl
                       have hcz121_3 : wr.cell? ⟨gb253, 3, none⟩ = some (.slice Ao25 t241.length co25) := (blk_cell BK253.out 3).trans rfl
                       have hcz121_4 : wr.cell? ⟨gb253, 4, none⟩ = some (.int .i64 t244) := (blk_cell BK253.out 4).trans rfl
                       have hcz121_5 : wr.cell? ⟨gb253, 5, none⟩ = some (.int .i64 t245) := (blk_cell BK253.out 5).trans rfl
                       have hcz121_6 : wr.cell? ⟨gb253, 6, none⟩ = some (.slice Ao26 t246.length co26) := (blk_cell BK253.out 6).trans rfl
                       have hcz121_7 : wr.cell? ⟨gb253, 7, none⟩ = some (.slice Ao27 t249.length co27) := (blk_cell BK253.out 7).trans rfl
                       have hfz121_0 := blk_frozen BK253.out 0
                       have hfz121_1 := blk_frozen BK253.out 1
                       have hfz121_2 := blk_frozen BK253.out 2
                       have hfz121_3 := blk_frozen BK253.out 3
                       have hfz121_4 := blk_frozen BK253.out 4
                       have hfz121_5 := blk_frozen BK253.out 5
                       have hfz121_6 := blk_frozen BK253.out 6
                       have hfz121_7 := blk_frozen BK253.out 7
                       have p265 : 0 ≤ (x127_3 : Int) := of_decide_eq_true (by first | (with_reducible assumption) | assumption)
                       have q265 : x127_3 < (t246.length : Int) := of_decide_eq_true (by first | (with_reducible assumption) | assumption)
                       obtain ⟨ad265, e265, hx265_0⟩ := Kd.at_int (Kd.R_reads' HO_254006.out).2.2 x127_3 p265 q265
                       cases e265
                       replace p265 := eq_true p265
                       replace q265 := eq_true q265
                       have p266 : 0 ≤ (x127_3 : Int) := of_decide_eq_true (by first | (with_reducible assumption) | assumption)
                       have q266 : x127_3 < (t231.length : Int) := of_decide_eq_true (by first | (with_reducible assumption) | assumption)
                       obtain ⟨ad266, e266, hx266_0⟩ := Kd.at_bool (Kd.R_reads' HO_236007.out).2.2 x127_3 p266 q266
                       cases e266
                       replace p266 := eq_true p266
                       replace q266 := eq_true q266
                       have p267 : 0 ≤ (x127_3 : Int) := of_decide_eq_true (by first | (with_reducible assumption) | assumption)
                       have q267 : x127_3 < (t249.length : Int) := of_decide_eq_true (by first | (with_reducible assumption) | assumption)
                       obtain ⟨ad267, e267, hx267_0⟩ := Kd.at_bool (Kd.R_reads' HO_254007.out).2.2 x127_3 p267 q267
                       cases e267
                       replace p267 := eq_true p267
                       replace q267 := eq_true q267
                       go_wp2
                       repeat (go_quiet (fail); try go_wp2)
                       go_meet
                       case rel => exact ⟨_, (((rdOf false t231 x127_3) != (rdOf false t249 x127_3))), (by first | rfl | (simp; done) | (simp [*]; done)), H', ⟨by have := HJ10.out; have := HJ30.out; have := HK3.out; first | omega | exact Nat.le_refl _⟩, ⟨by (with_reducible repeat (first | apply rrA | apply rrN | apply rrD)); exact HO_14.out⟩, ⟨by (with_reducible repeat (first | apply rrA | apply rrN | apply rrD)); exact HO_236002.out⟩, ⟨by (with_reducible repeat (first | apply rrA | apply rrN | apply rrD)); exact HO_236003.out⟩, ⟨by (with_reducible repeat (first | apply rrA | apply rrN | apply rrD)); exact HO_236006.out⟩, ⟨by (with_reducible repeat (first | apply rrA | apply rrN | apply rrD)); exact HO_236007.out⟩, ⟨by (with_reducible repeat (first | apply rrA | apply rrN | apply rrD)); exact HO_254002.out⟩, ⟨by (with_reducible repeat (first | apply rrA | apply rrN | apply rrD)); exact HO_254003.out⟩, ⟨by (with_reducible repeat (first | apply rrA | apply rrN | apply rrD)); exact HO_254006.out⟩, ⟨by (with_reducible repeat (first | apply rrA | apply rrN | apply rrD)); exact HO_254007.out⟩, ⟨by (with_reducible repeat (first | refine kkN ?_ _ | refine kkD ?_ | refine kkA ?_ _)); exact BK235.out⟩, ⟨by (with_reducible repeat (first | refine kkN ?_ _ | refine kkD ?_ | refine kkA ?_ _)); exact BK253.out⟩, ⟨by repeat (first | (with_reducible first | exact HB.out | apply zzA | apply zzN | apply zzD | refine below_set ?_ GE235.out | refine below_set ?_ GE253.out) | exact HB.out)⟩⟩
                     ·
                      rw [if_neg c118] at H
                      exact absurd H (by simp)
                    ·
                     rw [if_neg c117] at H
                     exact absurd H (by simp)
                   ·
                    rw [if_neg c116] at H
                    exact (thrumlaw10_QuantSure.j3_not (H.trans (by rw [HR_.out]))).elim
                  ·
                   rw [if_neg c115] at H
                   exact absurd H (by simp)
                 ·
                  rw [if_neg c114] at H
                  exact absurd H (by simp)
                ·
                 rw [if_neg c113] at H
                 have c113b0 : (t262 == 0) = false := beq_eq_false_iff_ne.mpr c113
                 have c113b1 : (t262 != 0) = true := bne_iff_ne.mpr c113
                 by_cases c125 : x127_3 < (t231.length : Int)
                 ·
                  rw [if_pos c125] at H
                  have c125b0 : decide (x127_3 < (t231.length : Int)) = true := decide_eq_true c125
                  clear c125
                  by_cases c126 : x127_3 < (t249.length : Int)
                  ·
                   rw [if_pos c126] at H
                   have c126b0 : decide (x127_3 < (t249.length : Int)) = true := decide_eq_true c126
                   clear c126
                   focus
                    have H' := Aside0.mk H
                    clear H
                    have hnb127 := NB235_253.out
                    have hnc127 := NB253_235.out
                    have hcz128_0 : wr.cell? ⟨gb235, 0, none⟩ = some (.int .i64 t218) := (blk_cell BK235.out 0).trans rfl
                    have hcz128_1 : wr.cell? ⟨gb235, 1, none⟩ = some (.int .i64 t219) := (blk_cell BK235.out 1).trans rfl
                    have hcz128_2 : wr.cell? ⟨gb235, 2, none⟩ = some (.slice Ao16 t220.length co16) := (blk_cell BK235.out 2).trans rfl
                    have hcz128_3 : wr.cell? ⟨gb235, 3, none⟩ = some (.slice Ao17 t223.length co17) := (blk_cell BK235.out 3).trans rfl
                    have hcz128_4 : wr.cell? ⟨gb235, 4, none⟩ = some (.int .i64 t226) := (blk_cell BK235.out 4).trans rfl
                    have hcz128_5 : wr.cell? ⟨gb235, 5, none⟩ = some (.int .i64 t227) := (blk_cell BK235.out 5).trans rfl
                    have hcz128_6 : wr.cell? ⟨gb235, 6, none⟩ = some (.slice Ao18 t228.length co18) := (blk_cell BK235.out 6).trans rfl
                    have hcz128_7 : wr.cell? ⟨gb235, 7, none⟩ = some (.slice Ao19 t231.length co19) := (blk_cell BK235.out 7).trans rfl
                    have hfz128_0 := blk_frozen BK235.out 0
                    have hfz128_1 := blk_frozen BK235.out 1
                    have hfz128_2 := blk_frozen BK235.out 2
                    have hfz128_3 := blk_frozen BK235.out 3
                    have hfz128_4 := blk_frozen BK235.out 4
                    have hfz128_5 := blk_frozen BK235.out 5
                    have hfz128_6 := blk_frozen BK235.out 6
                    have hfz128_7 := blk_frozen BK235.out 7
                    have p268 : 0 ≤ (x127_3 : Int) := of_decide_eq_true (by first | (with_reducible assumption) | assumption)
                    have q268 : x127_3 < (t231.length : Int) := of_decide_eq_true (by first | (with_reducible assumption) | assumption)
                    obtain ⟨ad268, e268, hx268_0⟩ := Kd.at_bool (Kd.R_reads' HO_236007.out).2.2 x127_3 p268 q268
                    cases e268
                    replace p268 := eq_true p268
                    replace q268 := eq_true q268
                    have hcz129_0 : wr.cell? ⟨gb253, 0, none⟩ = some (.int .i64 t236) := (blk_cell BK253.out 0).trans rfl
                    have hcz129_1 : wr.cell? ⟨gb253, 1, none⟩ = some (.int .i64 t237) := (blk_cell BK253.out 1).trans rfl
                    have hcz129_2 : wr.cell? ⟨gb253, 2, none⟩ = some (.slice Ao24 t238.length co24) := (blk_cell BK253.out 2).trans rfl
                    have hcz129_3 : wr.cell? ⟨gb253, 3, none⟩ = some (.slice Ao25 t241.length co25) := (blk_cell BK253.out 3).trans rfl
                    have hcz129_4 : wr.cell? ⟨gb253, 4, none⟩ = some (.int .i64 t244) := (blk_cell BK253.out 4).trans rfl
                    have hcz129_5 : wr.cell? ⟨gb253, 5, none⟩ = some (.int .i64 t245) := (blk_cell BK253.out 5).trans rfl
                    have hcz129_6 : wr.cell? ⟨gb253, 6, none⟩ = some (.slice Ao26 t246.length co26) := (blk_cell BK253.out 6).trans rfl
                    have hcz129_7 : wr.cell? ⟨gb253, 7, none⟩ = some (.slice Ao27 t249.length co27) := (blk_cell BK253.out 7).trans rfl
                    have hfz129_0 := blk_frozen BK253.out 0
                    have hfz129_1 := blk_frozen BK253.out 1
                    have hfz129_2 := blk_frozen BK253.out 2
                    have hfz129_3 := blk_frozen BK253.out 3
                    have hfz129_4 := blk_frozen BK253.out 4
                    have hfz129_5 := blk_frozen BK253.out 5
                    have hfz129_6 := blk_frozen BK253.out 6
                    have hfz129_7 := blk_frozen BK253.out 7
                    have p269 : 0 ≤ (x127_3 : Int) := of_decide_eq_true (by first | (with_reducible assumption) | assumption)
                    have q269 : x127_3 < (t249.length : Int) := of_decide_eq_true (by first | (with_reducible assumption) | assumption)
                    obtain ⟨ad269, e269, hx269_0⟩ := Kd.at_bool (Kd.R_reads' HO_254007.out).2.2 x127_3 p269 q269
                    cases e269
                    replace p269 := eq_true p269
                    replace q269 := eq_true q269
                    go_wp2
                    repeat (go_quiet (fail); try go_wp2)
                    go_meet
                    case rel => exact ⟨_, (((rdOf false t231 x127_3) != (rdOf false t249 x127_3))), (by first | rfl | (simp; done) | (simp [*]; done)), H', ⟨by have := HJ10.out; have := HJ30.out; have := HK3.out; first | omega | exact Nat.le_refl _⟩, ⟨by (with_reducible repeat (first | apply rrA | apply rrN | apply rrD)); exact HO_14.out⟩, ⟨by (with_reducible repeat (first | apply rrA | apply rrN | apply rrD)); exact HO_236002.out⟩, ⟨by (with_reducible repeat (first | apply rrA | apply rrN | apply rrD)); exact HO_236003.out⟩, ⟨by (with_reducible repeat (first | apply rrA | apply rrN | apply rrD)); exact HO_236006.out⟩, ⟨by (with_reducible repeat (first | apply rrA | apply rrN | apply rrD)); exact HO_236007.out⟩, ⟨by (with_reducible repeat (first | apply rrA | apply rrN | apply rrD)); exact HO_254002.out⟩, ⟨by (with_reducible repeat (first | apply rrA | apply rrN | apply rrD)); exact HO_254003.out⟩, ⟨by (with_reducible repeat (first | apply rrA | apply rrN | apply rrD)); exact HO_254006.out⟩, ⟨by (with_reducible repeat (first | apply rrA | apply rrN | apply rrD)); exact HO_254007.out⟩, ⟨by (with_reducible repeat (first | refine kkN ?_ _ | refine kkD ?_ | refine kkA ?_ _)); exact BK235.out⟩, ⟨by (with_reducible repeat (first | refine kkN ?_ _ | refine kkD ?_ | refine kkA ?_ _)); exact BK253.out⟩, ⟨by repeat (first | (with_reducible first | exact HB.out | apply zzA | apply zzN | apply zzD | refine below_set ?_ GE235.out | refine below_set ?_ GE253.out) | exact HB.out)⟩⟩
                  ·
                   rw [if_neg c126] at H
                   exact absurd H (by simp)
                 ·
                  rw [if_neg c125] at H
                  exact absurd H (by simp)
               ·
                rw [if_neg c112] at H
                exact (thrumlaw10_QuantSure.j3_not (H.trans (by rw [HR_.out]))).elim
              case rest =>
               clear HC109
               try clear c1
               try clear p2
               try clear q2
               try clear hx2
               try clear c10
               try clear c11
               try clear c12
               try clear p26
               try clear q26
               try clear hx26
               try clear c105
               try clear c105b0
               try clear c106
               try clear c106b0
               try clear c107
               try clear c107b0
               try clear c110
               try clear c112
               try clear c112b0
               try clear c112b1
               try clear c113
               try clear c113b0
               try clear c113b1
               try clear c114
               try clear c114b0
               try clear c115
               try clear c115b0
               try clear c116
               try clear c116b0
               try clear c116b1
               try clear c117
               try clear c117b0
               try clear c118
               try clear c118b0
               try clear c119
               try clear c122
               try clear c125
               try clear c125b0
               try clear c126
               try clear c126b0
               try clear c127
               try clear hcz111_0
               try clear hcz111_1
               try clear hcz111_2
               try clear hcz111_3
               try clear hcz111_4
               try clear hcz111_5
               try clear hcz111_6
               try clear hcz111_7
               try clear hcz120_0
               try clear hcz120_1
               try clear hcz120_2
               try clear hcz120_3
               try clear hcz120_4
               try clear hcz120_5
               try clear hcz120_6
               try clear hcz120_7
               try clear hcz121_0
               try clear hcz121_1
               try clear hcz121_2
               try clear hcz121_3
               try clear hcz121_4
               try clear hcz121_5
               try clear hcz121_6
               try clear hcz121_7
               try clear hcz123_0
               try clear hcz123_1
               try clear hcz123_2
               try clear hcz123_3
               try clear hcz123_4
               try clear hcz123_5
               try clear hcz123_6
               try clear hcz123_7
               try clear hcz124_0
               try clear hcz124_1
               try clear hcz124_2
               try clear hcz124_3
               try clear hcz124_4
               try clear hcz124_5
               try clear hcz124_6
               try clear hcz124_7
               try clear hcz128_0
               try clear hcz128_1
               try clear hcz128_2
               try clear hcz128_3
               try clear hcz128_4
               try clear hcz128_5
               try clear hcz128_6
               try clear hcz128_7
               try clear hcz129_0
               try clear hcz129_1
               try clear hcz129_2
               try clear hcz129_3
               try clear hcz129_4
               try clear hcz129_5
               try clear hcz129_6
               try clear hcz129_7
               try clear hcz80_5
               try clear hcz80_6
               try clear hcz80_7
               try clear hcz82_0
               try clear hcz82_1
               try clear hcz82_2
               try clear hcz82_3
               try clear hcz82_4
               try clear hcz82_5
               try clear hcz82_6
               try clear hcz82_7
               try clear hcz84_0
               try clear hcz84_1
               try clear hcz84_2
               try clear hcz84_3
               try clear hcz84_4
               try clear hcz84_5
               try clear hcz84_6
               try clear hcz84_7
               try clear hcz85_0
               try clear hcz85_1
               try clear hcz85_2
               try clear hcz85_3
               try clear hcz85_4
               try clear hcz85_5
               try clear hcz85_6
               try clear hcz85_7
               try clear hcz88_0
               try clear hcz88_1
               try clear hcz88_2
               try clear hcz88_3
               try clear hcz88_4
               try clear hcz88_5
               try clear hcz88_6
               try clear hcz88_7
               try clear hcz90_0
               try clear hcz90_1
               try clear hcz90_2
               try clear hcz90_3
               try clear hcz90_4
               try clear hcz90_5
               try clear hcz90_6
               try clear hcz90_7
               try clear hcz92_0
               try clear hcz92_1
               try clear hcz92_2
               try clear hcz92_3
               try clear hcz92_4
               try clear hcz92_5
               try clear hcz92_6
               try clear hcz92_7
               try clear hcz95_0
               try clear hcz95_1
               try clear hcz95_2
               try clear hcz95_3
               try clear hcz95_4
               try clear hcz95_5
               try clear hcz95_6
               try clear hcz95_7
               try clear hcz97_0
               try clear hcz97_1
               try clear hcz97_2
               try clear hcz97_3
               try clear hcz97_4
               try clear hcz97_5
               try clear hcz97_6
               try clear hcz97_7
               try clear hfz101_0
               try clear hfz101_1
               try clear hfz101_2
               try clear hfz101_3
               try clear hfz101_4
               try clear hfz101_5
               try clear hfz101_6
               try clear hfz101_7
               try clear hfz111_0
               try clear hfz111_1
               try clear hfz111_2
               try clear hfz111_3
               try clear hfz111_4
               try clear hfz111_5
               try clear hfz111_6
               try clear hfz111_7
               try clear hfz120_0
               try clear hfz120_1
               try clear hfz120_2
               try clear hfz120_3
               try clear hfz120_4
               try clear hfz120_5
               try clear hfz120_6
               try clear hfz120_7
               try clear hfz121_0
               try clear hfz121_1
               try clear hfz121_2
               try clear hfz121_3
               try clear hfz121_4
               try clear hfz121_5
               try clear hfz121_6
               try clear hfz121_7
               try clear hfz123_0
               try clear hfz123_1
               try clear hfz123_2
               try clear hfz123_3
               try clear hfz123_4
               try clear hfz123_5
               try clear hfz123_6
               try clear hfz123_7
               try clear hfz124_0
               try clear hfz124_1
               try clear hfz124_2
               try clear hfz124_3
               try clear hfz124_4
               try clear hfz124_5
               try clear hfz124_6
               try clear hfz124_7
               try clear hfz128_0
               try clear hfz128_1
               try clear hfz128_2
               try clear hfz128_3
               try clear hfz128_4
               try clear hfz128_5
               try clear hfz128_6
               try clear hfz128_7
               try clear hfz129_0
               try clear hfz129_1
               try clear hfz129_2
               try clear hfz129_3
               try clear hfz129_4
               try clear hfz129_5
               try clear hfz129_6
               try clear hfz129_7
               try clear hfz15_0
               try clear hfz15_1
               try clear hfz15_2
               try clear hfz15_3
               try clear hfz15_4
               try clear hfz15_5
               try clear hfz15_6
               try clear hfz15_7
               try clear hfz23_0
               try clear hfz23_1
               try clear hfz23_2
               try clear hfz23_3
               try clear hfz23_4
               try clear hfz23_5
               try clear hfz23_6
               try clear hfz23_7
               try clear hfz33_0
               try clear hfz33_1
               try clear hfz33_2
               try clear hfz33_3
               try clear hfz33_4
               try clear hfz33_5
               try clear hfz33_6
               try clear hfz33_7
               try clear hfz48_0
               try clear hfz48_1
               try clear hfz48_2
               try clear hfz48_3
               try clear hfz48_4
               try clear hfz48_5
               try clear hfz48_6
               try clear hfz48_7
               try clear hfz50_0
               try clear hfz50_1
               try clear hfz50_2
               try clear hfz50_3
               try clear hfz50_4
               try clear hfz50_5
               try clear hfz50_6
               try clear hfz50_7
               try clear hfz52_0
               try clear hfz52_1
               try clear hfz52_2
               try clear hfz52_3
               try clear hfz52_4
               try clear hfz52_5
               try clear hfz52_6
               try clear hfz52_7
               try clear hfz53_0
               try clear hfz53_1
               try clear hfz53_2
               try clear hfz53_3
               try clear hfz53_4
               try clear hfz53_5
               try clear hfz53_6
               try clear hfz53_7
               try clear hfz56_0
               try clear hfz56_1
               try clear hfz56_2
               try clear hfz56_3
               try clear hfz56_4
               try clear hfz56_5
               try clear hfz56_6
               try clear hfz56_7
               try clear hfz58_0
               try clear hfz58_1
               try clear hfz58_2
               try clear hfz58_3
               try clear hfz58_4
               try clear hfz58_5
               try clear hfz58_6
               try clear hfz58_7
               try clear hfz60_0
               try clear hfz60_1
               try clear hfz60_2
               try clear hfz60_3
               try clear hfz60_4
               try clear hfz60_5
               try clear hfz60_6
               try clear hfz60_7
               try clear hfz61_0
               try clear hfz61_1
               try clear hfz61_2
               try clear hfz61_3
               try clear hfz61_4
               try clear hfz61_5
               try clear hfz61_6
               try clear hfz61_7
               try clear hfz64_0
               try clear hfz64_1
               try clear hfz64_2
               try clear hfz64_3
               try clear hfz64_4
               try clear hfz64_5
               try clear hfz64_6
               try clear hfz64_7
               try clear hfz66_0
               try clear hfz66_1
               try clear hfz66_2
               try clear hfz66_3
               try clear hfz66_4
               try clear hfz66_5
               try clear hfz66_6
               try clear hfz66_7
               try clear hfz68_0
               try clear hfz68_1
               try clear hfz68_2
               try clear hfz68_3
               try clear hfz68_4
               try clear hfz68_5
               try clear hfz68_6
               try clear hfz68_7
               try clear hfz69_0
               try clear hfz69_1
               try clear hfz69_2
               try clear hfz69_3
               try clear hfz69_4
               try clear hfz69_5
               try clear hfz69_6
               try clear hfz69_7
               try clear hfz72_0
               try clear hfz72_1
               try clear hfz72_2
               try clear hfz72_3
               try clear hfz72_4
               try clear hfz72_5
               try clear hfz72_6
               try clear hfz72_7
               try clear hfz74_0
               try clear hfz74_1
               try clear hfz74_2
               try clear hfz74_3
               try clear hfz74_4
               try clear hfz74_5
               try clear hfz74_6
               try clear hfz74_7
               try clear hfz76_0
               try clear hfz76_1
               try clear hfz76_2
               try clear hfz76_3
               try clear hfz76_4
               try clear hfz76_5
               try clear hfz76_6
               try clear hfz76_7
               try clear hfz77_0
               try clear hfz77_1
               try clear hfz77_2
               try clear hfz77_3
               try clear hfz77_4
               try clear hfz77_5
               try clear hfz77_6
               try clear hfz77_7
               try clear hfz80_0
               try clear hfz80_1
               try clear hfz80_2
               try clear hfz80_3
               try clear hfz80_4
               try clear hfz80_5
               try clear hfz80_6
               try clear hfz80_7
               try clear hfz82_0
               try clear hfz82_1
               try clear hfz82_2
               try clear hfz82_3
               try clear hfz82_4
               try clear hfz82_5
               try clear hfz82_6
               try clear hfz82_7
               try clear hfz84_0
               try clear hfz84_1
               try clear hfz84_2
               try clear hfz84_3
               try clear hfz84_4
               try clear hfz84_5
               try clear hfz84_6
               try clear hfz84_7
               try clear hfz85_0
               try clear hfz85_1
               try clear hfz85_2
               try clear hfz85_3
               try clear hfz85_4
               try clear hfz85_5
               try clear hfz85_6
               try clear hfz85_7
               try clear hfz88_0
               try clear hfz88_1
               try clear hfz88_2
               try clear hfz88_3
               try clear hfz88_4
               try clear hfz88_5
               try clear hfz88_6
               try clear hfz88_7
               try clear hfz90_0
               try clear hfz90_1
               try clear hfz90_2
               try clear hfz90_3
               try clear hfz90_4
               try clear hfz90_5
               try clear hfz90_6
               try clear hfz90_7
               try clear hfz92_0
               try clear hfz92_1
               try clear hfz92_2
               try clear hfz92_3
               try clear hfz92_4
               try clear hfz92_5
               try clear hfz92_6
               try clear hfz92_7
               try clear hfz95_0
               try clear hfz95_1
               try clear hfz95_2
               try clear hfz95_3
               try clear hfz95_4
               try clear hfz95_5
               try clear hfz95_6
               try clear hfz95_7
               try clear hfz97_0
               try clear hfz97_1
               try clear hfz97_2
               try clear hfz97_3
               try clear hfz97_4
               try clear hfz97_5
               try clear hfz97_6
               try clear hfz97_7
               try clear hx260_0
               try clear hx264_0
               try clear hx265_0
               try clear hx266_0
               try clear hx267_0
               try clear hx268_0
               try clear hx269_0
               try clear p2
               try clear p260
               try clear p264
               try clear p265
               try clear p266
               try clear p267
               try clear p268
               try clear p269
               try clear q260
               try clear q264
               try clear q265
               try clear q266
               try clear q267
               try clear q268
               try clear q269
               obtain ⟨kq, x172_108, rfl, HA, HJ108, HO_14, HO_236002, HO_236003, HO_236006, HO_236007, HO_254002, HO_254003, HO_254006, HO_254007, BK235, BK253, HB⟩ := hcut
               cases kq with
               | zero => exact absurd HA.out (by simp [thrumlaw10_QuantSure.j3])
               | succ kj108 =>
                have H := HA.out
                clear HA
                simp only [thrumlaw10_QuantSure.j3] at H
                by_cases c130 : x172_108 = true
                ·
                 subst c130
                 have H1 : (some false) = some r := by rw [if_pos rfl] at H; exact H
                 exact absurd (Option.some.inj H1) (by rw [HR_.out]; decide)
                ·
                 replace c130 := Bool.eq_false_iff.mpr c130
                 subst c130
                 have H1 : (if (rd l0 x127_3) = t226 then (if 0 ≤ x127_3 then (if x127_3 < (t254.length : Int) then (if (rd t254 x127_3) = (rd l0 x127_3) then (thrumlaw10_QuantSure.l0 kj108 a1 true t254 l0 (l0.length : Int) (wrap64 (x127_3 + 1)) t218 t219 t220 t223 t226 t227 t228 t231 t236 t237 t238 t241 t244 t245 t246 t249) else (some false)) else (none)) else (none)) else (if (rd l0 x127_3) = (wrap64 (-t226)) then (if 0 ≤ x127_3 then (if x127_3 < (t254.length : Int) then (if (rd t254 x127_3) = (rd l0 x127_3) then (thrumlaw10_QuantSure.l0 kj108 a1 true t254 l0 (l0.length : Int) (wrap64 (x127_3 + 1)) t218 t219 t220 t223 t226 t227 t228 t231 t236 t237 t238 t241 t244 t245 t246 t249) else (some false)) else (none)) else (none)) else (if (rd l0 x127_3) = 0 then (if 0 ≤ x127_3 then (if x127_3 < (t254.length : Int) then (if (rd t254 x127_3) = (rd l0 x127_3) then (thrumlaw10_QuantSure.l0 kj108 a1 true t254 l0 (l0.length : Int) (wrap64 (x127_3 + 1)) t218 t219 t220 t223 t226 t227 t228 t231 t236 t237 t238 t241 t244 t245 t246 t249) else (some false)) else (none)) else (none)) else (thrumlaw10_QuantSure.l0 kj108 a1 true t254 l0 (l0.length : Int) (wrap64 (x127_3 + 1)) t218 t219 t220 t223 t226 t227 t228 t231 t236 t237 t238 t241 t244 t245 t246 t249)))) = some r := by rw [if_neg (show ¬ (false = true) by decide)] at H; exact H
                 clear H
                 have H := H1
                 clear H1
                 by_cases c131 : (rd l0 x127_3) = t226
                 ·
                  rw [if_pos c131] at H
                  have c131b0 : ((rd l0 x127_3) == t226) = true := beq_iff_eq.mpr c131
                  have c131b1 : ((rd l0 x127_3) != t226) = false := bne_eq_false_iff_eq.mpr c131
                  clear c131
                  by_cases c132 : 0 ≤ x127_3
                  ·
                   rw [if_pos c132] at H
                   have c132b0 : decide (0 ≤ x127_3) = true := decide_eq_true c132
                   clear c132
                   by_cases c133 : x127_3 < (t254.length : Int)
                   ·
                    rw [if_pos c133] at H
                    have c133b0 : decide (x127_3 < (t254.length : Int)) = true := decide_eq_true c133
                    clear c133
                    by_cases c134 : (rd t254 x127_3) = (rd l0 x127_3)
                    ·
                     rw [if_pos c134] at H
                     have c134b0 : ((rd t254 x127_3) == (rd l0 x127_3)) = true := beq_iff_eq.mpr c134
                     have c134b1 : ((rd t254 x127_3) != (rd l0 x127_3)) = false := bne_eq_false_iff_eq.mpr c134
                     clear c134
                     focus
                      have H' := Aside0.mk H
                      clear H
                      have hnb135 := NB235_253.out
                      have hnc135 := NB253_235.out
                      have hcz136_0 : wc.cell? ⟨gb235, 0, none⟩ = some (.int .i64 t218) := (blk_cell BK235.out 0).trans rfl
                      have hcz136_1 : wc.cell? ⟨gb235, 1, none⟩ = some (.int .i64 t219) := (blk_cell BK235.out 1).trans rfl
                      have hcz136_2 : wc.cell? ⟨gb235, 2, none⟩ = some (.slice Ao16 t220.length co16) := (blk_cell BK235.out 2).trans rfl
                      have hcz136_3 : wc.cell? ⟨gb235, 3, none⟩ = some (.slice Ao17 t223.length co17) := (blk_cell BK235.out 3).trans rfl
                      have hcz136_4 : wc.cell? ⟨gb235, 4, none⟩ = some (.int .i64 t226) := (blk_cell BK235.out 4).trans rfl
                      have hcz136_5 : wc.cell? ⟨gb235, 5, none⟩ = some (.int .i64 t227) := (blk_cell BK235.out 5).trans rfl
                      have hcz136_6 : wc.cell? ⟨gb235, 6, none⟩ = some (.slice Ao18 t228.length co18) := (blk_cell BK235.out 6).trans rfl
                      have hcz136_7 : wc.cell? ⟨gb235, 7, none⟩ = some (.slice Ao19 t231.length co19) := (blk_cell BK235.out 7).trans rfl
                      have hfz136_0 := blk_frozen BK235.out 0
                      have hfz136_1 := blk_frozen BK235.out 1
                      have hfz136_2 := blk_frozen BK235.out 2
                      have hfz136_3 := blk_frozen BK235.out 3
                      have hfz136_4 := blk_frozen BK235.out 4
                      have hfz136_5 := blk_frozen BK235.out 5
                      have hfz136_6 := blk_frozen BK235.out 6
                      have hfz136_7 := blk_frozen BK235.out 7
                      obtain ⟨Ao137, co137, eo137⟩ := Kd.R_slice HO_14.out
                      subst eo137
                      have p270 : 0 ≤ (x127_3 : Int) := of_decide_eq_true (by first | (with_reducible assumption) | assumption)
                      have q270 : x127_3 < (t254.length : Int) := of_decide_eq_true (by first | (with_reducible assumption) | assumption)
                      obtain ⟨ad270, e270, hx270_0⟩ := Kd.at_int (Kd.R_reads' HO_14.out).2.2 x127_3 p270 q270
                      cases e270
                      replace p270 := eq_true p270
                      replace q270 := eq_true q270
                      go_wp2
                      repeat (go_quiet (fail); try go_wp2)
                      go_roundg kj108
                      case measure => have := HJ10.out; have := HJ30.out; have := HK3.out; have := HJ108.out; omega
                      case rel => exact ⟨(wrap64 (x127_3 + 1)), (by first | rfl | (simp; done) | (simp [*]; done)), H', ⟨by have := HJ10.out; have := HJ30.out; have := HK3.out; have := HJ108.out; omega⟩, ⟨by (with_reducible repeat (first | apply rrA | apply rrN | apply rrD)); exact HO_14.out⟩, ⟨by (with_reducible repeat (first | apply rrA | apply rrN | apply rrD)); exact HO_236002.out⟩, ⟨by (with_reducible repeat (first | apply rrA | apply rrN | apply rrD)); exact HO_236003.out⟩, ⟨by (with_reducible repeat (first | apply rrA | apply rrN | apply rrD)); exact HO_236006.out⟩, ⟨by (with_reducible repeat (first | apply rrA | apply rrN | apply rrD)); exact HO_236007.out⟩, ⟨by (with_reducible repeat (first | apply rrA | apply rrN | apply rrD)); exact HO_254002.out⟩, ⟨by (with_reducible repeat (first | apply rrA | apply rrN | apply rrD)); exact HO_254003.out⟩, ⟨by (with_reducible repeat (first | apply rrA | apply rrN | apply rrD)); exact HO_254006.out⟩, ⟨by (with_reducible repeat (first | apply rrA | apply rrN | apply rrD)); exact HO_254007.out⟩, ⟨by (with_reducible repeat (first | refine kkN ?_ _ | refine kkD ?_ | refine kkA ?_ _)); exact BK235.out⟩, ⟨by (with_reducible repeat (first | refine kkN ?_ _ | refine kkD ?_ | refine kkA ?_ _)); exact BK253.out⟩, ⟨by repeat (first | (with_reducible first | exact HB.out | apply zzA | apply zzN | apply zzD | refine below_set ?_ GE235.out | refine below_set ?_ GE253.out) | exact HB.out)⟩⟩
                    ·
                     rw [if_neg c134] at H
                     exact absurd (Option.some.inj H) (by rw [HR_.out]; decide)
                   ·
                    rw [if_neg c133] at H
                    exact absurd H (by simp)
                  ·
                   rw [if_neg c132] at H
                   exact absurd H (by simp)
                 ·
                  rw [if_neg c131] at H
                  have c131b0 : ((rd l0 x127_3) == t226) = false := beq_eq_false_iff_ne.mpr c131
                  have c131b1 : ((rd l0 x127_3) != t226) = true := bne_iff_ne.mpr c131
                  by_cases c141 : (rd l0 x127_3) = (wrap64 (-t226))
                  ·
                   rw [if_pos c141] at H
                   have c141b0 : ((rd l0 x127_3) == (wrap64 (-t226))) = true := beq_iff_eq.mpr c141
                   have c141b1 : ((rd l0 x127_3) != (wrap64 (-t226))) = false := bne_eq_false_iff_eq.mpr c141
                   clear c141
                   by_cases c142 : 0 ≤ x127_3
                   ·
                    rw [if_pos c142] at H
                    have c142b0 : decide (0 ≤ x127_3) = true := decide_eq_true c142
                    clear c142
                    by_cases c143 : x127_3 < (t254.length : Int)
                    ·
                     rw [if_pos c143] at H
                     have c143b0 : decide (x127_3 < (t254.length : Int)) = true := decide_eq_true c143
                     clear c143
                     by_cases c144 : (rd t254 x127_3) = (rd l0 x127_3)
                     ·
                      rw [if_pos c144] at H
                      have c144b0 : ((rd t254 x127_3) == (rd l0 x127_3)) = true := beq_iff_eq.mpr c144
                      have c144b1 : ((rd t254 x127_3) != (rd l0 x127_3)) = false := bne_eq_false_iff_eq.mpr c144
                      clear c144
                      focus
                       have H' := Aside0.mk H
                       clear H
                       have hnb145 := NB235_253.out
                       have hnc145 := NB253_235.out
                       have hcz146_0 : wc.cell? ⟨gb235, 0, none⟩ = some (.int .i64 t218) := (blk_cell BK235.out 0).trans rfl
                       have hcz146_1 : wc.cell? ⟨gb235, 1, none⟩ = some (.int .i64 t219) := (blk_cell BK235.out 1).trans rfl
                       have hcz146_2 : wc.cell? ⟨gb235, 2, none⟩ = some (.slice Ao16 t220.length co16) := (blk_cell BK235.out 2).trans rfl
                       have hcz146_3 : wc.cell? ⟨gb235, 3, none⟩ = some (.slice Ao17 t223.length co17) := (blk_cell BK235.out 3).trans rfl
                       have hcz146_4 : wc.cell? ⟨gb235, 4, none⟩ = some (.int .i64 t226) := (blk_cell BK235.out 4).trans rfl
                       have hcz146_5 : wc.cell? ⟨gb235, 5, none⟩ = some (.int .i64 t227) := (blk_cell BK235.out 5).trans rfl
                       have hcz146_6 : wc.cell? ⟨gb235, 6, none⟩ = some (.slice Ao18 t228.length co18) := (blk_cell BK235.out 6).trans rfl
                       have hcz146_7 : wc.cell? ⟨gb235, 7, none⟩ = some (.slice Ao19 t231.length co19) := (blk_cell BK235.out 7).trans rfl
                       have hfz146_0 := blk_frozen BK235.out 0
                       have hfz146_1 := blk_frozen BK235.out 1
                       have hfz146_2 := blk_frozen BK235.out 2
                       have hfz146_3 := blk_frozen BK235.out 3
                       have hfz146_4 := blk_frozen BK235.out 4
                       have hfz146_5 := blk_frozen BK235.out 5
                       have hfz146_6 := blk_frozen BK235.out 6
                       have hfz146_7 := blk_frozen BK235.out 7
                       obtain ⟨Ao147, co147, eo147⟩ := Kd.R_slice HO_14.out
                       subst eo147
                       have p271 : 0 ≤ (x127_3 : Int) := of_decide_eq_true (by first | (with_reducible assumption) | assumption)
                       have q271 : x127_3 < (t254.length : Int) := of_decide_eq_true (by first | (with_reducible assumption) | assumption)
                       obtain ⟨ad271, e271, hx271_0⟩ := Kd.at_int (Kd.R_reads' HO_14.out).2.2 x127_3 p271 q271
                       cases e271
                       replace p271 := eq_true p271
                       replace q271 := eq_true q271
                       go_wp2
                       repeat (go_quiet (fail); try go_wp2)
                       go_roundg kj108
                       case measure => have := HJ10.out; have := HJ30.out; have := HK3.out; have := HJ108.out; omega
                       case rel => exact ⟨(wrap64 (x127_3 + 1)), (by first | rfl | (simp; done) | (simp [*]; done)), H', ⟨by have := HJ10.out; have := HJ30.out; have := HK3.out; have := HJ108.out; omega⟩, ⟨by (with_reducible repeat (first | apply rrA | apply rrN | apply rrD)); exact HO_14.out⟩, ⟨by (with_reducible repeat (first | apply rrA | apply rrN | apply rrD)); exact HO_236002.out⟩, ⟨by (with_reducible repeat (first | apply rrA | apply rrN | apply rrD)); exact HO_236003.out⟩, ⟨by (with_reducible repeat (first | apply rrA | apply rrN | apply rrD)); exact HO_236006.out⟩, ⟨by (with_reducible repeat (first | apply rrA | apply rrN | apply rrD)); exact HO_236007.out⟩, ⟨by (with_reducible repeat (first | apply rrA | apply rrN | apply rrD)); exact HO_254002.out⟩, ⟨by (with_reducible repeat (first | apply rrA | apply rrN | apply rrD)); exact HO_254003.out⟩, ⟨by (with_reducible repeat (first | apply rrA | apply rrN | apply rrD)); exact HO_254006.out⟩, ⟨by (with_reducible repeat (first | apply rrA | apply rrN | apply rrD)); exact HO_254007.out⟩, ⟨by (with_reducible repeat (first | refine kkN ?_ _ | refine kkD ?_ | refine kkA ?_ _)); exact BK235.out⟩, ⟨by (with_reducible repeat (first | refine kkN ?_ _ | refine kkD ?_ | refine kkA ?_ _)); exact BK253.out⟩, ⟨by repeat (first | (with_reducible first | exact HB.out | apply zzA | apply zzN | apply zzD | refine below_set ?_ GE235.out | refine below_set ?_ GE253.out) | exact HB.out)⟩⟩
                     ·
                      rw [if_neg c144] at H
                      exact absurd (Option.some.inj H) (by rw [HR_.out]; decide)
                    ·
                     rw [if_neg c143] at H
                     exact absurd H (by simp)
                   ·
                    rw [if_neg c142] at H
                    exact absurd H (by simp)
                  ·
                   rw [if_neg c141] at H
                   have c141b0 : ((rd l0 x127_3) == (wrap64 (-t226))) = false := beq_eq_false_iff_ne.mpr c141
                   have c141b1 : ((rd l0 x127_3) != (wrap64 (-t226))) = true := bne_iff_ne.mpr c141
                   by_cases c151 : (rd l0 x127_3) = 0
                   ·
                    rw [if_pos c151] at H
                    have c151b0 : ((rd l0 x127_3) == 0) = true := beq_iff_eq.mpr c151
                    have c151b1 : ((rd l0 x127_3) != 0) = false := bne_eq_false_iff_eq.mpr c151
                    clear c151
                    by_cases c152 : 0 ≤ x127_3
                    ·
                     rw [if_pos c152] at H
                     have c152b0 : decide (0 ≤ x127_3) = true := decide_eq_true c152
                     clear c152
                     by_cases c153 : x127_3 < (t254.length : Int)
                     ·
                      rw [if_pos c153] at H
                      have c153b0 : decide (x127_3 < (t254.length : Int)) = true := decide_eq_true c153
                      clear c153
                      by_cases c154 : (rd t254 x127_3) = (rd l0 x127_3)
                      ·
                       rw [if_pos c154] at H
                       have c154b0 : ((rd t254 x127_3) == (rd l0 x127_3)) = true := beq_iff_eq.mpr c154
                       have c154b1 : ((rd t254 x127_3) != (rd l0 x127_3)) = false := bne_eq_false_iff_eq.mpr c154
                       clear c154
                       focus
                        have H' := Aside0.mk H
                        clear H
                        have hnb155 := NB235_253.out
                        have hnc155 := NB253_235.out
                        have hcz156_0 : wc.cell? ⟨gb235, 0, none⟩ = some (.int .i64 t218) := (blk_cell BK235.out 0).trans rfl
                        have hcz156_1 : wc.cell? ⟨gb235, 1, none⟩ = some (.int .i64 t219) := (blk_cell BK235.out 1).trans rfl
                        have hcz156_2 : wc.cell? ⟨gb235, 2, none⟩ = some (.slice Ao16 t220.length co16) := (blk_cell BK235.out 2).trans rfl
                        have hcz156_3 : wc.cell? ⟨gb235, 3, none⟩ = some (.slice Ao17 t223.length co17) := (blk_cell BK235.out 3).trans rfl
                        have hcz156_4 : wc.cell? ⟨gb235, 4, none⟩ = some (.int .i64 t226) := (blk_cell BK235.out 4).trans rfl
                        have hcz156_5 : wc.cell? ⟨gb235, 5, none⟩ = some (.int .i64 t227) := (blk_cell BK235.out 5).trans rfl
                        have hcz156_6 : wc.cell? ⟨gb235, 6, none⟩ = some (.slice Ao18 t228.length co18) := (blk_cell BK235.out 6).trans rfl
                        have hcz156_7 : wc.cell? ⟨gb235, 7, none⟩ = some (.slice Ao19 t231.length co19) := (blk_cell BK235.out 7).trans rfl
                        have hfz156_0 := blk_frozen BK235.out 0
                        have hfz156_1 := blk_frozen BK235.out 1
                        have hfz156_2 := blk_frozen BK235.out 2
                        have hfz156_3 := blk_frozen BK235.out 3
                        have hfz156_4 := blk_frozen BK235.out 4
                        have hfz156_5 := blk_frozen BK235.out 5
                        have hfz156_6 := blk_frozen BK235.out 6
                        have hfz156_7 := blk_frozen BK235.out 7
                        obtain ⟨Ao157, co157, eo157⟩ := Kd.R_slice HO_14.out
                        subst eo157
                        have p272 : 0 ≤ (x127_3 : Int) := of_decide_eq_true (by first | (with_reducible assumption) | assumption)
                        have q272 : x127_3 < (t254.length : Int) := of_decide_eq_true (by first | (with_reducible assumption) | assumption)
                        obtain ⟨ad272, e272, hx272_0⟩ := Kd.at_int (Kd.R_reads' HO_14.out).2.2 x127_3 p272 q272
                        cases e272
                        replace p272 := eq_true p272
                        replace q272 := eq_true q272
                        go_wp2
                        repeat (go_quiet (fail); try go_wp2)
                        go_roundg kj108
                        case measure => have := HJ10.out; have := HJ30.out; have := HK3.out; have := HJ108.out; omega
                        case rel => exact ⟨(wrap64 (x127_3 + 1)), (by first | rfl | (simp; done) | (simp [*]; done)), H', ⟨by have := HJ10.out; have := HJ30.out; have := HK3.out; have := HJ108.out; omega⟩, ⟨by (with_reducible repeat (first | apply rrA | apply rrN | apply rrD)); exact HO_14.out⟩, ⟨by (with_reducible repeat (first | apply rrA | apply rrN | apply rrD)); exact HO_236002.out⟩, ⟨by (with_reducible repeat (first | apply rrA | apply rrN | apply rrD)); exact HO_236003.out⟩, ⟨by (with_reducible repeat (first | apply rrA | apply rrN | apply rrD)); exact HO_236006.out⟩, ⟨by (with_reducible repeat (first | apply rrA | apply rrN | apply rrD)); exact HO_236007.out⟩, ⟨by (with_reducible repeat (first | apply rrA | apply rrN | apply rrD)); exact HO_254002.out⟩, ⟨by (with_reducible repeat (first | apply rrA | apply rrN | apply rrD)); exact HO_254003.out⟩, ⟨by (with_reducible repeat (first | apply rrA | apply rrN | apply rrD)); exact HO_254006.out⟩, ⟨by (with_reducible repeat (first | apply rrA | apply rrN | apply rrD)); exact HO_254007.out⟩, ⟨by (with_reducible repeat (first | refine kkN ?_ _ | refine kkD ?_ | refine kkA ?_ _)); exact BK235.out⟩, ⟨by (with_reducible repeat (first | refine kkN ?_ _ | refine kkD ?_ | refine kkA ?_ _)); exact BK253.out⟩, ⟨by repeat (first | (with_reducible first | exact HB.out | apply zzA | apply zzN | apply zzD | refine below_set ?_ GE235.out | refine below_set ?_ GE253.out) | exact HB.out)⟩⟩
                      ·
                       rw [if_neg c154] at H
                       exact absurd (Option.some.inj H) (by rw [HR_.out]; decide)
                     ·
                      rw [if_neg c153] at H
                      exact absurd H (by simp)
                    ·
                     rw [if_neg c152] at H
                     exact absurd H (by simp)
                   ·
                    rw [if_neg c151] at H
                    have c151b0 : ((rd l0 x127_3) == 0) = false := beq_eq_false_iff_ne.mpr c151
                    have c151b1 : ((rd l0 x127_3) != 0) = true := bne_iff_ne.mpr c151
                    focus
                     have H' := Aside0.mk H
                     clear H
                     have hnb161 := NB235_253.out
                     have hnc161 := NB253_235.out
                     have hcz162_0 : wc.cell? ⟨gb235, 0, none⟩ = some (.int .i64 t218) := (blk_cell BK235.out 0).trans rfl
                     have hcz162_1 : wc.cell? ⟨gb235, 1, none⟩ = some (.int .i64 t219) := (blk_cell BK235.out 1).trans rfl
                     have hcz162_2 : wc.cell? ⟨gb235, 2, none⟩ = some (.slice Ao16 t220.length co16) := (blk_cell BK235.out 2).trans rfl
                     have hcz162_3 : wc.cell? ⟨gb235, 3, none⟩ = some (.slice Ao17 t223.length co17) := (blk_cell BK235.out 3).trans rfl
                     have hcz162_4 : wc.cell? ⟨gb235, 4, none⟩ = some (.int .i64 t226) := (blk_cell BK235.out 4).trans rfl
                     have hcz162_5 : wc.cell? ⟨gb235, 5, none⟩ = some (.int .i64 t227) := (blk_cell BK235.out 5).trans rfl
                     have hcz162_6 : wc.cell? ⟨gb235, 6, none⟩ = some (.slice Ao18 t228.length co18) := (blk_cell BK235.out 6).trans rfl
                     have hcz162_7 : wc.cell? ⟨gb235, 7, none⟩ = some (.slice Ao19 t231.length co19) := (blk_cell BK235.out 7).trans rfl
                     have hfz162_0 := blk_frozen BK235.out 0
                     have hfz162_1 := blk_frozen BK235.out 1
                     have hfz162_2 := blk_frozen BK235.out 2
                     have hfz162_3 := blk_frozen BK235.out 3
                     have hfz162_4 := blk_frozen BK235.out 4
                     have hfz162_5 := blk_frozen BK235.out 5
                     have hfz162_6 := blk_frozen BK235.out 6
                     have hfz162_7 := blk_frozen BK235.out 7
                     go_wp2
                     repeat (go_quiet (fail); try go_wp2)
                     go_roundg kj108
                     case measure => have := HJ10.out; have := HJ30.out; have := HK3.out; have := HJ108.out; omega
                     case rel => exact ⟨(wrap64 (x127_3 + 1)), (by first | rfl | (simp; done) | (simp [*]; done)), H', ⟨by have := HJ10.out; have := HJ30.out; have := HK3.out; have := HJ108.out; omega⟩, ⟨by (with_reducible repeat (first | apply rrA | apply rrN | apply rrD)); exact HO_14.out⟩, ⟨by (with_reducible repeat (first | apply rrA | apply rrN | apply rrD)); exact HO_236002.out⟩, ⟨by (with_reducible repeat (first | apply rrA | apply rrN | apply rrD)); exact HO_236003.out⟩, ⟨by (with_reducible repeat (first | apply rrA | apply rrN | apply rrD)); exact HO_236006.out⟩, ⟨by (with_reducible repeat (first | apply rrA | apply rrN | apply rrD)); exact HO_236007.out⟩, ⟨by (with_reducible repeat (first | apply rrA | apply rrN | apply rrD)); exact HO_254002.out⟩, ⟨by (with_reducible repeat (first | apply rrA | apply rrN | apply rrD)); exact HO_254003.out⟩, ⟨by (with_reducible repeat (first | apply rrA | apply rrN | apply rrD)); exact HO_254006.out⟩, ⟨by (with_reducible repeat (first | apply rrA | apply rrN | apply rrD)); exact HO_254007.out⟩, ⟨by (with_reducible repeat (first | refine kkN ?_ _ | refine kkD ?_ | refine kkA ?_ _)); exact BK235.out⟩, ⟨by (with_reducible repeat (first | refine kkN ?_ _ | refine kkD ?_ | refine kkA ?_ _)); exact BK253.out⟩, ⟨by repeat (first | (with_reducible first | exact HB.out | apply zzA | apply zzN | apply zzD | refine below_set ?_ GE235.out | refine below_set ?_ GE253.out) | exact HB.out)⟩⟩
             ·
              rw [if_neg c107] at H
              exact absurd H (by simp)
            ·
             rw [if_neg c106] at H
             exact absurd H (by simp)
           ·
            rw [if_neg c105] at H
            have c105b0 : decide (x127_3 < (l0.length : Int)) = false := decide_eq_false c105
            clear c105
            first | rw [if_pos rfl] at H | rw [if_pos trivial] at H
            focus
             obtain rfl := Option.some.inj H
             have hnb163 := NB235_253.out
             have hnc163 := NB253_235.out
             have hcz164_0 : wr.cell? ⟨gb235, 0, none⟩ = some (.int .i64 t218) := (blk_cell BK235.out 0).trans rfl
             have hcz164_1 : wr.cell? ⟨gb235, 1, none⟩ = some (.int .i64 t219) := (blk_cell BK235.out 1).trans rfl
             have hcz164_2 : wr.cell? ⟨gb235, 2, none⟩ = some (.slice Ao16 t220.length co16) := (blk_cell BK235.out 2).trans rfl
             have hcz164_3 : wr.cell? ⟨gb235, 3, none⟩ = some (.slice Ao17 t223.length co17) := (blk_cell BK235.out 3).trans rfl
             have hcz164_4 : wr.cell? ⟨gb235, 4, none⟩ = some (.int .i64 t226) := (blk_cell BK235.out 4).trans rfl
             have hcz164_5 : wr.cell? ⟨gb235, 5, none⟩ = some (.int .i64 t227) := (blk_cell BK235.out 5).trans rfl
             have hcz164_6 : wr.cell? ⟨gb235, 6, none⟩ = some (.slice Ao18 t228.length co18) := (blk_cell BK235.out 6).trans rfl
             have hcz164_7 : wr.cell? ⟨gb235, 7, none⟩ = some (.slice Ao19 t231.length co19) := (blk_cell BK235.out 7).trans rfl
             have hfz164_0 := blk_frozen BK235.out 0
             have hfz164_1 := blk_frozen BK235.out 1
             have hfz164_2 := blk_frozen BK235.out 2
             have hfz164_3 := blk_frozen BK235.out 3
             have hfz164_4 := blk_frozen BK235.out 4
             have hfz164_5 := blk_frozen BK235.out 5
             have hfz164_6 := blk_frozen BK235.out 6
             have hfz164_7 := blk_frozen BK235.out 7
             have hcz165_0 : wr.cell? ⟨gb253, 0, none⟩ = some (.int .i64 t236) := (blk_cell BK253.out 0).trans rfl
             have hcz165_1 : wr.cell? ⟨gb253, 1, none⟩ = some (.int .i64 t237) := (blk_cell BK253.out 1).trans rfl
             have hcz165_2 : wr.cell? ⟨gb253, 2, none⟩ = some (.slice Ao24 t238.length co24) := (blk_cell BK253.out 2).trans rfl
             have hcz165_3 : wr.cell? ⟨gb253, 3, none⟩ = some (.slice Ao25 t241.length co25) := (blk_cell BK253.out 3).trans rfl
             have hcz165_4 : wr.cell? ⟨gb253, 4, none⟩ = some (.int .i64 t244) := (blk_cell BK253.out 4).trans rfl
             have hcz165_5 : wr.cell? ⟨gb253, 5, none⟩ = some (.int .i64 t245) := (blk_cell BK253.out 5).trans rfl
             have hcz165_6 : wr.cell? ⟨gb253, 6, none⟩ = some (.slice Ao26 t246.length co26) := (blk_cell BK253.out 6).trans rfl
             have hcz165_7 : wr.cell? ⟨gb253, 7, none⟩ = some (.slice Ao27 t249.length co27) := (blk_cell BK253.out 7).trans rfl
             have hfz165_0 := blk_frozen BK253.out 0
             have hfz165_1 := blk_frozen BK253.out 1
             have hfz165_2 := blk_frozen BK253.out 2
             have hfz165_3 := blk_frozen BK253.out 3
             have hfz165_4 := blk_frozen BK253.out 4
             have hfz165_5 := blk_frozen BK253.out 5
             have hfz165_6 := blk_frozen BK253.out 6
             have hfz165_7 := blk_frozen BK253.out 7
             go_wp2
             repeat (go_quiet (fail); try go_wp2)
             go_ret
             exact ⟨by first | rfl | (simp [errW_none, errW_some] <;> rfl) | (simp [*, errW_none, errW_some] <;> rfl), by repeat (first | (with_reducible first | exact HB.out | apply zzA | apply zzN | apply zzD | refine below_set ?_ GE235.out | refine below_set ?_ GE253.out) | exact HB.out)⟩
  ·
   replace c8 := Bool.eq_false_iff.mpr c8
   subst c8
   have H1 : (some true) = some r := by rw [if_neg (show ¬ (false = true) by decide)] at H; exact H
   clear H
   have H := H1
   clear H1
   focus
    obtain rfl := Option.some.inj H
    go_enter Try.func12, Try.ntmps12
    go_wp2_with (first | (go_at_call 44; (with_reducible refine (thrumlaw10_live.calls  true _ A5.out).mono ?_); rintro e w166 ⟨rfl, hb⟩; have n0_ := Aside0.mk (zzT (by repeat (first | (with_reducible first | exact HB.out | apply zzA | apply zzN | apply zzD) | exact HB.out)) hb); clear HB; have HB := n0_; clear n0_; (try clear hb); (try clear hb2); (try clear hk); (try clear hi)) | (go_at_call 45; (refine (thrumlaw10_few.calls _ _ l0 _ _ ([] : List Int) false _ ?side1 ?side2 ?side3 ?side4 A7.out).mono ?_); (case side1 => repeat (first | exact (Kd.C_below HR0.out HB.out) | (with_reducible refine ccA ?_ _) | (with_reducible refine ccN ?_ _) | (with_reducible refine ccD ?_))); (case side2 => exact HC0.out); (case side3 => exact Kd.C_nil _ _); (case side4 => exact Nat.le_refl _); rintro e w' ⟨rfl, ⟨nd, rfl⟩⟩; (try first | exact ⟨rfl, _, wwN _ _ _⟩ | exact ⟨rfl, _, ww3 _ _ _ _⟩)))
    repeat (go_quiet (first | (go_at_call 44; (with_reducible refine (thrumlaw10_live.calls  true _ A5.out).mono ?_); rintro e w166 ⟨rfl, hb⟩; have n0_ := Aside0.mk (zzT (by repeat (first | (with_reducible first | exact HB.out | apply zzA | apply zzN | apply zzD) | exact HB.out)) hb); clear HB; have HB := n0_; clear n0_; (try clear hb); (try clear hb2); (try clear hk); (try clear hi)) | (go_at_call 45; (refine (thrumlaw10_few.calls _ _ l0 _ _ ([] : List Int) false _ ?side1 ?side2 ?side3 ?side4 A7.out).mono ?_); (case side1 => repeat (first | exact (Kd.C_below HR0.out HB.out) | (with_reducible refine ccA ?_ _) | (with_reducible refine ccN ?_ _) | (with_reducible refine ccD ?_))); (case side2 => exact HC0.out); (case side3 => exact Kd.C_nil _ _); (case side4 => exact Nat.le_refl _); rintro e w' ⟨rfl, ⟨nd, rfl⟩⟩; (try first | exact ⟨rfl, _, wwN _ _ _⟩ | exact ⟨rfl, _, ww3 _ _ _ _⟩))); try go_wp2_with (first | (go_at_call 44; (with_reducible refine (thrumlaw10_live.calls  true _ A5.out).mono ?_); rintro e w166 ⟨rfl, hb⟩; have n0_ := Aside0.mk (zzT (by repeat (first | (with_reducible first | exact HB.out | apply zzA | apply zzN | apply zzD) | exact HB.out)) hb); clear HB; have HB := n0_; clear n0_; (try clear hb); (try clear hb2); (try clear hk); (try clear hi)) | (go_at_call 45; (refine (thrumlaw10_few.calls _ _ l0 _ _ ([] : List Int) false _ ?side1 ?side2 ?side3 ?side4 A7.out).mono ?_); (case side1 => repeat (first | exact (Kd.C_below HR0.out HB.out) | (with_reducible refine ccA ?_ _) | (with_reducible refine ccN ?_ _) | (with_reducible refine ccD ?_))); (case side2 => exact HC0.out); (case side3 => exact Kd.C_nil _ _); (case side4 => exact Nat.le_refl _); rintro e w' ⟨rfl, ⟨nd, rfl⟩⟩; (try first | exact ⟨rfl, _, wwN _ _ _⟩ | exact ⟨rfl, _, ww3 _ _ _ _⟩))))
    go_ret
    exact ⟨by first | rfl | (simp [errW_none, errW_some] <;> rfl) | (simp [*, errW_none, errW_some] <;> rfl), by repeat (first | (with_reducible first | exact HB.out | apply zzA | apply zzN | apply zzD) | exact HB.out)⟩
 ·
  replace c6 := Bool.eq_false_iff.mpr c6
  subst c6
  have H1 : (some false) = some r := by rw [if_neg (show ¬ (false = true) by decide)] at H; exact H
  exact absurd (Option.some.inj H1) (by rw [HR_.out]; decide)


end Go.Proofs.Ytkfhdpnfcaghbaa.HQ
