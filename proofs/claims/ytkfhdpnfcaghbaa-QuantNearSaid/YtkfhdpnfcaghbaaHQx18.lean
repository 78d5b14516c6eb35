/- What Go functions do, each as a plain Lean function with the same answers, and the proof of it, in every world: printed by the session's driver over the kit's print, with texts by hand. -/
import Derived.Test.YtkfhdpnfcaghbaaHQx0
import Derived.Test.YtkfhdpnfcaghbaaHQx1
import Derived.Test.YtkfhdpnfcaghbaaHQx6
import Derived.Test.YtkfhdpnfcaghbaaHQx11
import Derived.Test.YtkfhdpnfcaghbaaHQx12
import Derived.Test.YtkfhdpnfcaghbaaHQx13
import Derived.Test.YtkfhdpnfcaghbaaHQx14
import Derived.Test.YtkfhdpnfcaghbaaHQx16
import Derived.Test.YtkfhdpnfcaghbaaHQx17
namespace Go.Proofs.Ytkfhdpnfcaghbaa.HQ
open Go.RowKit Go.Proofs.YtkfhdpnfcaghbaaW.PrintWords Go.Proofs.YtkfhdpnfcaghbaaW.PrintLast Go.Proofs.YtkfhdpnfcaghbaaW.PrintMore
attribute [local go_sem] max2_int min2_int max_two min_two max_three min_three max_four min_four   -- for this text's walks alone
open Go.Proofs.Ytkfhdpnfcaghbaa.Sp
attribute [local go_sem] Go.Proofs.Ytkfhdpnfcaghbaa.Sp.u64_not
set_option linter.unusedVariables false
set_option linter.unusedSimpArgs false

set_option maxHeartbeats 80000000 in
set_option maxRecDepth 100000 in
theorem thrumlaw10_QuantNear.calls (k : Nat) (A0 : Option Addr) (c0 : Nat) (l0 : List Int) (a1 : Int) (a2 : Int) (A3 : Option Addr) (c3 : Nat) (l3 : List Int) (r : Bool) (w : World) (hr0 : Kd.C (Kd.int .i64) w A0 l0.length l0) (hc0 : l0.length ≤ c0) (hr3 : Kd.C (Kd.int .i64) w A3 l3.length l3) (hc3 : l3.length ≤ c3) (h : thrumlaw10_QuantNear.f k l0 a1 a2 l3 = some r) (hr_ : r = true) :
  Calls Try.prog 13 #[.slice A0 l0.length c0, .int .i64 a1, .int .u64 a2, .slice A3 l3.length c3] w fun e w' => e = .returned (.bool r) ∧ Below w.heap.size w w' := by
 have HR_ := Aside0.mk hr_
 clear hr_
 have hu30 := Try.underlying30
 have HR0 := Aside0.mk hr0
 have HC0 := Aside0.mk hc0
 clear hr0 hc0
 have HR3 := Aside0.mk hr3
 have HC3 := Aside0.mk hc3
 clear hr3 hc3
 have HB := Aside0.mk (Below.refl w.heap.size w)
 have H : ((thrumlaw10_live.f).bind fun t216 => (if t216 = true then ((thrumlaw10_few.f l0 l3).bind fun t217 => (if t217 = true then ((quant_Press.f k l0 a1 a2 l3).bind fun bt218 => (if bt218.2.2.2.2.2.2.2.2 = 0 then ((quant_Loosen.f k bt218.1 bt218.2.1 bt218.2.2.1 bt218.2.2.2.1 bt218.2.2.2.2.1 bt218.2.2.2.2.2.1 bt218.2.2.2.2.2.2.1 bt218.2.2.2.2.2.2.2.1).bind fun bt236 => ((quant_Steps.f a1).bind fun bt240 => ((quant_Near.f l0 bt218.1 bt218.2.1 bt218.2.2.1 bt218.2.2.2.1 bt218.2.2.2.2.1 bt218.2.2.2.2.2.1 bt218.2.2.2.2.2.2.1 bt218.2.2.2.2.2.2.2.1).bind fun t242 => (if t242 = true then ((frame_May.f bt218.1 bt218.2.1 bt218.2.2.1 bt218.2.2.2.1 bt218.2.2.2.2.1 bt218.2.2.2.2.2.1 bt218.2.2.2.2.2.2.1 bt218.2.2.2.2.2.2.2.1).bind fun t243 => (if t243 = true then (if bt236.2 = 0 then (if bt240.2 = 0 then (thrumlaw10_QuantNear.j0 k l0 t216 bt236.1 bt240.1 ((bt236.1.length : Int) != (l0.length : Int)) bt218.1 bt218.2.1 bt218.2.2.1 bt218.2.2.2.1 bt218.2.2.2.2.1 bt218.2.2.2.2.2.1 bt218.2.2.2.2.2.2.1 bt218.2.2.2.2.2.2.2.1) else (thrumlaw10_QuantNear.j0 k l0 t216 bt236.1 bt240.1 true bt218.1 bt218.2.1 bt218.2.2.1 bt218.2.2.2.1 bt218.2.2.2.2.1 bt218.2.2.2.2.2.1 bt218.2.2.2.2.2.2.1 bt218.2.2.2.2.2.2.2.1)) else (thrumlaw10_QuantNear.j0 k l0 t216 bt236.1 bt240.1 true bt218.1 bt218.2.1 bt218.2.2.1 bt218.2.2.2.1 bt218.2.2.2.2.1 bt218.2.2.2.2.2.1 bt218.2.2.2.2.2.2.1 bt218.2.2.2.2.2.2.2.1)) else (thrumlaw10_QuantNear.j0 k l0 t216 bt236.1 bt240.1 true bt218.1 bt218.2.1 bt218.2.2.1 bt218.2.2.2.1 bt218.2.2.2.2.1 bt218.2.2.2.2.2.1 bt218.2.2.2.2.2.2.1 bt218.2.2.2.2.2.2.2.1))) else (thrumlaw10_QuantNear.j0 k l0 t216 bt236.1 bt240.1 true bt218.1 bt218.2.1 bt218.2.2.1 bt218.2.2.2.1 bt218.2.2.2.2.1 bt218.2.2.2.2.2.1 bt218.2.2.2.2.2.2.1 bt218.2.2.2.2.2.2.2.1))))) else (some (bt218.2.1 == 0)))) else (some t216))) else (some false))) = some r := h
 clear h
 replace H := Option.bind_eq_some_iff.mp H
 obtain ⟨t216, A50, H⟩ := H
 replace H : (if t216 = true then ((thrumlaw10_few.f l0 l3).bind fun t217 => (if t217 = true then ((quant_Press.f k l0 a1 a2 l3).bind fun bt218 => (if bt218.2.2.2.2.2.2.2.2 = 0 then ((quant_Loosen.f k bt218.1 bt218.2.1 bt218.2.2.1 bt218.2.2.2.1 bt218.2.2.2.2.1 bt218.2.2.2.2.2.1 bt218.2.2.2.2.2.2.1 bt218.2.2.2.2.2.2.2.1).bind fun bt236 => ((quant_Steps.f a1).bind fun bt240 => ((quant_Near.f l0 bt218.1 bt218.2.1 bt218.2.2.1 bt218.2.2.2.1 bt218.2.2.2.2.1 bt218.2.2.2.2.2.1 bt218.2.2.2.2.2.2.1 bt218.2.2.2.2.2.2.2.1).bind fun t242 => (if t242 = true then ((frame_May.f bt218.1 bt218.2.1 bt218.2.2.1 bt218.2.2.2.1 bt218.2.2.2.2.1 bt218.2.2.2.2.2.1 bt218.2.2.2.2.2.2.1 bt218.2.2.2.2.2.2.2.1).bind fun t243 => (if t243 = true then (if bt236.2 = 0 then (if bt240.2 = 0 then (thrumlaw10_QuantNear.j0 k l0 t216 bt236.1 bt240.1 ((bt236.1.length : Int) != (l0.length : Int)) bt218.1 bt218.2.1 bt218.2.2.1 bt218.2.2.2.1 bt218.2.2.2.2.1 bt218.2.2.2.2.2.1 bt218.2.2.2.2.2.2.1 bt218.2.2.2.2.2.2.2.1) else (thrumlaw10_QuantNear.j0 k l0 t216 bt236.1 bt240.1 true bt218.1 bt218.2.1 bt218.2.2.1 bt218.2.2.2.1 bt218.2.2.2.2.1 bt218.2.2.2.2.2.1 bt218.2.2.2.2.2.2.1 bt218.2.2.2.2.2.2.2.1)) else (thrumlaw10_QuantNear.j0 k l0 t216 bt236.1 bt240.1 true bt218.1 bt218.2.1 bt218.2.2.1 bt218.2.2.2.1 bt218.2.2.2.2.1 bt218.2.2.2.2.2.1 bt218.2.2.2.2.2.2.1 bt218.2.2.2.2.2.2.2.1)) else (thrumlaw10_QuantNear.j0 k l0 t216 bt236.1 bt240.1 true bt218.1 bt218.2.1 bt218.2.2.1 bt218.2.2.2.1 bt218.2.2.2.2.1 bt218.2.2.2.2.2.1 bt218.2.2.2.2.2.2.1 bt218.2.2.2.2.2.2.2.1))) else (thrumlaw10_QuantNear.j0 k l0 t216 bt236.1 bt240.1 true bt218.1 bt218.2.1 bt218.2.2.1 bt218.2.2.2.1 bt218.2.2.2.2.1 bt218.2.2.2.2.2.1 bt218.2.2.2.2.2.2.1 bt218.2.2.2.2.2.2.2.1))))) else (some (bt218.2.1 == 0)))) else (some t216))) else (some false)) = some r := H
 have A5 := Aside0.mk A50
 clear A50
 by_cases c6 : t216 = true
 ·
  subst c6
  have H1 : ((thrumlaw10_few.f l0 l3).bind fun t217 => (if t217 = true then ((quant_Press.f k l0 a1 a2 l3).bind fun bt218 => (if bt218.2.2.2.2.2.2.2.2 = 0 then ((quant_Loosen.f k bt218.1 bt218.2.1 bt218.2.2.1 bt218.2.2.2.1 bt218.2.2.2.2.1 bt218.2.2.2.2.2.1 bt218.2.2.2.2.2.2.1 bt218.2.2.2.2.2.2.2.1).bind fun bt236 => ((quant_Steps.f a1).bind fun bt240 => ((quant_Near.f l0 bt218.1 bt218.2.1 bt218.2.2.1 bt218.2.2.2.1 bt218.2.2.2.2.1 bt218.2.2.2.2.2.1 bt218.2.2.2.2.2.2.1 bt218.2.2.2.2.2.2.2.1).bind fun t242 => (if t242 = true then ((frame_May.f bt218.1 bt218.2.1 bt218.2.2.1 bt218.2.2.2.1 bt218.2.2.2.2.1 bt218.2.2.2.2.2.1 bt218.2.2.2.2.2.2.1 bt218.2.2.2.2.2.2.2.1).bind fun t243 => (if t243 = true then (if bt236.2 = 0 then (if bt240.2 = 0 then (thrumlaw10_QuantNear.j0 k l0 true bt236.1 bt240.1 ((bt236.1.length : Int) != (l0.length : Int)) bt218.1 bt218.2.1 bt218.2.2.1 bt218.2.2.2.1 bt218.2.2.2.2.1 bt218.2.2.2.2.2.1 bt218.2.2.2.2.2.2.1 bt218.2.2.2.2.2.2.2.1) else (thrumlaw10_QuantNear.j0 k l0 true bt236.1 bt240.1 true bt218.1 bt218.2.1 bt218.2.2.1 bt218.2.2.2.1 bt218.2.2.2.2.1 bt218.2.2.2.2.2.1 bt218.2.2.2.2.2.2.1 bt218.2.2.2.2.2.2.2.1)) else (thrumlaw10_QuantNear.j0 k l0 true bt236.1 bt240.1 true bt218.1 bt218.2.1 bt218.2.2.1 bt218.2.2.2.1 bt218.2.2.2.2.1 bt218.2.2.2.2.2.1 bt218.2.2.2.2.2.2.1 bt218.2.2.2.2.2.2.2.1)) else (thrumlaw10_QuantNear.j0 k l0 true bt236.1 bt240.1 true bt218.1 bt218.2.1 bt218.2.2.1 bt218.2.2.2.1 bt218.2.2.2.2.1 bt218.2.2.2.2.2.1 bt218.2.2.2.2.2.2.1 bt218.2.2.2.2.2.2.2.1))) else (thrumlaw10_QuantNear.j0 k l0 true bt236.1 bt240.1 true bt218.1 bt218.2.1 bt218.2.2.1 bt218.2.2.2.1 bt218.2.2.2.2.1 bt218.2.2.2.2.2.1 bt218.2.2.2.2.2.2.1 bt218.2.2.2.2.2.2.2.1))))) else (some (bt218.2.1 == 0)))) else (some true))) = some r := by rw [if_pos rfl] at H; exact H
  clear H
  have H := H1
  clear H1
  replace H := Option.bind_eq_some_iff.mp H
  obtain ⟨t217, A70, H⟩ := H
  replace H : (if t217 = true then ((quant_Press.f k l0 a1 a2 l3).bind fun bt218 => (if bt218.2.2.2.2.2.2.2.2 = 0 then ((quant_Loosen.f k bt218.1 bt218.2.1 bt218.2.2.1 bt218.2.2.2.1 bt218.2.2.2.2.1 bt218.2.2.2.2.2.1 bt218.2.2.2.2.2.2.1 bt218.2.2.2.2.2.2.2.1).bind fun bt236 => ((quant_Steps.f a1).bind fun bt240 => ((quant_Near.f l0 bt218.1 bt218.2.1 bt218.2.2.1 bt218.2.2.2.1 bt218.2.2.2.2.1 bt218.2.2.2.2.2.1 bt218.2.2.2.2.2.2.1 bt218.2.2.2.2.2.2.2.1).bind fun t242 => (if t242 = true then ((frame_May.f bt218.1 bt218.2.1 bt218.2.2.1 bt218.2.2.2.1 bt218.2.2.2.2.1 bt218.2.2.2.2.2.1 bt218.2.2.2.2.2.2.1 bt218.2.2.2.2.2.2.2.1).bind fun t243 => (if t243 = true then (if bt236.2 = 0 then (if bt240.2 = 0 then (thrumlaw10_QuantNear.j0 k l0 true bt236.1 bt240.1 ((bt236.1.length : Int) != (l0.length : Int)) bt218.1 bt218.2.1 bt218.2.2.1 bt218.2.2.2.1 bt218.2.2.2.2.1 bt218.2.2.2.2.2.1 bt218.2.2.2.2.2.2.1 bt218.2.2.2.2.2.2.2.1) else (thrumlaw10_QuantNear.j0 k l0 true bt236.1 bt240.1 true bt218.1 bt218.2.1 bt218.2.2.1 bt218.2.2.2.1 bt218.2.2.2.2.1 bt218.2.2.2.2.2.1 bt218.2.2.2.2.2.2.1 bt218.2.2.2.2.2.2.2.1)) else (thrumlaw10_QuantNear.j0 k l0 true bt236.1 bt240.1 true bt218.1 bt218.2.1 bt218.2.2.1 bt218.2.2.2.1 bt218.2.2.2.2.1 bt218.2.2.2.2.2.1 bt218.2.2.2.2.2.2.1 bt218.2.2.2.2.2.2.2.1)) else (thrumlaw10_QuantNear.j0 k l0 true bt236.1 bt240.1 true bt218.1 bt218.2.1 bt218.2.2.1 bt218.2.2.2.1 bt218.2.2.2.2.1 bt218.2.2.2.2.2.1 bt218.2.2.2.2.2.2.1 bt218.2.2.2.2.2.2.2.1))) else (thrumlaw10_QuantNear.j0 k l0 true bt236.1 bt240.1 true bt218.1 bt218.2.1 bt218.2.2.1 bt218.2.2.2.1 bt218.2.2.2.2.1 bt218.2.2.2.2.2.1 bt218.2.2.2.2.2.2.1 bt218.2.2.2.2.2.2.2.1))))) else (some (bt218.2.1 == 0)))) else (some true)) = some r := H
  have A7 := Aside0.mk A70
  clear A70
  by_cases c8 : t217 = true
  ·
   subst c8
   have H1 : ((quant_Press.f k l0 a1 a2 l3).bind fun bt218 => (if bt218.2.2.2.2.2.2.2.2 = 0 then ((quant_Loosen.f k bt218.1 bt218.2.1 bt218.2.2.1 bt218.2.2.2.1 bt218.2.2.2.2.1 bt218.2.2.2.2.2.1 bt218.2.2.2.2.2.2.1 bt218.2.2.2.2.2.2.2.1).bind fun bt236 => ((quant_Steps.f a1).bind fun bt240 => ((quant_Near.f l0 bt218.1 bt218.2.1 bt218.2.2.1 bt218.2.2.2.1 bt218.2.2.2.2.1 bt218.2.2.2.2.2.1 bt218.2.2.2.2.2.2.1 bt218.2.2.2.2.2.2.2.1).bind fun t242 => (if t242 = true then ((frame_May.f bt218.1 bt218.2.1 bt218.2.2.1 bt218.2.2.2.1 bt218.2.2.2.2.1 bt218.2.2.2.2.2.1 bt218.2.2.2.2.2.2.1 bt218.2.2.2.2.2.2.2.1).bind fun t243 => (if t243 = true then (if bt236.2 = 0 then (if bt240.2 = 0 then (thrumlaw10_QuantNear.j0 k l0 true bt236.1 bt240.1 ((bt236.1.length : Int) != (l0.length : Int)) bt218.1 bt218.2.1 bt218.2.2.1 bt218.2.2.2.1 bt218.2.2.2.2.1 bt218.2.2.2.2.2.1 bt218.2.2.2.2.2.2.1 bt218.2.2.2.2.2.2.2.1) else (thrumlaw10_QuantNear.j0 k l0 true bt236.1 bt240.1 true bt218.1 bt218.2.1 bt218.2.2.1 bt218.2.2.2.1 bt218.2.2.2.2.1 bt218.2.2.2.2.2.1 bt218.2.2.2.2.2.2.1 bt218.2.2.2.2.2.2.2.1)) else (thrumlaw10_QuantNear.j0 k l0 true bt236.1 bt240.1 true bt218.1 bt218.2.1 bt218.2.2.1 bt218.2.2.2.1 bt218.2.2.2.2.1 bt218.2.2.2.2.2.1 bt218.2.2.2.2.2.2.1 bt218.2.2.2.2.2.2.2.1)) else (thrumlaw10_QuantNear.j0 k l0 true bt236.1 bt240.1 true bt218.1 bt218.2.1 bt218.2.2.1 bt218.2.2.2.1 bt218.2.2.2.2.1 bt218.2.2.2.2.2.1 bt218.2.2.2.2.2.2.1 bt218.2.2.2.2.2.2.2.1))) else (thrumlaw10_QuantNear.j0 k l0 true bt236.1 bt240.1 true bt218.1 bt218.2.1 bt218.2.2.1 bt218.2.2.2.1 bt218.2.2.2.2.1 bt218.2.2.2.2.2.1 bt218.2.2.2.2.2.2.1 bt218.2.2.2.2.2.2.2.1))))) else (some (bt218.2.1 == 0)))) = some r := by rw [if_pos rfl] at H; exact H
   clear H
   have H := H1
   clear H1
   replace H := Option.bind_eq_some_iff.mp H
   obtain ⟨⟨t218, t219, t220, t223, t226, t227, t228, t231, t234⟩, A90, H⟩ := H
   replace H : (if t234 = 0 then ((quant_Loosen.f k t218 t219 t220 t223 t226 t227 t228 t231).bind fun bt236 => ((quant_Steps.f a1).bind fun bt240 => ((quant_Near.f l0 t218 t219 t220 t223 t226 t227 t228 t231).bind fun t242 => (if t242 = true then ((frame_May.f t218 t219 t220 t223 t226 t227 t228 t231).bind fun t243 => (if t243 = true then (if bt236.2 = 0 then (if bt240.2 = 0 then (thrumlaw10_QuantNear.j0 k l0 true bt236.1 bt240.1 ((bt236.1.length : Int) != (l0.length : Int)) t218 t219 t220 t223 t226 t227 t228 t231) else (thrumlaw10_QuantNear.j0 k l0 true bt236.1 bt240.1 true t218 t219 t220 t223 t226 t227 t228 t231)) else (thrumlaw10_QuantNear.j0 k l0 true bt236.1 bt240.1 true t218 t219 t220 t223 t226 t227 t228 t231)) else (thrumlaw10_QuantNear.j0 k l0 true bt236.1 bt240.1 true t218 t219 t220 t223 t226 t227 t228 t231))) else (thrumlaw10_QuantNear.j0 k l0 true bt236.1 bt240.1 true t218 t219 t220 t223 t226 t227 t228 t231))))) else (some (t219 == 0))) = some r := H
   have A9 := Aside0.mk A90
   clear A90
   by_cases c10 : t234 = 0
   ·
    rw [if_pos c10] at H
    have c10b0 : (t234 == 0) = true := beq_iff_eq.mpr c10
    have c10b1 : (t234 != 0) = false := bne_eq_false_iff_eq.mpr c10
    clear c10
    replace H := Option.bind_eq_some_iff.mp H
    obtain ⟨⟨t236, t239⟩, A110, H⟩ := H
    replace H : ((quant_Steps.f a1).bind fun bt240 => ((quant_Near.f l0 t218 t219 t220 t223 t226 t227 t228 t231).bind fun t242 => (if t242 = true then ((frame_May.f t218 t219 t220 t223 t226 t227 t228 t231).bind fun t243 => (if t243 = true then (if t239 = 0 then (if bt240.2 = 0 then (thrumlaw10_QuantNear.j0 k l0 true t236 bt240.1 ((t236.length : Int) != (l0.length : Int)) t218 t219 t220 t223 t226 t227 t228 t231) else (thrumlaw10_QuantNear.j0 k l0 true t236 bt240.1 true t218 t219 t220 t223 t226 t227 t228 t231)) else (thrumlaw10_QuantNear.j0 k l0 true t236 bt240.1 true t218 t219 t220 t223 t226 t227 t228 t231)) else (thrumlaw10_QuantNear.j0 k l0 true t236 bt240.1 true t218 t219 t220 t223 t226 t227 t228 t231))) else (thrumlaw10_QuantNear.j0 k l0 true t236 bt240.1 true t218 t219 t220 t223 t226 t227 t228 t231)))) = some r := H
    have A11 := Aside0.mk A110
    clear A110
    replace H := Option.bind_eq_some_iff.mp H
    obtain ⟨⟨t240, t241⟩, A120, H⟩ := H
    replace H : ((quant_Near.f l0 t218 t219 t220 t223 t226 t227 t228 t231).bind fun t242 => (if t242 = true then ((frame_May.f t218 t219 t220 t223 t226 t227 t228 t231).bind fun t243 => (if t243 = true then (if t239 = 0 then (if t241 = 0 then (thrumlaw10_QuantNear.j0 k l0 true t236 t240 ((t236.length : Int) != (l0.length : Int)) t218 t219 t220 t223 t226 t227 t228 t231) else (thrumlaw10_QuantNear.j0 k l0 true t236 t240 true t218 t219 t220 t223 t226 t227 t228 t231)) else (thrumlaw10_QuantNear.j0 k l0 true t236 t240 true t218 t219 t220 t223 t226 t227 t228 t231)) else (thrumlaw10_QuantNear.j0 k l0 true t236 t240 true t218 t219 t220 t223 t226 t227 t228 t231))) else (thrumlaw10_QuantNear.j0 k l0 true t236 t240 true t218 t219 t220 t223 t226 t227 t228 t231))) = some r := H
    have A12 := Aside0.mk A120
    clear A120
    have HC13 := Aside0.mk H
    clear H
    go_enter Try.func13, Try.ntmps13
    go_upto_region 11 with (first | ((with_reducible refine gate_callee (f := 44) rfl ?_); refine goesL_ (some 19) rfl rfl Try.func44 (by kernel_rfl) rfl #[] rfl (by (try simp only [List.map_toArray, List.map_cons, List.map_nil]); first | done | rfl | (simp only [List.length_drop, List.length_take]; rfl)) ?_; (with_reducible refine (thrumlaw10_live.calls  true _ A5.out).mono ?_); rintro e w14 ⟨rfl, hb⟩; refine ⟨_, rfl, ?_⟩; have n0_ := Aside0.mk (zzT (by repeat (first | (with_reducible first | exact HB.out | apply zzA | apply zzN | apply zzD) | exact HB.out)) hb); clear HB; have HB := n0_; clear n0_; (try clear hb); (try clear hb2); (try clear hk); (try clear hi)) | ((with_reducible refine gate_callee (f := 45) rfl ?_); refine goesL_ (some 24) rfl rfl Try.func45 (by kernel_rfl) rfl #[.slice A0 l0.length c0, .slice A3 l3.length c3] rfl (by (try simp only [List.map_toArray, List.map_cons, List.map_nil]); first | done | rfl | (simp only [List.length_drop, List.length_take]; rfl)) ?_; (with_reducible refine (thrumlaw10_few.calls _ _ l0 _ _ l3 true _ ?side1 ?side2 ?side3 ?side4 A7.out).mono ?_); (case side1 => repeat (first | exact (Kd.C_below HR0.out HB.out) | (with_reducible refine ccA ?_ _) | (with_reducible refine ccN ?_ _) | (with_reducible refine ccD ?_))); (case side2 => exact HC0.out); (case side3 => repeat (first | exact (Kd.C_below HR3.out HB.out) | (with_reducible refine ccA ?_ _) | (with_reducible refine ccN ?_ _) | (with_reducible refine ccD ?_))); (case side4 => exact HC3.out); rintro e w' ⟨rfl, ⟨nd, rfl⟩⟩; refine ⟨_, rfl, ?_⟩; (try (rw [drewN_self w14]; generalize hq_ : World.drewN w14 _ = w14; have n0_ : Aside0 (Below w.heap.size w w14) := ⟨by rw [← hq_]; exact (by repeat (first | (with_reducible first | exact HB.out | apply zzA | apply zzN | apply zzD) | exact HB.out))⟩; clear HB hq_; have HB := n0_; clear n0_))) | ((with_reducible refine gate_callee (f := 46) rfl ?_); refine goesL_ (some 32) rfl rfl Try.func46 (by kernel_rfl) rfl #[.slice A0 l0.length c0, .int .i64 a1, .int .u64 a2, .slice A3 l3.length c3] rfl (by (try simp only [List.map_toArray, List.map_cons, List.map_nil]); first | done | rfl | (simp only [List.length_drop, List.length_take]; rfl)) ?_; (with_reducible refine (quant_Press.calls k _ _ l0 a1 a2 _ _ l3 t218 t219 t220 t223 t226 t227 t228 t231 t234 _ ?side1 ?side2 ?side3 ?side4 A9.out).mono ?_); (case side1 => repeat (first | exact (Kd.C_below HR0.out HB.out) | (with_reducible refine ccA ?_ _) | (with_reducible refine ccN ?_ _) | (with_reducible refine ccD ?_))); (case side2 => exact HC0.out); (case side3 => repeat (first | exact (Kd.C_below HR3.out HB.out) | (with_reducible refine ccA ?_ _) | (with_reducible refine ccN ?_ _) | (with_reducible refine ccD ?_))); (case side4 => exact HC3.out); rintro e w15 ⟨v221, v224, v229, v232, rfl, ho0, ho1, ho2, ho3, hb⟩; refine ⟨_, rfl, ?_⟩; have n0_ := Aside0.mk (Kd.R_lower ho0 (zzS (by repeat (first | (with_reducible first | exact HB.out | apply zzA | apply zzN | apply zzD) | exact HB.out)))); have n1_ := Aside0.mk (Kd.R_lower ho1 (zzS (by repeat (first | (with_reducible first | exact HB.out | apply zzA | apply zzN | apply zzD) | exact HB.out)))); have n2_ := Aside0.mk (Kd.R_lower ho2 (zzS (by repeat (first | (with_reducible first | exact HB.out | apply zzA | apply zzN | apply zzD) | exact HB.out)))); have n3_ := Aside0.mk (Kd.R_lower ho3 (zzS (by repeat (first | (with_reducible first | exact HB.out | apply zzA | apply zzN | apply zzD) | exact HB.out)))); have n4_ := Aside0.mk (zzT (by repeat (first | (with_reducible first | exact HB.out | apply zzA | apply zzN | apply zzD) | exact HB.out)) hb); clear HB; have HO222 := n0_; have HO225 := n1_; have HO230 := n2_; have HO233 := n3_; have HB := n4_; clear n0_ n1_ n2_ n3_ n4_; (try clear hb); (try clear hb2); (try clear hk); (try clear hi); (try clear ho0); (try clear ho1); (try clear ho2); (try clear ho3)) | ((with_reducible refine gate_dst (N := 10) rfl ?_); (try (refine gate_guard (by rfl) ?_; dsimp only)); refine box_event ?hg (N := 10) ?hd (cs := #[.int .i64 0, .int .i64 0, .slice none 0 0, .slice none 0 0, .int .i64 0, .int .i64 0, .slice none 0 0, .slice none 0 0]) (t := 30) ?hr ?_; (case hd => rfl); (case hg => rfl); (case hr => first | (go_simp; done) | (go_simp; rfl)); intro gb235 hg w16 hbox hb; have n0_ := Aside0.mk (Kd.R_below (by (with_reducible repeat (first | apply rrA | apply rrN | apply rrD)); exact HO222.out) hb); have n1_ := Aside0.mk (Kd.R_below (by (with_reducible repeat (first | apply rrA | apply rrN | apply rrD)); exact HO225.out) hb); have n2_ := Aside0.mk (Kd.R_below (by (with_reducible repeat (first | apply rrA | apply rrN | apply rrD)); exact HO230.out) hb); have n3_ := Aside0.mk (Kd.R_below (by (with_reducible repeat (first | apply rrA | apply rrN | apply rrD)); exact HO233.out) hb); have n4_ := Aside0.mk (zzT (by repeat (first | (with_reducible first | exact HB.out | apply zzA | apply zzN | apply zzD) | exact HB.out)) hb); have n5_ := Aside0.mk (hbox); have n6_ := Aside0.mk ((by rw [hg]; exact (zzS (by repeat (first | (with_reducible first | exact HB.out | apply zzA | apply zzN | apply zzD) | exact HB.out))) : w.heap.size ≤ gb235)); have n7_ := Aside0.mk ((by rw [hg]; exact (zzS (by repeat (first | (with_reducible first | exact HB.out | apply zzA | apply zzN | apply zzD) | exact HB.out))) : w.heap.size ≤ gb235)); clear HO222; clear HO225; clear HO230; clear HO233; clear HB; have HO222 := n0_; have HO225 := n1_; have HO230 := n2_; have HO233 := n3_; have HB := n4_; have BK235 := n5_; have GW235 := n6_; have GE235 := n7_; clear n0_ n1_ n2_ n3_ n4_ n5_ n6_ n7_; clear hb hbox hg; have hcz17_0 : w16.cell? ⟨gb235, 0, none⟩ = some (.int .i64 0) := (blk_cell BK235.out 0).trans rfl; have hcz17_1 : w16.cell? ⟨gb235, 1, none⟩ = some (.int .i64 0) := (blk_cell BK235.out 1).trans rfl; have hcz17_2 : w16.cell? ⟨gb235, 2, none⟩ = some (.slice none 0 0) := (blk_cell BK235.out 2).trans rfl; have hcz17_3 : w16.cell? ⟨gb235, 3, none⟩ = some (.slice none 0 0) := (blk_cell BK235.out 3).trans rfl; have hcz17_4 : w16.cell? ⟨gb235, 4, none⟩ = some (.int .i64 0) := (blk_cell BK235.out 4).trans rfl; have hcz17_5 : w16.cell? ⟨gb235, 5, none⟩ = some (.int .i64 0) := (blk_cell BK235.out 5).trans rfl; have hcz17_6 : w16.cell? ⟨gb235, 6, none⟩ = some (.slice none 0 0) := (blk_cell BK235.out 6).trans rfl; have hcz17_7 : w16.cell? ⟨gb235, 7, none⟩ = some (.slice none 0 0) := (blk_cell BK235.out 7).trans rfl; have hfz17_0 := blk_frozen BK235.out 0; have hfz17_1 := blk_frozen BK235.out 1; have hfz17_2 := blk_frozen BK235.out 2; have hfz17_3 := blk_frozen BK235.out 3; have hfz17_4 := blk_frozen BK235.out 4; have hfz17_5 := blk_frozen BK235.out 5; have hfz17_6 := blk_frozen BK235.out 6; have hfz17_7 := blk_frozen BK235.out 7; obtain ⟨Ao18, co18, eo18⟩ := Kd.R_slice HO222.out; subst eo18; obtain ⟨Ao19, co19, eo19⟩ := Kd.R_slice HO225.out; subst eo19; obtain ⟨Ao20, co20, eo20⟩ := Kd.R_slice HO230.out; subst eo20; obtain ⟨Ao21, co21, eo21⟩ := Kd.R_slice HO233.out; subst eo21) | ((with_reducible refine gate_callee (f := 55) rfl ?_); refine goesL_ (some 45) rfl rfl Try.func55 (by kernel_rfl) rfl #[.agg #[.int .i64 t218, .int .i64 t219, .slice Ao18 t220.length co18, .slice Ao19 t223.length co19, .int .i64 t226, .int .i64 t227, .slice Ao20 t228.length co20, .slice Ao21 t231.length co21]] rfl (by (try simp only [List.map_toArray, List.map_cons, List.map_nil]); first | done | rfl | (simp only [List.length_drop, List.length_take]; rfl)) ?_; (with_reducible refine (quant_Loosen.calls k t218 t219 _ _ t220 _ _ t223 t226 t227 _ _ t228 _ _ t231 t236 t239 _ ?side1 ?side2 ?side3 ?side4 ?side5 ?side6 ?side7 ?side8 A11.out).mono ?_); (case side1 => refine (Kd.R_reads' (e := 3) (base := w.heap.size) (ok := fun k_ => True) (n := t220.length) (c := co18) ?_).2.2; exact (by (with_reducible repeat (first | apply rrA | apply rrN | apply rrD)); exact (Kd.R_mono (Kd.R_far (p := ⟨gb235, 7, none⟩) (Kd.R_far (p := ⟨gb235, 6, none⟩) (Kd.R_far (p := ⟨gb235, 5, none⟩) (Kd.R_far (p := ⟨gb235, 4, none⟩) (Kd.R_far (p := ⟨gb235, 3, none⟩) (Kd.R_far (p := ⟨gb235, 2, none⟩) (Kd.R_far (p := ⟨gb235, 1, none⟩) (Kd.R_far (p := ⟨gb235, 0, none⟩) (Kd.R_types HO222.out BK235.out (by decide)) (fun _ hk => hk.2) (.int .i64 t218)) (fun _ hk => hk.2) (.int .i64 t219)) (fun _ hk => hk.2) (.slice Ao18 t220.length co18)) (fun _ hk => hk.2) (.slice Ao19 t223.length co19)) (fun _ hk => hk.2) (.int .i64 t226)) (fun _ hk => hk.2) (.int .i64 t227)) (fun _ hk => hk.2) (.slice Ao20 t228.length co20)) (fun _ hk => hk.2) (.slice Ao21 t231.length co21)) (fun _ h_ => h_.1)))); (case side2 => exact (Kd.R_reads' HO222.out).2.1); (case side3 => refine (Kd.R_reads' (e := 2) (base := w.heap.size) (ok := fun k_ => True) (n := t223.length) (c := co19) ?_).2.2; exact (by (with_reducible repeat (first | apply rrA | apply rrN | apply rrD)); exact (Kd.R_mono (Kd.R_far (p := ⟨gb235, 7, none⟩) (Kd.R_far (p := ⟨gb235, 6, none⟩) (Kd.R_far (p := ⟨gb235, 5, none⟩) (Kd.R_far (p := ⟨gb235, 4, none⟩) (Kd.R_far (p := ⟨gb235, 3, none⟩) (Kd.R_far (p := ⟨gb235, 2, none⟩) (Kd.R_far (p := ⟨gb235, 1, none⟩) (Kd.R_far (p := ⟨gb235, 0, none⟩) (Kd.R_types HO225.out BK235.out (by decide)) (fun _ hk => hk.2) (.int .i64 t218)) (fun _ hk => hk.2) (.int .i64 t219)) (fun _ hk => hk.2) (.slice Ao18 t220.length co18)) (fun _ hk => hk.2) (.slice Ao19 t223.length co19)) (fun _ hk => hk.2) (.int .i64 t226)) (fun _ hk => hk.2) (.int .i64 t227)) (fun _ hk => hk.2) (.slice Ao20 t228.length co20)) (fun _ hk => hk.2) (.slice Ao21 t231.length co21)) (fun _ h_ => h_.1)))); (case side4 => exact (Kd.R_reads' HO225.out).2.1); (case side5 => refine (Kd.R_reads' (e := 64) (base := w.heap.size) (ok := fun k_ => True) (n := t228.length) (c := co20) ?_).2.2; exact (by (with_reducible repeat (first | apply rrA | apply rrN | apply rrD)); exact (Kd.R_mono (Kd.R_far (p := ⟨gb235, 7, none⟩) (Kd.R_far (p := ⟨gb235, 6, none⟩) (Kd.R_far (p := ⟨gb235, 5, none⟩) (Kd.R_far (p := ⟨gb235, 4, none⟩) (Kd.R_far (p := ⟨gb235, 3, none⟩) (Kd.R_far (p := ⟨gb235, 2, none⟩) (Kd.R_far (p := ⟨gb235, 1, none⟩) (Kd.R_far (p := ⟨gb235, 0, none⟩) (Kd.R_types HO230.out BK235.out (by decide)) (fun _ hk => hk.2) (.int .i64 t218)) (fun _ hk => hk.2) (.int .i64 t219)) (fun _ hk => hk.2) (.slice Ao18 t220.length co18)) (fun _ hk => hk.2) (.slice Ao19 t223.length co19)) (fun _ hk => hk.2) (.int .i64 t226)) (fun _ hk => hk.2) (.int .i64 t227)) (fun _ hk => hk.2) (.slice Ao20 t228.length co20)) (fun _ hk => hk.2) (.slice Ao21 t231.length co21)) (fun _ h_ => h_.1)))); (case side6 => exact (Kd.R_reads' HO230.out).2.1); (case side7 => refine (Kd.R_reads' (e := 4) (base := w.heap.size) (ok := fun k_ => True) (n := t231.length) (c := co21) ?_).2.2; exact (by (with_reducible repeat (first | apply rrA | apply rrN | apply rrD)); exact (Kd.R_mono (Kd.R_far (p := ⟨gb235, 7, none⟩) (Kd.R_far (p := ⟨gb235, 6, none⟩) (Kd.R_far (p := ⟨gb235, 5, none⟩) (Kd.R_far (p := ⟨gb235, 4, none⟩) (Kd.R_far (p := ⟨gb235, 3, none⟩) (Kd.R_far (p := ⟨gb235, 2, none⟩) (Kd.R_far (p := ⟨gb235, 1, none⟩) (Kd.R_far (p := ⟨gb235, 0, none⟩) (Kd.R_types HO233.out BK235.out (by decide)) (fun _ hk => hk.2) (.int .i64 t218)) (fun _ hk => hk.2) (.int .i64 t219)) (fun _ hk => hk.2) (.slice Ao18 t220.length co18)) (fun _ hk => hk.2) (.slice Ao19 t223.length co19)) (fun _ hk => hk.2) (.int .i64 t226)) (fun _ hk => hk.2) (.int .i64 t227)) (fun _ hk => hk.2) (.slice Ao20 t228.length co20)) (fun _ hk => hk.2) (.slice Ao21 t231.length co21)) (fun _ h_ => h_.1)))); (case side8 => exact (Kd.R_reads' HO233.out).2.1); rintro e w22 ⟨v237, rfl, ho0, hb⟩; refine ⟨_, rfl, ?_⟩; have n0_ := Aside0.mk (Kd.R_below (by (with_reducible repeat (first | apply rrA | apply rrN | apply rrD)); exact (Kd.R_mono (Kd.R_far (p := ⟨gb235, 7, none⟩) (Kd.R_far (p := ⟨gb235, 6, none⟩) (Kd.R_far (p := ⟨gb235, 5, none⟩) (Kd.R_far (p := ⟨gb235, 4, none⟩) (Kd.R_far (p := ⟨gb235, 3, none⟩) (Kd.R_far (p := ⟨gb235, 2, none⟩) (Kd.R_far (p := ⟨gb235, 1, none⟩) (Kd.R_far (p := ⟨gb235, 0, none⟩) (Kd.R_types HO222.out BK235.out (by decide)) (fun _ hk => hk.2) (.int .i64 t218)) (fun _ hk => hk.2) (.int .i64 t219)) (fun _ hk => hk.2) (.slice Ao18 t220.length co18)) (fun _ hk => hk.2) (.slice Ao19 t223.length co19)) (fun _ hk => hk.2) (.int .i64 t226)) (fun _ hk => hk.2) (.int .i64 t227)) (fun _ hk => hk.2) (.slice Ao20 t228.length co20)) (fun _ hk => hk.2) (.slice Ao21 t231.length co21)) (fun _ h_ => h_.1))) hb); have n1_ := Aside0.mk (Kd.R_elder' (by (with_reducible repeat (first | apply rrA | apply rrN | apply rrD)); exact (Kd.R_mono (Kd.R_far (p := ⟨gb235, 7, none⟩) (Kd.R_far (p := ⟨gb235, 6, none⟩) (Kd.R_far (p := ⟨gb235, 5, none⟩) (Kd.R_far (p := ⟨gb235, 4, none⟩) (Kd.R_far (p := ⟨gb235, 3, none⟩) (Kd.R_far (p := ⟨gb235, 2, none⟩) (Kd.R_far (p := ⟨gb235, 1, none⟩) (Kd.R_far (p := ⟨gb235, 0, none⟩) (Kd.R_types HO225.out BK235.out (by decide)) (fun _ hk => hk.2) (.int .i64 t218)) (fun _ hk => hk.2) (.int .i64 t219)) (fun _ hk => hk.2) (.slice Ao18 t220.length co18)) (fun _ hk => hk.2) (.slice Ao19 t223.length co19)) (fun _ hk => hk.2) (.int .i64 t226)) (fun _ hk => hk.2) (.int .i64 t227)) (fun _ hk => hk.2) (.slice Ao20 t228.length co20)) (fun _ hk => hk.2) (.slice Ao21 t231.length co21)) (fun _ h_ => h_.1))) (Kd.R_base ho0) hb); have n2_ := Aside0.mk (Kd.R_below (by (with_reducible repeat (first | apply rrA | apply rrN | apply rrD)); exact (Kd.R_mono (Kd.R_far (p := ⟨gb235, 7, none⟩) (Kd.R_far (p := ⟨gb235, 6, none⟩) (Kd.R_far (p := ⟨gb235, 5, none⟩) (Kd.R_far (p := ⟨gb235, 4, none⟩) (Kd.R_far (p := ⟨gb235, 3, none⟩) (Kd.R_far (p := ⟨gb235, 2, none⟩) (Kd.R_far (p := ⟨gb235, 1, none⟩) (Kd.R_far (p := ⟨gb235, 0, none⟩) (Kd.R_types HO230.out BK235.out (by decide)) (fun _ hk => hk.2) (.int .i64 t218)) (fun _ hk => hk.2) (.int .i64 t219)) (fun _ hk => hk.2) (.slice Ao18 t220.length co18)) (fun _ hk => hk.2) (.slice Ao19 t223.length co19)) (fun _ hk => hk.2) (.int .i64 t226)) (fun _ hk => hk.2) (.int .i64 t227)) (fun _ hk => hk.2) (.slice Ao20 t228.length co20)) (fun _ hk => hk.2) (.slice Ao21 t231.length co21)) (fun _ h_ => h_.1))) hb); have n3_ := Aside0.mk (Kd.R_below (by (with_reducible repeat (first | apply rrA | apply rrN | apply rrD)); exact (Kd.R_mono (Kd.R_far (p := ⟨gb235, 7, none⟩) (Kd.R_far (p := ⟨gb235, 6, none⟩) (Kd.R_far (p := ⟨gb235, 5, none⟩) (Kd.R_far (p := ⟨gb235, 4, none⟩) (Kd.R_far (p := ⟨gb235, 3, none⟩) (Kd.R_far (p := ⟨gb235, 2, none⟩) (Kd.R_far (p := ⟨gb235, 1, none⟩) (Kd.R_far (p := ⟨gb235, 0, none⟩) (Kd.R_types HO233.out BK235.out (by decide)) (fun _ hk => hk.2) (.int .i64 t218)) (fun _ hk => hk.2) (.int .i64 t219)) (fun _ hk => hk.2) (.slice Ao18 t220.length co18)) (fun _ hk => hk.2) (.slice Ao19 t223.length co19)) (fun _ hk => hk.2) (.int .i64 t226)) (fun _ hk => hk.2) (.int .i64 t227)) (fun _ hk => hk.2) (.slice Ao20 t228.length co20)) (fun _ hk => hk.2) (.slice Ao21 t231.length co21)) (fun _ h_ => h_.1))) hb); have n4_ := Aside0.mk (Kd.R_lower (Kd.R_new' ho0 (Kd.R_lt (by (with_reducible repeat (first | apply rrA | apply rrN | apply rrD)); exact (Kd.R_mono (Kd.R_far (p := ⟨gb235, 7, none⟩) (Kd.R_far (p := ⟨gb235, 6, none⟩) (Kd.R_far (p := ⟨gb235, 5, none⟩) (Kd.R_far (p := ⟨gb235, 4, none⟩) (Kd.R_far (p := ⟨gb235, 3, none⟩) (Kd.R_far (p := ⟨gb235, 2, none⟩) (Kd.R_far (p := ⟨gb235, 1, none⟩) (Kd.R_far (p := ⟨gb235, 0, none⟩) (Kd.R_types HO225.out BK235.out (by decide)) (fun _ hk => hk.2) (.int .i64 t218)) (fun _ hk => hk.2) (.int .i64 t219)) (fun _ hk => hk.2) (.slice Ao18 t220.length co18)) (fun _ hk => hk.2) (.slice Ao19 t223.length co19)) (fun _ hk => hk.2) (.int .i64 t226)) (fun _ hk => hk.2) (.int .i64 t227)) (fun _ hk => hk.2) (.slice Ao20 t228.length co20)) (fun _ hk => hk.2) (.slice Ao21 t231.length co21)) (fun _ h_ => h_.1))))) (zzS (by repeat (first | (with_reducible first | exact HB.out | apply zzA | apply zzN | apply zzD | refine below_set ?_ GE235.out) | exact HB.out)))); have n5_ := Aside0.mk (blk_below (g := gb235) (o := .cells #[.int .i64 t218, .int .i64 t219, .slice Ao18 t220.length co18, .slice Ao19 t223.length co19, .int .i64 t226, .int .i64 t227, .slice Ao20 t228.length co20, .slice Ao21 t231.length co21] 30 (0, 0)) (by (with_reducible repeat (first | refine kkN ?_ _ | refine kkD ?_ | refine kkA ?_ _)); refine blk_put (cs := #[.int .i64 t218, .int .i64 t219, .slice Ao18 t220.length co18, .slice Ao19 t223.length co19, .int .i64 t226, .int .i64 t227, .slice Ao20 t228.length co20, .slice none 0 0]) ?_ 7 _ rfl; (with_reducible repeat (first | refine kkN ?_ _ | refine kkD ?_ | refine kkA ?_ _)); refine blk_put (cs := #[.int .i64 t218, .int .i64 t219, .slice Ao18 t220.length co18, .slice Ao19 t223.length co19, .int .i64 t226, .int .i64 t227, .slice none 0 0, .slice none 0 0]) ?_ 6 _ rfl; (with_reducible repeat (first | refine kkN ?_ _ | refine kkD ?_ | refine kkA ?_ _)); refine blk_put (cs := #[.int .i64 t218, .int .i64 t219, .slice Ao18 t220.length co18, .slice Ao19 t223.length co19, .int .i64 t226, .int .i64 0, .slice none 0 0, .slice none 0 0]) ?_ 5 _ rfl; (with_reducible repeat (first | refine kkN ?_ _ | refine kkD ?_ | refine kkA ?_ _)); refine blk_put (cs := #[.int .i64 t218, .int .i64 t219, .slice Ao18 t220.length co18, .slice Ao19 t223.length co19, .int .i64 0, .int .i64 0, .slice none 0 0, .slice none 0 0]) ?_ 4 _ rfl; (with_reducible repeat (first | refine kkN ?_ _ | refine kkD ?_ | refine kkA ?_ _)); refine blk_put (cs := #[.int .i64 t218, .int .i64 t219, .slice Ao18 t220.length co18, .slice none 0 0, .int .i64 0, .int .i64 0, .slice none 0 0, .slice none 0 0]) ?_ 3 _ rfl; (with_reducible repeat (first | refine kkN ?_ _ | refine kkD ?_ | refine kkA ?_ _)); refine blk_put (cs := #[.int .i64 t218, .int .i64 t219, .slice none 0 0, .slice none 0 0, .int .i64 0, .int .i64 0, .slice none 0 0, .slice none 0 0]) ?_ 2 _ rfl; (with_reducible repeat (first | refine kkN ?_ _ | refine kkD ?_ | refine kkA ?_ _)); refine blk_put (cs := #[.int .i64 t218, .int .i64 0, .slice none 0 0, .slice none 0 0, .int .i64 0, .int .i64 0, .slice none 0 0, .slice none 0 0]) ?_ 1 _ rfl; (with_reducible repeat (first | refine kkN ?_ _ | refine kkD ?_ | refine kkA ?_ _)); refine blk_put (cs := #[.int .i64 0, .int .i64 0, .slice none 0 0, .slice none 0 0, .int .i64 0, .int .i64 0, .slice none 0 0, .slice none 0 0]) ?_ 0 _ rfl; (with_reducible repeat (first | refine kkN ?_ _ | refine kkD ?_ | refine kkA ?_ _)); exact BK235.out) hb); have n6_ := Aside0.mk (zzT (by repeat (first | (with_reducible first | exact HB.out | apply zzA | apply zzN | apply zzD | refine below_set ?_ GE235.out) | exact HB.out)) hb); clear HO222; clear HO225; clear HO230; clear HO233; clear BK235; clear HB; have HO222 := n0_; have HO225 := n1_; have HO230 := n2_; have HO233 := n3_; have HO238 := n4_; have BK235 := n5_; have HB := n6_; clear n0_ n1_ n2_ n3_ n4_ n5_ n6_; (try clear hb); (try clear hb2); (try clear hk); (try clear hi); (try clear ho0)) | ((with_reducible refine gate_callee (f := 51) rfl ?_); refine goesL_ (some 50) rfl rfl Try.func51 (by kernel_rfl) rfl #[.int .i64 a1] rfl (by (try simp only [List.map_toArray, List.map_cons, List.map_nil]); first | done | rfl | (simp only [List.length_drop, List.length_take]; rfl)) ?_; (with_reducible refine (quant_Steps.calls a1 t240 t241 _ A12.out).mono ?_); rintro e w' ⟨rfl, ⟨nd, rfl⟩⟩; refine ⟨_, rfl, ?_⟩))
    (try simp only [Act.put, List.setIfInBounds_toArray, List.set_cons_zero, List.set_cons_succ])
    go_cut [76] (fun v76 wc => ∃ (kq : Nat) (x76_12 : Bool), v76 = .bool x76_12 ∧ Aside0 (thrumlaw10_QuantNear.j0 kq l0 true t236 t240 x76_12 t218 t219 t220 t223 t226 t227 t228 t231 = some r) ∧ Aside0 (kq ≤ k) ∧ Aside0 (Kd.R (Kd.int .i64) 2 wc w.heap.size (fun k_ => some k_ ≠ ((.slice Ao19 t223.length co19) : Value).ownBlock) v237 t236) ∧ Aside0 (Kd.R (Kd.int .i64) 3 wc w.heap.size (fun _ => True) (.slice Ao18 t220.length co18) t220) ∧ Aside0 (Kd.R (Kd.int .i64) 2 wc w.heap.size (fun k_ => some k_ ≠ (v237 : Value).ownBlock) (.slice Ao19 t223.length co19) t223) ∧ Aside0 (Kd.R (Kd.int .u64) 64 wc w.heap.size (fun _ => True) (.slice Ao20 t228.length co20) t228) ∧ Aside0 (Kd.R Kd.bool 4 wc w.heap.size (fun _ => True) (.slice Ao21 t231.length co21) t231) ∧ Aside0 (wc.heap[gb235]? = some (.cells #[.int .i64 t218, .int .i64 t219, (.slice Ao18 t220.length co18), (.slice Ao19 t223.length co19), .int .i64 t226, .int .i64 t227, (.slice Ao20 t228.length co20), (.slice Ao21 t231.length co21)] 30 (0, 0))) ∧ Aside0 (Below w.heap.size w wc))
    case first =>
     have H := HC13.out
     clear HC13
     replace H := Option.bind_eq_some_iff.mp H
     obtain ⟨t242, A230, H⟩ := H
     replace H : (if t242 = true then ((frame_May.f t218 t219 t220 t223 t226 t227 t228 t231).bind fun t243 => (if t243 = true then (if t239 = 0 then (if t241 = 0 then (thrumlaw10_QuantNear.j0 k l0 true t236 t240 ((t236.length : Int) != (l0.length : Int)) t218 t219 t220 t223 t226 t227 t228 t231) else (thrumlaw10_QuantNear.j0 k l0 true t236 t240 true t218 t219 t220 t223 t226 t227 t228 t231)) else (thrumlaw10_QuantNear.j0 k l0 true t236 t240 true t218 t219 t220 t223 t226 t227 t228 t231)) else (thrumlaw10_QuantNear.j0 k l0 true t236 t240 true t218 t219 t220 t223 t226 t227 t228 t231))) else (thrumlaw10_QuantNear.j0 k l0 true t236 t240 true t218 t219 t220 t223 t226 t227 t228 t231)) = some r := H
     have A23 := Aside0.mk A230
     clear A230
     by_cases c24 : t242 = true
     ·
      subst c24
      have H1 : ((frame_May.f t218 t219 t220 t223 t226 t227 t228 t231).bind fun t243 => (if t243 = true then (if t239 = 0 then (if t241 = 0 then (thrumlaw10_QuantNear.j0 k l0 true t236 t240 ((t236.length : Int) != (l0.length : Int)) t218 t219 t220 t223 t226 t227 t228 t231) else (thrumlaw10_QuantNear.j0 k l0 true t236 t240 true t218 t219 t220 t223 t226 t227 t228 t231)) else (thrumlaw10_QuantNear.j0 k l0 true t236 t240 true t218 t219 t220 t223 t226 t227 t228 t231)) else (thrumlaw10_QuantNear.j0 k l0 true t236 t240 true t218 t219 t220 t223 t226 t227 t228 t231))) = some r := by rw [if_pos rfl] at H; exact H
      clear H
      have H := H1
      clear H1
      replace H := Option.bind_eq_some_iff.mp H
      obtain ⟨t243, A250, H⟩ := H
      replace H : (if t243 = true then (if t239 = 0 then (if t241 = 0 then (thrumlaw10_QuantNear.j0 k l0 true t236 t240 ((t236.length : Int) != (l0.length : Int)) t218 t219 t220 t223 t226 t227 t228 t231) else (thrumlaw10_QuantNear.j0 k l0 true t236 t240 true t218 t219 t220 t223 t226 t227 t228 t231)) else (thrumlaw10_QuantNear.j0 k l0 true t236 t240 true t218 t219 t220 t223 t226 t227 t228 t231)) else (thrumlaw10_QuantNear.j0 k l0 true t236 t240 true t218 t219 t220 t223 t226 t227 t228 t231)) = some r := H
      have A25 := Aside0.mk A250
      clear A250
      by_cases c26 : t243 = true
      ·
       subst c26
       have H1 : (if t239 = 0 then (if t241 = 0 then (thrumlaw10_QuantNear.j0 k l0 true t236 t240 ((t236.length : Int) != (l0.length : Int)) t218 t219 t220 t223 t226 t227 t228 t231) else (thrumlaw10_QuantNear.j0 k l0 true t236 t240 true t218 t219 t220 t223 t226 t227 t228 t231)) else (thrumlaw10_QuantNear.j0 k l0 true t236 t240 true t218 t219 t220 t223 t226 t227 t228 t231)) = some r := by rw [if_pos rfl] at H; exact H
       clear H
       have H := H1
       clear H1
       by_cases c27 : t239 = 0
       ·
        rw [if_pos c27] at H
        have c27b0 : (t239 == 0) = true := beq_iff_eq.mpr c27
        have c27b1 : (t239 != 0) = false := bne_eq_false_iff_eq.mpr c27
        clear c27
        (first | rw [c27b0] | (simp only [i64_w, i32_w]; rw [c27b0]) | skip)
        by_cases c28 : t241 = 0
        ·
         rw [if_pos c28] at H
         have c28b0 : (t241 == 0) = true := beq_iff_eq.mpr c28
         have c28b1 : (t241 != 0) = false := bne_eq_false_iff_eq.mpr c28
         clear c28
         focus
          have H' := Aside0.mk H
          clear H
          have hcz29_0 : w22.cell? ⟨gb235, 0, none⟩ = some (.int .i64 t218) := (blk_cell BK235.out 0).trans rfl
          have hcz29_1 : w22.cell? ⟨gb235, 1, none⟩ = some (.int .i64 t219) := (blk_cell BK235.out 1).trans rfl
          have hcz29_2 : w22.cell? ⟨gb235, 2, none⟩ = some (.slice Ao18 t220.length co18) := (blk_cell BK235.out 2).trans rfl
          have hcz29_3 : w22.cell? ⟨gb235, 3, none⟩ = some (.slice Ao19 t223.length co19) := (blk_cell BK235.out 3).trans rfl
          have hcz29_4 : w22.cell? ⟨gb235, 4, none⟩ = some (.int .i64 t226) := (blk_cell BK235.out 4).trans rfl
          have hcz29_5 : w22.cell? ⟨gb235, 5, none⟩ = some (.int .i64 t227) := (blk_cell BK235.out 5).trans rfl
          have hcz29_6 : w22.cell? ⟨gb235, 6, none⟩ = some (.slice Ao20 t228.length co20) := (blk_cell BK235.out 6).trans rfl
          have hcz29_7 : w22.cell? ⟨gb235, 7, none⟩ = some (.slice Ao21 t231.length co21) := (blk_cell BK235.out 7).trans rfl
          have hfz29_0 := blk_frozen BK235.out 0
          have hfz29_1 := blk_frozen BK235.out 1
          have hfz29_2 := blk_frozen BK235.out 2
          have hfz29_3 := blk_frozen BK235.out 3
          have hfz29_4 := blk_frozen BK235.out 4
          have hfz29_5 := blk_frozen BK235.out 5
          have hfz29_6 := blk_frozen BK235.out 6
          have hfz29_7 := blk_frozen BK235.out 7
          go_wp2_with (first | ((with_reducible refine gate_callee (f := 58) rfl ?_); refine goesL_ (some 55) rfl rfl Try.func58 (by kernel_rfl) rfl #[.slice A0 l0.length c0, .agg #[.int .i64 t218, .int .i64 t219, .slice Ao18 t220.length co18, .slice Ao19 t223.length co19, .int .i64 t226, .int .i64 t227, .slice Ao20 t228.length co20, .slice Ao21 t231.length co21]] rfl (by (try simp only [List.map_toArray, List.map_cons, List.map_nil]); first | done | rfl | (simp only [List.length_drop, List.length_take]; rfl)) ?_; (with_reducible refine (quant_Near.calls _ _ l0 t218 t219 _ _ t220 _ _ t223 t226 t227 _ _ t228 _ _ t231 true _ ?side1 ?side2 ?side3 ?side4 ?side5 ?side6 ?side7 ?side8 ?side9 ?side10 A23.out).mono ?_); (case side1 => repeat (first | exact (Kd.C_below HR0.out HB.out) | (with_reducible refine ccA ?_ _) | (with_reducible refine ccN ?_ _) | (with_reducible refine ccD ?_))); (case side2 => exact HC0.out); (case side3 => repeat (first | exact (Kd.R_reads' HO222.out).2.2 | (with_reducible refine ccA ?_ _) | (with_reducible refine ccN ?_ _) | (with_reducible refine ccD ?_))); (case side4 => exact (Kd.R_reads' HO222.out).2.1); (case side5 => repeat (first | exact (Kd.R_reads' HO225.out).2.2 | (with_reducible refine ccA ?_ _) | (with_reducible refine ccN ?_ _) | (with_reducible refine ccD ?_))); (case side6 => exact (Kd.R_reads' HO225.out).2.1); (case side7 => repeat (first | exact (Kd.R_reads' HO230.out).2.2 | (with_reducible refine ccA ?_ _) | (with_reducible refine ccN ?_ _) | (with_reducible refine ccD ?_))); (case side8 => exact (Kd.R_reads' HO230.out).2.1); (case side9 => repeat (first | exact (Kd.R_reads' HO233.out).2.2 | (with_reducible refine ccA ?_ _) | (with_reducible refine ccN ?_ _) | (with_reducible refine ccD ?_))); (case side10 => exact (Kd.R_reads' HO233.out).2.1); rintro e w30 ⟨rfl, hb⟩; refine ⟨_, rfl, ?_⟩; have n0_ := Aside0.mk (Kd.R_below (by (with_reducible repeat (first | apply rrA | apply rrN | apply rrD)); exact HO222.out) hb); have n1_ := Aside0.mk (Kd.R_below (by (with_reducible repeat (first | apply rrA | apply rrN | apply rrD)); exact HO225.out) hb); have n2_ := Aside0.mk (Kd.R_below (by (with_reducible repeat (first | apply rrA | apply rrN | apply rrD)); exact HO230.out) hb); have n3_ := Aside0.mk (Kd.R_below (by (with_reducible repeat (first | apply rrA | apply rrN | apply rrD)); exact HO233.out) hb); have n4_ := Aside0.mk (Kd.R_below (by (with_reducible repeat (first | apply rrA | apply rrN | apply rrD)); exact HO238.out) hb); have n5_ := Aside0.mk (blk_below (g := gb235) (o := .cells #[.int .i64 t218, .int .i64 t219, .slice Ao18 t220.length co18, .slice Ao19 t223.length co19, .int .i64 t226, .int .i64 t227, .slice Ao20 t228.length co20, .slice Ao21 t231.length co21] 30 (0, 0)) (by (with_reducible repeat (first | refine kkN ?_ _ | refine kkD ?_ | refine kkA ?_ _)); exact BK235.out) hb); have n6_ := Aside0.mk (zzT (by repeat (first | (with_reducible first | exact HB.out | apply zzA | apply zzN | apply zzD | refine below_set ?_ GE235.out) | exact HB.out)) hb); clear HO222; clear HO225; clear HO230; clear HO233; clear HO238; clear BK235; clear HB; have HO222 := n0_; have HO225 := n1_; have HO230 := n2_; have HO233 := n3_; have HO238 := n4_; have BK235 := n5_; have HB := n6_; clear n0_ n1_ n2_ n3_ n4_ n5_ n6_; (try clear hb); (try clear hb2); (try clear hk); (try clear hi); have hcz31_0 : w30.cell? ⟨gb235, 0, none⟩ = some (.int .i64 t218) := (blk_cell BK235.out 0).trans rfl; have hcz31_1 : w30.cell? ⟨gb235, 1, none⟩ = some (.int .i64 t219) := (blk_cell BK235.out 1).trans rfl; have hcz31_2 : w30.cell? ⟨gb235, 2, none⟩ = some (.slice Ao18 t220.length co18) := (blk_cell BK235.out 2).trans rfl; have hcz31_3 : w30.cell? ⟨gb235, 3, none⟩ = some (.slice Ao19 t223.length co19) := (blk_cell BK235.out 3).trans rfl; have hcz31_4 : w30.cell? ⟨gb235, 4, none⟩ = some (.int .i64 t226) := (blk_cell BK235.out 4).trans rfl; have hcz31_5 : w30.cell? ⟨gb235, 5, none⟩ = some (.int .i64 t227) := (blk_cell BK235.out 5).trans rfl; have hcz31_6 : w30.cell? ⟨gb235, 6, none⟩ = some (.slice Ao20 t228.length co20) := (blk_cell BK235.out 6).trans rfl; have hcz31_7 : w30.cell? ⟨gb235, 7, none⟩ = some (.slice Ao21 t231.length co21) := (blk_cell BK235.out 7).trans rfl; have hfz31_0 := blk_frozen BK235.out 0; have hfz31_1 := blk_frozen BK235.out 1; have hfz31_2 := blk_frozen BK235.out 2; have hfz31_3 := blk_frozen BK235.out 3; have hfz31_4 := blk_frozen BK235.out 4; have hfz31_5 := blk_frozen BK235.out 5; have hfz31_6 := blk_frozen BK235.out 6; have hfz31_7 := blk_frozen BK235.out 7) | (go_at_call 60; (with_reducible refine (frame_May.calls t218 t219 _ _ t220 _ _ t223 t226 t227 _ _ t228 _ _ t231 true _ ?side1 ?side2 ?side3 ?side4 ?side5 ?side6 ?side7 ?side8 A25.out).mono ?_); (case side1 => repeat (first | exact (Kd.R_reads' HO222.out).2.2 | (with_reducible refine ccA ?_ _) | (with_reducible refine ccN ?_ _) | (with_reducible refine ccD ?_))); (case side2 => exact (Kd.R_reads' HO222.out).2.1); (case side3 => repeat (first | exact (Kd.R_reads' HO225.out).2.2 | (with_reducible refine ccA ?_ _) | (with_reducible refine ccN ?_ _) | (with_reducible refine ccD ?_))); (case side4 => exact (Kd.R_reads' HO225.out).2.1); (case side5 => repeat (first | exact (Kd.R_reads' HO230.out).2.2 | (with_reducible refine ccA ?_ _) | (with_reducible refine ccN ?_ _) | (with_reducible refine ccD ?_))); (case side6 => exact (Kd.R_reads' HO230.out).2.1); (case side7 => repeat (first | exact (Kd.R_reads' HO233.out).2.2 | (with_reducible refine ccA ?_ _) | (with_reducible refine ccN ?_ _) | (with_reducible refine ccD ?_))); (case side8 => exact (Kd.R_reads' HO233.out).2.1); rintro e w32 ⟨rfl, hb⟩; have n0_ := Aside0.mk (Kd.R_below (by (with_reducible repeat (first | apply rrA | apply rrN | apply rrD)); exact HO222.out) hb); have n1_ := Aside0.mk (Kd.R_below (by (with_reducible repeat (first | apply rrA | apply rrN | apply rrD)); exact HO225.out) hb); have n2_ := Aside0.mk (Kd.R_below (by (with_reducible repeat (first | apply rrA | apply rrN | apply rrD)); exact HO230.out) hb); have n3_ := Aside0.mk (Kd.R_below (by (with_reducible repeat (first | apply rrA | apply rrN | apply rrD)); exact HO233.out) hb); have n4_ := Aside0.mk (Kd.R_below (by (with_reducible repeat (first | apply rrA | apply rrN | apply rrD)); exact HO238.out) hb); have n5_ := Aside0.mk (blk_below (g := gb235) (o := .cells #[.int .i64 t218, .int .i64 t219, .slice Ao18 t220.length co18, .slice Ao19 t223.length co19, .int .i64 t226, .int .i64 t227, .slice Ao20 t228.length co20, .slice Ao21 t231.length co21] 30 (0, 0)) (by (with_reducible repeat (first | refine kkN ?_ _ | refine kkD ?_ | refine kkA ?_ _)); exact BK235.out) hb); have n6_ := Aside0.mk (zzT (by repeat (first | (with_reducible first | exact HB.out | apply zzA | apply zzN | apply zzD | refine below_set ?_ GE235.out) | exact HB.out)) hb); clear HO222; clear HO225; clear HO230; clear HO233; clear HO238; clear BK235; clear HB; have HO222 := n0_; have HO225 := n1_; have HO230 := n2_; have HO233 := n3_; have HO238 := n4_; have BK235 := n5_; have HB := n6_; clear n0_ n1_ n2_ n3_ n4_ n5_ n6_; (try clear hb); (try clear hb2); (try clear hk); (try clear hi); obtain ⟨Ao33, co33, eo33⟩ := Kd.R_slice HO238.out; subst eo33))
          go_meet
          case rel => exact ⟨_, (((t236.length : Int) != (l0.length : Int))), (by first | rfl | (simp; done) | (simp [*]; done)), H', ⟨by first | omega | exact Nat.le_refl _⟩, ⟨by (with_reducible repeat (first | apply rrA | apply rrN | apply rrD)); exact Kd.R_mono HO238.out (fun _ hk => hk.2)⟩, ⟨by (with_reducible repeat (first | apply rrA | apply rrN | apply rrD)); exact HO222.out⟩, ⟨by (with_reducible repeat (first | apply rrA | apply rrN | apply rrD)); exact Kd.R_mono HO225.out (fun _ hk => hk.2)⟩, ⟨by (with_reducible repeat (first | apply rrA | apply rrN | apply rrD)); exact HO230.out⟩, ⟨by (with_reducible repeat (first | apply rrA | apply rrN | apply rrD)); exact HO233.out⟩, ⟨by (with_reducible repeat (first | refine kkN ?_ _ | refine kkD ?_ | refine kkA ?_ _)); exact BK235.out⟩, ⟨by repeat (first | (with_reducible first | exact HB.out | apply zzA | apply zzN | apply zzD | refine below_set ?_ GE235.out) | exact HB.out)⟩⟩
        ·
         rw [if_neg c28] at H
         exact (thrumlaw10_QuantNear.j0_not (H.trans (by rw [HR_.out]))).elim
       ·
        rw [if_neg c27] at H
        exact (thrumlaw10_QuantNear.j0_not (H.trans (by rw [HR_.out]))).elim
      ·
       replace c26 := Bool.eq_false_iff.mpr c26
       subst c26
       have H1 : (thrumlaw10_QuantNear.j0 k l0 true t236 t240 true t218 t219 t220 t223 t226 t227 t228 t231) = some r := by rw [if_neg (show ¬ (false = true) by decide)] at H; exact H
       exact (thrumlaw10_QuantNear.j0_not (H1.trans (by rw [HR_.out]))).elim
     ·
      replace c24 := Bool.eq_false_iff.mpr c24
      subst c24
      have H1 : (thrumlaw10_QuantNear.j0 k l0 true t236 t240 true t218 t219 t220 t223 t226 t227 t228 t231) = some r := by rw [if_neg (show ¬ (false = true) by decide)] at H; exact H
      exact (thrumlaw10_QuantNear.j0_not (H1.trans (by rw [HR_.out]))).elim
    case rest =>
     clear HC13
     try clear c1
     try clear c2
     try clear p2
     try clear c3
     try clear c4
     try clear c5
     try clear c6
     try clear c8
     try clear c10
     try clear c10b0
     try clear c10b1
     try clear c13
     try clear c24
     try clear c26
     try clear c27
     try clear c27b0
     try clear c27b1
     try clear c28
     try clear c28b0
     try clear c28b1
     try clear c44
     try clear c45
     try clear c46
     try clear hcz17_0
     try clear hcz17_1
     try clear hcz17_2
     try clear hcz17_3
     try clear hcz17_4
     try clear hcz17_5
     try clear hcz17_6
     try clear hcz17_7
     try clear hcz29_0
     try clear hcz29_1
     try clear hcz29_2
     try clear hcz29_3
     try clear hcz29_4
     try clear hcz29_5
     try clear hcz29_6
     try clear hcz29_7
     try clear hcz31_0
     try clear hcz31_1
     try clear hcz31_2
     try clear hcz31_3
     try clear hcz31_4
     try clear hcz31_5
     try clear hcz31_6
     try clear hcz31_7
     try clear hcz34_0
     try clear hcz34_1
     try clear hcz34_2
     try clear hcz34_3
     try clear hcz34_4
     try clear hcz34_5
     try clear hcz34_6
     try clear hcz34_7
     try clear hcz36_0
     try clear hcz36_1
     try clear hcz36_2
     try clear hcz36_3
     try clear hcz36_4
     try clear hcz36_5
     try clear hcz36_6
     try clear hcz36_7
     try clear hcz38_0
     try clear hcz38_1
     try clear hcz38_2
     try clear hcz38_3
     try clear hcz38_4
     try clear hcz38_5
     try clear hcz38_6
     try clear hcz38_7
     try clear hcz40_0
     try clear hcz40_1
     try clear hcz40_2
     try clear hcz40_3
     try clear hcz40_4
     try clear hcz40_5
     try clear hcz40_6
     try clear hcz40_7
     try clear hcz42_0
     try clear hcz42_1
     try clear hcz42_2
     try clear hcz42_3
     try clear hcz42_4
     try clear hcz42_5
     try clear hcz42_6
     try clear hcz42_7
     try clear hcz44_0
     try clear hcz44_1
     try clear hcz44_2
     try clear hcz44_3
     try clear hcz44_4
     try clear hcz44_5
     try clear hcz44_6
     try clear hcz44_7
     try clear hcz46_0
     try clear hcz46_1
     try clear hcz46_2
     try clear hcz46_3
     try clear hcz46_4
     try clear hcz46_5
     try clear hcz46_6
     try clear hcz46_7
     try clear hfz17_0
     try clear hfz17_1
     try clear hfz17_2
     try clear hfz17_3
     try clear hfz17_4
     try clear hfz17_5
     try clear hfz17_6
     try clear hfz17_7
     try clear hfz29_0
     try clear hfz29_1
     try clear hfz29_2
     try clear hfz29_3
     try clear hfz29_4
     try clear hfz29_5
     try clear hfz29_6
     try clear hfz29_7
     try clear hfz31_0
     try clear hfz31_1
     try clear hfz31_2
     try clear hfz31_3
     try clear hfz31_4
     try clear hfz31_5
     try clear hfz31_6
     try clear hfz31_7
     try clear hfz34_0
     try clear hfz34_1
     try clear hfz34_2
     try clear hfz34_3
     try clear hfz34_4
     try clear hfz34_5
     try clear hfz34_6
     try clear hfz34_7
     try clear hfz36_0
     try clear hfz36_1
     try clear hfz36_2
     try clear hfz36_3
     try clear hfz36_4
     try clear hfz36_5
     try clear hfz36_6
     try clear hfz36_7
     try clear hfz38_0
     try clear hfz38_1
     try clear hfz38_2
     try clear hfz38_3
     try clear hfz38_4
     try clear hfz38_5
     try clear hfz38_6
     try clear hfz38_7
     try clear hfz40_0
     try clear hfz40_1
     try clear hfz40_2
     try clear hfz40_3
     try clear hfz40_4
     try clear hfz40_5
     try clear hfz40_6
     try clear hfz40_7
     try clear hfz42_0
     try clear hfz42_1
     try clear hfz42_2
     try clear hfz42_3
     try clear hfz42_4
     try clear hfz42_5
     try clear hfz42_6
     try clear hfz42_7
     try clear hfz44_0
     try clear hfz44_1
     try clear hfz44_2
     try clear hfz44_3
     try clear hfz44_4
     try clear hfz44_5
     try clear hfz44_6
     try clear hfz44_7
     try clear hfz46_0
     try clear hfz46_1
     try clear hfz46_2
     try clear hfz46_3
     try clear hfz46_4
     try clear hfz46_5
     try clear hfz46_6
     try clear hfz46_7
     obtain ⟨kq, x76_12, rfl, HA, HJ12, HO_12, HO_236002, HO_236003, HO_236006, HO_236007, BK235, HB⟩ := hcut
     cases kq with
     | zero => exact absurd HA.out (by simp [thrumlaw10_QuantNear.j0])
     | succ kj12 =>
      have H := HA.out
      clear HA
      simp only [thrumlaw10_QuantNear.j0] at H
      by_cases c48 : x76_12 = true
      ·
       subst c48
       have H1 : (some false) = some r := by rw [if_pos rfl] at H; exact H
       exact absurd (Option.some.inj H1) (by rw [HR_.out]; decide)
      ·
       replace c48 := Bool.eq_false_iff.mpr c48
       subst c48
       have H1 : (thrumlaw10_QuantNear.l0 kj12 l0 true t236 t240 (l0.length : Int) 0 t218 t219 t220 t223 t226 t227 t228 t231) = some r := by rw [if_neg (show ¬ (false = true) by decide)] at H; exact H
       clear H
       have H := H1
       clear H1
       have H' := Aside0.mk H
       clear H
       go_wp2
       go_loopg [79] kj12 (fun kq v79 w' => ∃ (x79_2 : Int), v79 = .int .i64 x79_2 ∧ Aside0 (thrumlaw10_QuantNear.l0 kq l0 true t236 t240 (l0.length : Int) x79_2 t218 t219 t220 t223 t226 t227 t228 t231 = some r) ∧ Aside0 (kq ≤ kj12) ∧ Aside0 (Kd.R (Kd.int .i64) 2 w' w.heap.size (fun k_ => some k_ ≠ ((.slice Ao19 t223.length co19) : Value).ownBlock) v237 t236) ∧ Aside0 (Kd.R (Kd.int .i64) 3 w' w.heap.size (fun _ => True) (.slice Ao18 t220.length co18) t220) ∧ Aside0 (Kd.R (Kd.int .i64) 2 w' w.heap.size (fun k_ => some k_ ≠ (v237 : Value).ownBlock) (.slice Ao19 t223.length co19) t223) ∧ Aside0 (Kd.R (Kd.int .u64) 64 w' w.heap.size (fun _ => True) (.slice Ao20 t228.length co20) t228) ∧ Aside0 (Kd.R Kd.bool 4 w' w.heap.size (fun _ => True) (.slice Ao21 t231.length co21) t231) ∧ Aside0 (w'.heap[gb235]? = some (.cells #[.int .i64 t218, .int .i64 t219, (.slice Ao18 t220.length co18), (.slice Ao19 t223.length co19), .int .i64 t226, .int .i64 t227, (.slice Ao20 t228.length co20), (.slice Ao21 t231.length co21)] 30 (0, 0))) ∧ Aside0 (Below w.heap.size w w'))
       case atStart => exact ⟨(0), (by first | rfl | (simp; done) | (simp [*]; done)), H', ⟨Nat.le_refl _⟩, ⟨by (with_reducible repeat (first | apply rrA | apply rrN | apply rrD)); exact HO_12.out⟩, ⟨by (with_reducible repeat (first | apply rrA | apply rrN | apply rrD)); exact HO_236002.out⟩, ⟨by (with_reducible repeat (first | apply rrA | apply rrN | apply rrD)); exact HO_236003.out⟩, ⟨by (with_reducible repeat (first | apply rrA | apply rrN | apply rrD)); exact HO_236006.out⟩, ⟨by (with_reducible repeat (first | apply rrA | apply rrN | apply rrD)); exact HO_236007.out⟩, ⟨by (with_reducible repeat (first | refine kkN ?_ _ | refine kkD ?_ | refine kkA ?_ _)); exact BK235.out⟩, ⟨by repeat (first | (with_reducible first | exact HB.out | apply zzA | apply zzN | apply zzD | refine below_set ?_ GE235.out) | exact HB.out)⟩⟩
       case round =>
        clear H'
        try clear c1
        try clear c2
        try clear p2
        try clear c3
        try clear c4
        try clear c5
        try clear c6
        try clear c8
        try clear c10
        try clear c10b0
        try clear c10b1
        try clear c13
        try clear c24
        try clear c26
        try clear c27
        try clear c27b0
        try clear c27b1
        try clear c28
        try clear c28b0
        try clear c28b1
        try clear c44
        try clear c45
        try clear c46
        try clear c48
        try clear hcz17_0
        try clear hcz17_1
        try clear hcz17_2
        try clear hcz17_3
        try clear hcz17_4
        try clear hcz17_5
        try clear hcz17_6
        try clear hcz17_7
        try clear hcz29_0
        try clear hcz29_1
        try clear hcz29_2
        try clear hcz29_3
        try clear hcz29_4
        try clear hcz29_5
        try clear hcz29_6
        try clear hcz29_7
        try clear hcz31_0
        try clear hcz31_1
        try clear hcz31_2
        try clear hcz31_3
        try clear hcz31_4
        try clear hcz31_5
        try clear hcz31_6
        try clear hcz31_7
        try clear hcz34_0
        try clear hcz34_1
        try clear hcz34_2
        try clear hcz34_3
        try clear hcz34_4
        try clear hcz34_5
        try clear hcz34_6
        try clear hcz34_7
        try clear hcz36_0
        try clear hcz36_1
        try clear hcz36_2
        try clear hcz36_3
        try clear hcz36_4
        try clear hcz36_5
        try clear hcz36_6
        try clear hcz36_7
        try clear hcz38_0
        try clear hcz38_1
        try clear hcz38_2
        try clear hcz38_3
        try clear hcz38_4
        try clear hcz38_5
        try clear hcz38_6
        try clear hcz38_7
        try clear hcz40_0
        try clear hcz40_1
        try clear hcz40_2
        try clear hcz40_3
        try clear hcz40_4
        try clear hcz40_5
        try clear hcz40_6
        try clear hcz40_7
        try clear hcz42_0
        try clear hcz42_1
        try clear hcz42_2
        try clear hcz42_3
        try clear hcz42_4
        try clear hcz42_5
        try clear hcz42_6
        try clear hcz42_7
        try clear hcz44_0
        try clear hcz44_1
        try clear hcz44_2
        try clear hcz44_3
        try clear hcz44_4
        try clear hcz44_5
        try clear hcz44_6
        try clear hcz44_7
        try clear hcz46_0
        try clear hcz46_1
        try clear hcz46_2
        try clear hcz46_3
        try clear hcz46_4
        try clear hcz46_5
        try clear hcz46_6
        try clear hcz46_7
        try clear hfz17_0
        try clear hfz17_1
        try clear hfz17_2
        try clear hfz17_3
        try clear hfz17_4
        try clear hfz17_5
        try clear hfz17_6
        try clear hfz17_7
        try clear hfz29_0
        try clear hfz29_1
        try clear hfz29_2
        try clear hfz29_3
        try clear hfz29_4
        try clear hfz29_5
        try clear hfz29_6
        try clear hfz29_7
        try clear hfz31_0
        try clear hfz31_1
        try clear hfz31_2
        try clear hfz31_3
        try clear hfz31_4
        try clear hfz31_5
        try clear hfz31_6
        try clear hfz31_7
        try clear hfz34_0
        try clear hfz34_1
        try clear hfz34_2
        try clear hfz34_3
        try clear hfz34_4
        try clear hfz34_5
        try clear hfz34_6
        try clear hfz34_7
        try clear hfz36_0
        try clear hfz36_1
        try clear hfz36_2
        try clear hfz36_3
        try clear hfz36_4
        try clear hfz36_5
        try clear hfz36_6
        try clear hfz36_7
        try clear hfz38_0
        try clear hfz38_1
        try clear hfz38_2
        try clear hfz38_3
        try clear hfz38_4
        try clear hfz38_5
        try clear hfz38_6
        try clear hfz38_7
        try clear hfz40_0
        try clear hfz40_1
        try clear hfz40_2
        try clear hfz40_3
        try clear hfz40_4
        try clear hfz40_5
        try clear hfz40_6
        try clear hfz40_7
        try clear hfz42_0
        try clear hfz42_1
        try clear hfz42_2
        try clear hfz42_3
        try clear hfz42_4
        try clear hfz42_5
        try clear hfz42_6
        try clear hfz42_7
        try clear hfz44_0
        try clear hfz44_1
        try clear hfz44_2
        try clear hfz44_3
        try clear hfz44_4
        try clear hfz44_5
        try clear hfz44_6
        try clear hfz44_7
        try clear hfz46_0
        try clear hfz46_1
        try clear hfz46_2
        try clear hfz46_3
        try clear hfz46_4
        try clear hfz46_5
        try clear hfz46_6
        try clear hfz46_7
        try clear p2
        obtain ⟨x79_2, rfl, HA, HK2, HO_12, HO_236002, HO_236003, HO_236006, HO_236007, BK235, HB⟩ := hrel
        cases gk with
        | zero => exact absurd HA.out (by simp [thrumlaw10_QuantNear.l0])
        | succ k2 =>
         have H := HA.out
         clear HA
         simp only [thrumlaw10_QuantNear.l0] at H
         by_cases c49 : x79_2 < (l0.length : Int)
         ·
          rw [if_pos c49] at H
          have c49b0 : decide (x79_2 < (l0.length : Int)) = true := decide_eq_true c49
          clear c49
          by_cases c50 : 0 ≤ x79_2
          ·
           rw [if_pos c50] at H
           have c50b0 : decide (0 ≤ x79_2) = true := decide_eq_true c50
           clear c50
           by_cases c51 : x79_2 < (l0.length : Int)
           ·
            rw [if_pos c51] at H
            have c51b0 : decide (x79_2 < (l0.length : Int)) = true := decide_eq_true c51
            clear c51
            by_cases c52 : x79_2 < (t236.length : Int)
            ·
             rw [if_pos c52] at H
             have c52b0 : decide (x79_2 < (t236.length : Int)) = true := decide_eq_true c52
             clear c52
             obtain ⟨y246, hy246⟩ : ∃ y_ : List Int, y_ = (([wrap64 ((rd l0 x79_2) - (rd t236 x79_2))] : List Int)) := ⟨_, rfl⟩
             replace H : ((vec_Size.f y246).bind fun bt249 => (if bt249.2 = 0 then (if t240 = 0 then (none) else (thrumlaw10_QuantNear.j2 k2 l0 true t236 t240 x79_2 (l0.length : Int) x79_2 (decide ((IntKind.u64.wrap (bt249.1)) > (IntKind.u64.wrap ((IntKind.u64.wrap (Int.tdiv (IntKind.u64.wrap (t226)) t240)) + 1)))) t218 t219 t220 t223 t226 t227 t228 t231)) else (thrumlaw10_QuantNear.j2 k2 l0 true t236 t240 x79_2 (l0.length : Int) x79_2 true t218 t219 t220 t223 t226 t227 t228 t231))) = some r := by first | (rw [hy246]; with_reducible exact H) | (have H2_ := (Option.bind_some _ _).symm.trans H; rw [hy246]; with_reducible exact H2_) | (have H2_ := (Option.bind_some _ _).symm.trans H; with_reducible exact H2_) | with_reducible exact H | (rw [hy246]; exact H) | exact H
             have Ny246 := Aside0.mk hy246
             clear hy246
             replace H := Option.bind_eq_some_iff.mp H
             obtain ⟨⟨t249, t250⟩, A530, H⟩ := H
             replace H : (if t250 = 0 then (if t240 = 0 then (none) else (thrumlaw10_QuantNear.j2 k2 l0 true t236 t240 x79_2 (l0.length : Int) x79_2 (decide ((IntKind.u64.wrap (t249)) > (IntKind.u64.wrap ((IntKind.u64.wrap (Int.tdiv (IntKind.u64.wrap (t226)) t240)) + 1)))) t218 t219 t220 t223 t226 t227 t228 t231)) else (thrumlaw10_QuantNear.j2 k2 l0 true t236 t240 x79_2 (l0.length : Int) x79_2 true t218 t219 t220 t223 t226 t227 t228 t231)) = some r := H
             have A53 := Aside0.mk A530
             clear A530
             have HC54 := Aside0.mk H
             clear H
             try go_wp2
             have n0_ := Aside0.mk (rrD HO_12.out)
             have n1_ := Aside0.mk (rrD HO_236002.out)
             have n2_ := Aside0.mk (rrD HO_236003.out)
             have n3_ := Aside0.mk (rrD HO_236006.out)
             have n4_ := Aside0.mk (rrD HO_236007.out)
             have n5_ := Aside0.mk (kkD BK235.out)
             have n6_ := Aside0.mk (zzD HB.out)
             clear HO_12
             clear HO_236002
             clear HO_236003
             clear HO_236006
             clear HO_236007
             clear BK235
             clear HB
             have HO_12 := n0_
             have HO_236002 := n1_
             have HO_236003 := n2_
             have HO_236006 := n3_
             have HO_236007 := n4_
             have BK235 := n5_
             have HB := n6_
             clear n0_ n1_ n2_ n3_ n4_ n5_ n6_
             have p244 : 0 ≤ (x79_2 : Int) := of_decide_eq_true (by first | (with_reducible assumption) | assumption)
             have q244 : x79_2 < (l0.length : Int) := of_decide_eq_true (by first | (with_reducible assumption) | assumption)
             obtain ⟨ad244, e244, hx244_0⟩ := Kd.at_int HR0.out x79_2 p244 q244
             have hw244_0 := hx244_0
             cases e244
             replace hx244_0 := (HB.out.cell (World.block_lt_of_cell? w _ hx244_0)).trans hx244_0
             replace p244 := eq_true p244
             replace q244 := eq_true q244
             obtain ⟨Ao56, co56, eo56⟩ := Kd.R_slice HO_12.out
             (first | subst eo56 | (injection eo56 with f1_ f2_ f3_; have f4_ := f1_.symm; have f5_ := f3_.symm; clear f1_ f2_ f3_; subst f4_; subst f5_))
             have p245 : 0 ≤ (x79_2 : Int) := of_decide_eq_true (by first | (with_reducible assumption) | assumption)
             have q245 : x79_2 < (t236.length : Int) := of_decide_eq_true (by first | (with_reducible assumption) | assumption)
             obtain ⟨ad245, e245, hx245_0⟩ := Kd.at_int (Kd.R_reads' HO_12.out).2.2 x79_2 p245 q245
             cases e245
             replace p245 := eq_true p245
             replace q245 := eq_true q245
             refine start_ (n := 16) (S := fun w' => w'.cell? (ad244.add (x79_2).toNat) = some (.int .i64 (rd l0 x79_2)) ∧ w'.cell? (ad245.add (x79_2).toNat) = some (.int .i64 (rd t236 x79_2))) (ds := []) #[false, false, false, false, false, false, false, false, false, false, false, false, false, false, false, false] (by kernel_rfl) rfl rfl ⟨((HB.out.cell (World.block_lt_of_cell? w _ hw244_0)).trans hw244_0), hx245_0⟩ (fun hHeld => ?_); refine with_tabW thrumlaw10_QuantNear.tab16 thrumlaw10_QuantNear.bits16 (fun HT_ HW_ => ?_)
             generalize wr.drew = w55 at HO_12 HO_236002 HO_236003 HO_236006 HO_236007 BK235 HB hx244_0 hx245_0 hHeld ⊢
             refine pure_ (i := 0) (N := some 83) (v := ?_) (a' := ?_) #[true, false, false, false, false, false, false, false, false, false, false, false, false, false, false, false] rfl rfl (any_of HT_.out (by kernel_rfl)) (fun _ _ _ h => h) (Or.inl ⟨by rfl, ?_⟩) ?_ ?_
             rotate_left
             ·
              intro w'
              go_simp
              with_reducible rfl
             rotate_left
             ·
              simp only [Act.put, List.setIfInBounds_toArray, List.set_cons_zero, List.set_cons_succ, i64_w, i32_w]
              rfl
             refine pure_ (i := 1) (N := some 84) (v := ?_) (a' := ?_) #[true, true, false, false, false, false, false, false, false, false, false, false, false, false, false, false] rfl rfl (any_of HT_.out (by kernel_rfl)) (fun _ _ _ h => h) (Or.inl ⟨by rfl, ?_⟩) ?_ ?_
             rotate_left
             ·
              intro w'
              go_simp
              with_reducible rfl
             rotate_left
             ·
              simp only [Act.put, List.setIfInBounds_toArray, List.set_cons_zero, List.set_cons_succ, i64_w, i32_w]
              rfl
             refine pure_ (i := 2) (N := some 85) (v := ?_) (a' := ?_) #[true, true, true, false, false, false, false, false, false, false, false, false, false, false, false, false] rfl rfl (any_of HT_.out (by kernel_rfl)) (fun _ _ _ h => h) (Or.inl ⟨by rfl, ?_⟩) ?_ ?_
             rotate_left
             ·
              intro w'
              go_simp
              with_reducible rfl
             rotate_left
             ·
              simp only [Act.put, List.setIfInBounds_toArray, List.set_cons_zero, List.set_cons_succ, i64_w, i32_w]
              rfl
             refine pure_ (i := 4) (N := some 87) (v := ?_) (a' := ?_) #[true, true, true, false, true, false, false, false, false, false, false, false, false, false, false, false] rfl rfl (any_of HT_.out (by kernel_rfl)) (fun _ _ _ h => h) (Or.inl ⟨by rfl, ?_⟩) ?_ ?_
             rotate_left
             ·
              intro w'
              go_simp
              with_reducible rfl
             rotate_left
             ·
              simp only [Act.put, List.setIfInBounds_toArray, List.set_cons_zero, List.set_cons_succ, i64_w, i32_w]
              rfl
             refine pure_ (i := 5) (N := some 88) (v := ?_) (a' := ?_) #[true, true, true, false, true, true, false, false, false, false, false, false, false, false, false, false] rfl rfl (any_of HT_.out (by kernel_rfl)) (fun _ _ _ h => h) (Or.inl ⟨by rfl, ?_⟩) ?_ ?_
             rotate_left
             ·
              intro w'
              go_simp
              with_reducible rfl
             rotate_left
             ·
              simp only [Act.put, List.setIfInBounds_toArray, List.set_cons_zero, List.set_cons_succ, i64_w, i32_w]
              rfl
             refine pure_ (i := 6) (N := some 89) (v := ?_) (a' := ?_) #[true, true, true, false, true, true, true, false, false, false, false, false, false, false, false, false] rfl rfl (any_of HT_.out (by kernel_rfl)) (fun _ _ _ h => h) (Or.inl ⟨by rfl, ?_⟩) ?_ ?_
             rotate_left
             ·
              intro w'
              go_simp
              with_reducible rfl
             rotate_left
             ·
              simp only [Act.put, List.setIfInBounds_toArray, List.set_cons_zero, List.set_cons_succ, i64_w, i32_w]
              rfl
             refine take_ (i := 3) (N := some 86) (v := ?_) (a' := ?_) #[true, true, true, true, true, true, true, false, false, false, false, false, false, false, false, false] rfl rfl (take_ofW HT_.out HW_.out (by kernel_rfl)) (fun _ _ _ h => h) (Or.inl ⟨by rfl, ?_⟩) hHeld ?_ ?_
             rotate_left
             ·
              rintro w' ⟨s0, s1⟩
              go_simp
              with_reducible rfl
             rotate_left
             ·
              simp only [Act.put, List.setIfInBounds_toArray, List.set_cons_zero, List.set_cons_succ, i64_w, i32_w]
              rfl
             refine take_ (i := 7) (N := some 90) (v := ?_) (a' := ?_) #[true, true, true, true, true, true, true, true, false, false, false, false, false, false, false, false] rfl rfl (take_ofW HT_.out HW_.out (by kernel_rfl)) (fun _ _ _ h => h) (Or.inl ⟨by rfl, ?_⟩) hHeld ?_ ?_
             rotate_left
             ·
              rintro w' ⟨s0, s1⟩
              go_simp
              with_reducible rfl
             rotate_left
             ·
              simp only [Act.put, List.setIfInBounds_toArray, List.set_cons_zero, List.set_cons_succ, i64_w, i32_w]
              rfl
             refine pure_ (i := 8) (N := some 91) (v := ?_) (a' := ?_) #[true, true, true, true, true, true, true, true, true, false, false, false, false, false, false, false] rfl rfl (any_of HT_.out (by kernel_rfl)) (fun _ _ _ h => h) (Or.inl ⟨by rfl, ?_⟩) ?_ ?_
             rotate_left
             ·
              intro w'
              go_simp
              with_reducible rfl
             rotate_left
             ·
              simp only [Act.put, List.setIfInBounds_toArray, List.set_cons_zero, List.set_cons_succ, i64_w, i32_w]
              rfl
             refine one_ (i := 9) (N := some 92) #[true, true, true, true, true, true, true, true, true, true, false, false, false, false, false, false] rfl rfl (one_of HT_.out (by kernel_rfl)) (by decide) (fun K hK => ?_)
             refine Kd.R_lit_step (Kd.int .i64) _ 2 ?hg (N := 92) ?hd (xs := ([wrap64 ((rd l0 x79_2) - (rd t236 x79_2))] : List Int)) (inner := [.int .i64 (wrap64 ((rd l0 x79_2) - (rd t236 x79_2)))]) (ok := fun _ => True) (okp := fun _ => True) ?hr ?hp (fun _ hk => hk) trivial (Below.refl _ _) (Nat.le_refl _) (by simp) ?_; (case hd => rfl); (case hg => rfl); (case hr => first | (go_simp; done) | (go_simp; rfl)); (case hp => exact (Reps.one (show Kd.M (Kd.int .i64) _ _ _ (wrap64 ((rd l0 x79_2) - (rd t236 x79_2))) [.int .i64 (wrap64 ((rd l0 x79_2) - (rd t236 x79_2)))] from rfl) (Reps.none _ _)))
             intro v247 w57 ho58 hb hg_ hnew_
             have HS1_ := (hb.cell (World.block_lt_of_cell? _ _ (hHeld.2))).trans (hHeld.2)
             clear hg_ hnew_
             (first | rw [← Ny246.out] at ho58 | (simp only [Int.reduceToNat] at ho58; rw [← Ny246.out] at ho58))
             have n0_ := Aside0.mk (Kd.R_elder' (by (with_reducible repeat (first | apply rrA | apply rrN | apply rrD)); exact HO_12.out) (Kd.R_base ho58) hb)
             have n1_ := Aside0.mk (Kd.R_below (by (with_reducible repeat (first | apply rrA | apply rrN | apply rrD)); exact HO_236002.out) hb)
             have n2_ := Aside0.mk (Kd.R_elder' (by (with_reducible repeat (first | apply rrA | apply rrN | apply rrD)); exact HO_236003.out) (Kd.R_base ho58) hb)
             have n3_ := Aside0.mk (Kd.R_below (by (with_reducible repeat (first | apply rrA | apply rrN | apply rrD)); exact HO_236006.out) hb)
             have n4_ := Aside0.mk (Kd.R_below (by (with_reducible repeat (first | apply rrA | apply rrN | apply rrD)); exact HO_236007.out) hb)
             have n5_ := Aside0.mk (Kd.R_lower (Kd.R_new' (Kd.R_new' ho58 (Kd.R_lt (by (with_reducible repeat (first | apply rrA | apply rrN | apply rrD)); exact HO_12.out))) (Kd.R_lt (by (with_reducible repeat (first | apply rrA | apply rrN | apply rrD)); exact HO_236003.out))) (zzS (by repeat (first | (with_reducible first | exact HB.out | apply zzA | apply zzN | apply zzD | refine below_set ?_ GE235.out) | exact HB.out))))
             have n6_ := Aside0.mk (blk_below (g := gb235) (o := .cells #[.int .i64 t218, .int .i64 t219, .slice Ao18 t220.length co18, .slice Ao19 t223.length co19, .int .i64 t226, .int .i64 t227, .slice Ao20 t228.length co20, .slice Ao21 t231.length co21] 30 (0, 0)) (by (with_reducible repeat (first | refine kkN ?_ _ | refine kkD ?_ | refine kkA ?_ _)); exact BK235.out) hb)
             have n7_ := Aside0.mk (zzT (by repeat (first | (with_reducible first | exact HB.out | apply zzA | apply zzN | apply zzD | refine below_set ?_ GE235.out) | exact HB.out)) hb)
             clear HO_12
             clear HO_236002
             clear HO_236003
             clear HO_236006
             clear HO_236007
             clear BK235
             clear HB
             have HO_12 := n0_
             have HO_236002 := n1_
             have HO_236003 := n2_
             have HO_236006 := n3_
             have HO_236007 := n4_
             have HO248 := n5_
             have BK235 := n6_
             have HB := n7_
             clear n0_ n1_ n2_ n3_ n4_ n5_ n6_ n7_
             clear hb ho58
             obtain ⟨Ao59, co59, eo59⟩ := Kd.R_slice HO248.out
             (first | subst eo59 | (injection eo59 with f1_ f2_ f3_; have f4_ := f1_.symm; have f5_ := f3_.symm; clear f1_ f2_ f3_; subst f4_; subst f5_))
             refine hK.out _ _ ⟨((HB.out.cell (World.block_lt_of_cell? w _ hw244_0)).trans hw244_0), HS1_⟩ (fun hHeld => ?_)
             clear hK K
             refine norm_ (a' := ?_) ?_ ?_
             rotate_left
             ·
              show Act.put _ (some 92) _ = _
              simp only [Act.put, List.setIfInBounds_toArray, List.set_cons_zero, List.set_cons_succ, i64_w, i32_w]
              rfl
             refine one_ (i := 10) (N := some 93) #[true, true, true, true, true, true, true, true, true, true, true, false, false, false, false, false] rfl rfl (one_of HT_.out (by kernel_rfl)) (by decide) (fun K hK => ?_)
             refine goes_ Try.func61 (by kernel_rfl) rfl #[.slice Ao59 y246.length co59] (by rfl) rfl rfl (by (try simp only [List.map_toArray, List.map_cons, List.map_nil]); first | done | rfl | (simp only [List.length_drop, List.length_take]; rfl)) ?_
             with_reducible refine (vec_Size.calls _ _ y246 t249 t250 _ ?side1 ?side2 A53.out).mono ?_
             (case side1 => repeat (first | exact (Kd.R_reads' HO248.out).2.2 | (with_reducible refine ccA ?_ _) | (with_reducible refine ccN ?_ _) | (with_reducible refine ccD ?_)))
             (case side2 => exact (Kd.R_reads' HO248.out).2.1)
             rintro e w60 ⟨rfl, hb⟩
             have HS1_ := (hb.cell (World.block_lt_of_cell? _ _ (hHeld.2))).trans (hHeld.2)
             refine ⟨_, rfl, ?_⟩
             have n0_ := Aside0.mk (Kd.R_below (by (with_reducible repeat (first | apply rrA | apply rrN | apply rrD)); exact HO_12.out) hb)
             have n1_ := Aside0.mk (Kd.R_below (by (with_reducible repeat (first | apply rrA | apply rrN | apply rrD)); exact HO_236002.out) hb)
             have n2_ := Aside0.mk (Kd.R_below (by (with_reducible repeat (first | apply rrA | apply rrN | apply rrD)); exact HO_236003.out) hb)
             have n3_ := Aside0.mk (Kd.R_below (by (with_reducible repeat (first | apply rrA | apply rrN | apply rrD)); exact HO_236006.out) hb)
             have n4_ := Aside0.mk (Kd.R_below (by (with_reducible repeat (first | apply rrA | apply rrN | apply rrD)); exact HO_236007.out) hb)
             have n5_ := Aside0.mk (Kd.R_below (by (with_reducible repeat (first | apply rrA | apply rrN | apply rrD)); exact HO248.out) hb)
             have n6_ := Aside0.mk (blk_below (g := gb235) (o := .cells #[.int .i64 t218, .int .i64 t219, .slice Ao18 t220.length co18, .slice Ao19 t223.length co19, .int .i64 t226, .int .i64 t227, .slice Ao20 t228.length co20, .slice Ao21 t231.length co21] 30 (0, 0)) (by (with_reducible repeat (first | refine kkN ?_ _ | refine kkD ?_ | refine kkA ?_ _)); exact BK235.out) hb)
             have n7_ := Aside0.mk (zzT (by repeat (first | (with_reducible first | exact HB.out | apply zzA | apply zzN | apply zzD | refine below_set ?_ GE235.out) | exact HB.out)) hb)
             clear HO_12
             clear HO_236002
             clear HO_236003
             clear HO_236006
             clear HO_236007
             clear HO248
             clear BK235
             clear HB
             have HO_12 := n0_
             have HO_236002 := n1_
             have HO_236003 := n2_
             have HO_236006 := n3_
             have HO_236007 := n4_
             have HO248 := n5_
             have BK235 := n6_
             have HB := n7_
             clear n0_ n1_ n2_ n3_ n4_ n5_ n6_ n7_
             (try clear hb)
             (try clear hb2)
             (try clear hk)
             (try clear hi)
             refine hK.out _ _ ⟨((HB.out.cell (World.block_lt_of_cell? w _ hw244_0)).trans hw244_0), HS1_⟩ (fun hHeld => ?_)
             clear hK K
             refine norm_ (a' := ?_) ?_ ?_
             rotate_left
             ·
              show Act.put _ (some 93) _ = _
              simp only [Act.put, List.setIfInBounds_toArray, List.set_cons_zero, List.set_cons_succ, i64_w, i32_w]
              rfl
             refine pure_ (i := 11) (N := some 82) (v := ?_) (a' := ?_) #[true, true, true, true, true, true, true, true, true, true, true, true, false, false, false, false] rfl rfl (any_of HT_.out (by kernel_rfl)) (fun _ _ _ h => h) (Or.inl ⟨by rfl, ?_⟩) ?_ ?_
             rotate_left
             ·
              intro w'
              go_simp
              with_reducible rfl
             rotate_left
             ·
              simp only [Act.put, List.setIfInBounds_toArray, List.set_cons_zero, List.set_cons_succ, i64_w, i32_w]
              rfl
             refine pure_ (i := 12) (N := some 94) (v := ?_) (a' := ?_) #[true, true, true, true, true, true, true, true, true, true, true, true, true, false, false, false] rfl rfl (any_of HT_.out (by kernel_rfl)) (fun _ _ _ h => h) (Or.inl ⟨by rfl, ?_⟩) ?_ ?_
             rotate_left
             ·
              intro w'
              go_simp
              with_reducible rfl
             rotate_left
             ·
              simp only [Act.put, List.setIfInBounds_toArray, List.set_cons_zero, List.set_cons_succ, i64_w, i32_w]
              rfl
             refine pure_ (i := 13) (N := some 95) (v := ?_) (a' := ?_) #[true, true, true, true, true, true, true, true, true, true, true, true, true, true, false, false] rfl rfl (any_of HT_.out (by kernel_rfl)) (fun _ _ _ h => h) (Or.inl ⟨by rfl, ?_⟩) ?_ ?_
             rotate_left
             ·
              intro w'
              go_simp
              with_reducible rfl
             rotate_left
             ·
              simp only [Act.put, List.setIfInBounds_toArray, List.set_cons_zero, List.set_cons_succ, i64_w, i32_w]
              rfl
             refine pure_ (i := 14) (N := some 17) (v := ?_) (a' := ?_) #[true, true, true, true, true, true, true, true, true, true, true, true, true, true, true, false] rfl rfl (any_of HT_.out (by kernel_rfl)) (fun _ _ _ h => h) (Or.inl ⟨by rfl, ?_⟩) ?_ ?_
             rotate_left
             ·
              intro w'
              go_simp
              with_reducible rfl
             rotate_left
             ·
              simp only [Act.put, List.setIfInBounds_toArray, List.set_cons_zero, List.set_cons_succ, i64_w, i32_w]
              rfl
             refine pure_ (i := 15) (N := some 18) (v := ?_) (a' := ?_) #[true, true, true, true, true, true, true, true, true, true, true, true, true, true, true, true] rfl rfl (any_of HT_.out (by kernel_rfl)) (fun _ _ _ h => h) (Or.inl ⟨by rfl, ?_⟩) ?_ ?_
             rotate_left
             ·
              intro w'
              go_simp
              with_reducible rfl
             rotate_left
             ·
              simp only [Act.put, List.setIfInBounds_toArray, List.set_cons_zero, List.set_cons_succ, i64_w, i32_w]
              rfl
             refine done_ (done_of HT_.out (by kernel_rfl)) ?_
             go_upto_region 17 with (fail)
             go_cut [108] (fun v108 wc => ∃ (kq : Nat) (x108_53 : Bool), v108 = .bool x108_53 ∧ Aside0 (thrumlaw10_QuantNear.j2 kq l0 true t236 t240 x79_2 (l0.length : Int) x79_2 x108_53 t218 t219 t220 t223 t226 t227 t228 t231 = some r) ∧ Aside0 (kq ≤ k2) ∧ Aside0 (Kd.R (Kd.int .i64) 2 wc w.heap.size (fun k_ => some k_ ≠ ((.slice Ao19 t223.length co19) : Value).ownBlock) (.slice (some ad245) t236.length co56) t236) ∧ Aside0 (Kd.R (Kd.int .i64) 3 wc w.heap.size (fun _ => True) (.slice Ao18 t220.length co18) t220) ∧ Aside0 (Kd.R (Kd.int .i64) 2 wc w.heap.size (fun k_ => some k_ ≠ ((.slice (some ad245) t236.length co56) : Value).ownBlock) (.slice Ao19 t223.length co19) t223) ∧ Aside0 (Kd.R (Kd.int .u64) 64 wc w.heap.size (fun _ => True) (.slice Ao20 t228.length co20) t228) ∧ Aside0 (Kd.R Kd.bool 4 wc w.heap.size (fun _ => True) (.slice Ao21 t231.length co21) t231) ∧ Aside0 (wc.heap[gb235]? = some (.cells #[.int .i64 t218, .int .i64 t219, (.slice Ao18 t220.length co18), (.slice Ao19 t223.length co19), .int .i64 t226, .int .i64 t227, (.slice Ao20 t228.length co20), (.slice Ao21 t231.length co21)] 30 (0, 0))) ∧ Aside0 (Below w.heap.size w wc))
             case first =>
              have H := HC54.out
              clear HC54
              by_cases c61 : t250 = 0
              ·
               rw [if_pos c61] at H
               have c61b0 : (t250 == 0) = true := beq_iff_eq.mpr c61
               have c61b1 : (t250 != 0) = false := bne_eq_false_iff_eq.mpr c61
               clear c61
               (first | rw [c61b0] | (simp only [i64_w, i32_w]; rw [c61b0]) | skip)
               by_cases c62 : t240 = 0
               ·
                rw [if_pos c62] at H
                exact absurd H (by simp)
               ·
                rw [if_neg c62] at H
                have c62b0 : (t240 == 0) = false := beq_eq_false_iff_ne.mpr c62
                have c62b1 : (t240 != 0) = true := bne_iff_ne.mpr c62
                focus
                 have H' := Aside0.mk H
                 clear H
                 have hcz63_0 : w60.cell? ⟨gb235, 0, none⟩ = some (.int .i64 t218) := (blk_cell BK235.out 0).trans rfl
                 have hcz63_1 : w60.cell? ⟨gb235, 1, none⟩ = some (.int .i64 t219) := (blk_cell BK235.out 1).trans rfl
                 have hcz63_2 : w60.cell? ⟨gb235, 2, none⟩ = some (.slice Ao18 t220.length co18) := (blk_cell BK235.out 2).trans rfl
                 have hcz63_3 : w60.cell? ⟨gb235, 3, none⟩ = some (.slice Ao19 t223.length co19) := (blk_cell BK235.out 3).trans rfl
                 have hcz63_4 : w60.cell? ⟨gb235, 4, none⟩ = some (.int .i64 t226) := (blk_cell BK235.out 4).trans rfl
                 have hcz63_5 : w60.cell? ⟨gb235, 5, none⟩ = some (.int .i64 t227) := (blk_cell BK235.out 5).trans rfl
                 have hcz63_6 : w60.cell? ⟨gb235, 6, none⟩ = some (.slice Ao20 t228.length co20) := (blk_cell BK235.out 6).trans rfl
                 have hcz63_7 : w60.cell? ⟨gb235, 7, none⟩ = some (.slice Ao21 t231.length co21) := (blk_cell BK235.out 7).trans rfl
                 have hfz63_0 := blk_frozen BK235.out 0
                 have hfz63_1 := blk_frozen BK235.out 1
                 have hfz63_2 := blk_frozen BK235.out 2
                 have hfz63_3 := blk_frozen BK235.out 3
                 have hfz63_4 := blk_frozen BK235.out 4
                 have hfz63_5 := blk_frozen BK235.out 5
                 have hfz63_6 := blk_frozen BK235.out 6
                 have hfz63_7 := blk_frozen BK235.out 7
                 go_wp2
                 go_meet
                 case rel => exact ⟨_, (decide ((IntKind.u64.wrap (t249)) > (IntKind.u64.wrap ((IntKind.u64.wrap (Int.tdiv (IntKind.u64.wrap (t226)) t240)) + 1)))), (by first | rfl | (simp; done) | (simp [*]; done)), H', ⟨by have := HJ12.out; have := HK2.out; first | omega | exact Nat.le_refl _⟩, ⟨by (with_reducible repeat (first | apply rrA | apply rrN | apply rrD)); exact Kd.R_mono HO_12.out (fun _ hk => hk.1)⟩, ⟨by (with_reducible repeat (first | apply rrA | apply rrN | apply rrD)); exact HO_236002.out⟩, ⟨by (with_reducible repeat (first | apply rrA | apply rrN | apply rrD)); exact Kd.R_mono HO_236003.out (fun _ hk => hk.1)⟩, ⟨by (with_reducible repeat (first | apply rrA | apply rrN | apply rrD)); exact HO_236006.out⟩, ⟨by (with_reducible repeat (first | apply rrA | apply rrN | apply rrD)); exact HO_236007.out⟩, ⟨by (with_reducible repeat (first | refine kkN ?_ _ | refine kkD ?_ | refine kkA ?_ _)); exact BK235.out⟩, ⟨by repeat (first | (with_reducible first | exact HB.out | apply zzA | apply zzN | apply zzD | refine below_set ?_ GE235.out) | exact HB.out)⟩⟩
              ·
               rw [if_neg c61] at H
               exact (thrumlaw10_QuantNear.j2_not (H.trans (by rw [HR_.out]))).elim
             case rest =>
              clear HC54
              try clear c1
              try clear c2
              try clear p2
              try clear q2
              try clear hx2
              try clear c3
              try clear c4
              try clear c5
              try clear c6
              try clear p6
              try clear c8
              try clear c10
              try clear c10b0
              try clear c10b1
              try clear c13
              try clear c24
              try clear p24
              try clear q24
              try clear hx24
              try clear c26
              try clear c27
              try clear c27b0
              try clear c27b1
              try clear c28
              try clear c28b0
              try clear c28b1
              try clear c44
              try clear c45
              try clear c46
              try clear c48
              try clear c49
              try clear c49b0
              try clear c50
              try clear c50b0
              try clear c51
              try clear c51b0
              try clear c52
              try clear c52b0
              try clear c61
              try clear c61b0
              try clear c61b1
              try clear c62
              try clear c62b0
              try clear c62b1
              try clear hcz17_0
              try clear hcz17_1
              try clear hcz17_2
              try clear hcz17_3
              try clear hcz17_4
              try clear hcz17_5
              try clear hcz17_6
              try clear hcz17_7
              try clear hcz29_0
              try clear hcz29_1
              try clear hcz29_2
              try clear hcz29_3
              try clear hcz29_4
              try clear hcz29_5
              try clear hcz29_6
              try clear hcz29_7
              try clear hcz31_0
              try clear hcz31_1
              try clear hcz31_2
              try clear hcz31_3
              try clear hcz31_4
              try clear hcz31_5
              try clear hcz31_6
              try clear hcz31_7
              try clear hcz34_0
              try clear hcz34_1
              try clear hcz34_2
              try clear hcz34_3
              try clear hcz34_4
              try clear hcz34_5
              try clear hcz34_6
              try clear hcz34_7
              try clear hcz36_0
              try clear hcz36_1
              try clear hcz36_2
              try clear hcz36_3
              try clear hcz36_4
              try clear hcz36_5
              try clear hcz36_6
              try clear hcz36_7
              try clear hcz38_0
              try clear hcz38_1
              try clear hcz38_2
              try clear hcz38_3
              try clear hcz38_4
              try clear hcz38_5
              try clear hcz38_6
              try clear hcz38_7
              try clear hcz40_0
              try clear hcz40_1
              try clear hcz40_2
              try clear hcz40_3
              try clear hcz40_4
              try clear hcz40_5
              try clear hcz40_6
              try clear hcz40_7
              try clear hcz42_0
              try clear hcz42_1
              try clear hcz42_2
              try clear hcz42_3
              try clear hcz42_4
              try clear hcz42_5
              try clear hcz42_6
              try clear hcz42_7
              try clear hcz44_0
              try clear hcz44_1
              try clear hcz44_2
              try clear hcz44_3
              try clear hcz44_4
              try clear hcz44_5
              try clear hcz44_6
              try clear hcz44_7
              try clear hcz46_0
              try clear hcz46_1
              try clear hcz46_2
              try clear hcz46_3
              try clear hcz46_4
              try clear hcz46_5
              try clear hcz46_6
              try clear hcz46_7
              try clear hcz63_0
              try clear hcz63_1
              try clear hcz63_2
              try clear hcz63_3
              try clear hcz63_4
              try clear hcz63_5
              try clear hcz63_6
              try clear hcz63_7
              try clear hfz17_0
              try clear hfz17_1
              try clear hfz17_2
              try clear hfz17_3
              try clear hfz17_4
              try clear hfz17_5
              try clear hfz17_6
              try clear hfz17_7
              try clear hfz29_0
              try clear hfz29_1
              try clear hfz29_2
              try clear hfz29_3
              try clear hfz29_4
              try clear hfz29_5
              try clear hfz29_6
              try clear hfz29_7
              try clear hfz31_0
              try clear hfz31_1
              try clear hfz31_2
              try clear hfz31_3
              try clear hfz31_4
              try clear hfz31_5
              try clear hfz31_6
              try clear hfz31_7
              try clear hfz34_0
              try clear hfz34_1
              try clear hfz34_2
              try clear hfz34_3
              try clear hfz34_4
              try clear hfz34_5
              try clear hfz34_6
              try clear hfz34_7
              try clear hfz36_0
              try clear hfz36_1
              try clear hfz36_2
              try clear hfz36_3
              try clear hfz36_4
              try clear hfz36_5
              try clear hfz36_6
              try clear hfz36_7
              try clear hfz38_0
              try clear hfz38_1
              try clear hfz38_2
              try clear hfz38_3
              try clear hfz38_4
              try clear hfz38_5
              try clear hfz38_6
              try clear hfz38_7
              try clear hfz40_0
              try clear hfz40_1
              try clear hfz40_2
              try clear hfz40_3
              try clear hfz40_4
              try clear hfz40_5
              try clear hfz40_6
              try clear hfz40_7
              try clear hfz42_0
              try clear hfz42_1
              try clear hfz42_2
              try clear hfz42_3
              try clear hfz42_4
              try clear hfz42_5
              try clear hfz42_6
              try clear hfz42_7
              try clear hfz44_0
              try clear hfz44_1
              try clear hfz44_2
              try clear hfz44_3
              try clear hfz44_4
              try clear hfz44_5
              try clear hfz44_6
              try clear hfz44_7
              try clear hfz46_0
              try clear hfz46_1
              try clear hfz46_2
              try clear hfz46_3
              try clear hfz46_4
              try clear hfz46_5
              try clear hfz46_6
              try clear hfz46_7
              try clear hfz63_0
              try clear hfz63_1
              try clear hfz63_2
              try clear hfz63_3
              try clear hfz63_4
              try clear hfz63_5
              try clear hfz63_6
              try clear hfz63_7
              try clear hx244_0
              try clear hx245_0
              try clear p2
              try clear p244
              try clear p245
              try clear q244
              try clear q245
              obtain ⟨kq, x108_53, rfl, HA, HJ53, HO_12, HO_236002, HO_236003, HO_236006, HO_236007, BK235, HB⟩ := hcut
              cases kq with
              | zero => exact absurd HA.out (by simp [thrumlaw10_QuantNear.j2])
              | succ kj53 =>
               have H := HA.out
               clear HA
               simp only [thrumlaw10_QuantNear.j2] at H
               by_cases c64 : x108_53 = true
               ·
                subst c64
                have H1 : (some false) = some r := by rw [if_pos rfl] at H; exact H
                exact absurd (Option.some.inj H1) (by rw [HR_.out]; decide)
               ·
                replace c64 := Bool.eq_false_iff.mpr c64
                subst c64
                have H1 : (if 0 ≤ x79_2 then (if x79_2 < (t236.length : Int) then (if (rd t236 x79_2) > 0 then (if x79_2 < (l0.length : Int) then (if (rd l0 x79_2) < 0 then (some false) else (if (rd t236 x79_2) < 0 then (if (rd l0 x79_2) > 0 then (some false) else ((thrumref09_Size.f (rd t236 x79_2)).bind fun t256 => (if t256 > (IntKind.u64.wrap (t226)) then (some false) else (thrumlaw10_QuantNear.l0 kj53 l0 true t236 t240 (l0.length : Int) (wrap64 (x79_2 + 1)) t218 t219 t220 t223 t226 t227 t228 t231)))) else ((thrumref09_Size.f (rd t236 x79_2)).bind fun t258 => (if t258 > (IntKind.u64.wrap (t226)) then (some false) else (thrumlaw10_QuantNear.l0 kj53 l0 true t236 t240 (l0.length : Int) (wrap64 (x79_2 + 1)) t218 t219 t220 t223 t226 t227 t228 t231))))) else (none)) else (if (rd t236 x79_2) < 0 then (if x79_2 < (l0.length : Int) then (if (rd l0 x79_2) > 0 then (some false) else ((thrumref09_Size.f (rd t236 x79_2)).bind fun t262 => (if t262 > (IntKind.u64.wrap (t226)) then (some false) else (thrumlaw10_QuantNear.l0 kj53 l0 true t236 t240 (l0.length : Int) (wrap64 (x79_2 + 1)) t218 t219 t220 t223 t226 t227 t228 t231)))) else (none)) else ((thrumref09_Size.f (rd t236 x79_2)).bind fun t264 => (if t264 > (IntKind.u64.wrap (t226)) then (some false) else (thrumlaw10_QuantNear.l0 kj53 l0 true t236 t240 (l0.length : Int) (wrap64 (x79_2 + 1)) t218 t219 t220 t223 t226 t227 t228 t231))))) else (none)) else (none)) = some r := by rw [if_neg (show ¬ (false = true) by decide)] at H; exact H
                clear H
                have H := H1
                clear H1
                by_cases c65 : 0 ≤ x79_2
                ·
                 rw [if_pos c65] at H
                 have c65b0 : decide (0 ≤ x79_2) = true := decide_eq_true c65
                 clear c65
                 by_cases c66 : x79_2 < (t236.length : Int)
                 ·
                  rw [if_pos c66] at H
                  have c66b0 : decide (x79_2 < (t236.length : Int)) = true := decide_eq_true c66
                  clear c66
                  by_cases c67 : (rd t236 x79_2) > 0
                  ·
                   rw [if_pos c67] at H
                   have c67b0 : decide (0 < (rd t236 x79_2)) = true := decide_eq_true c67
                   clear c67
                   by_cases c68 : x79_2 < (l0.length : Int)
                   ·
                    rw [if_pos c68] at H
                    have c68b0 : decide (x79_2 < (l0.length : Int)) = true := decide_eq_true c68
                    clear c68
                    by_cases c69 : (rd l0 x79_2) < 0
                    ·
                     rw [if_pos c69] at H
                     exact absurd (Option.some.inj H) (by rw [HR_.out]; decide)
                    ·
                     rw [if_neg c69] at H
                     have c69b0 : decide ((rd l0 x79_2) < 0) = false := decide_eq_false c69
                     clear c69
                     by_cases c71 : (rd t236 x79_2) < 0
                     ·
                      rw [if_pos c71] at H
                      have c71b0 : decide ((rd t236 x79_2) < 0) = true := decide_eq_true c71
                      clear c71
                      by_cases c72 : (rd l0 x79_2) > 0
                      ·
                       rw [if_pos c72] at H
                       exact absurd (Option.some.inj H) (by rw [HR_.out]; decide)
                      ·
                       rw [if_neg c72] at H
                       have c72b0 : decide (0 < (rd l0 x79_2)) = false := decide_eq_false c72
                       clear c72
                       replace H := Option.bind_eq_some_iff.mp H
                       obtain ⟨t256, A740, H⟩ := H
                       replace H : (if t256 > (IntKind.u64.wrap (t226)) then (some false) else (thrumlaw10_QuantNear.l0 kj53 l0 true t236 t240 (l0.length : Int) (wrap64 (x79_2 + 1)) t218 t219 t220 t223 t226 t227 t228 t231)) = some r := H
                       have A74 := Aside0.mk A740
                       clear A740
                       by_cases c75 : t256 > (IntKind.u64.wrap (t226))
                       ·
                        rw [if_pos c75] at H
                        exact absurd (Option.some.inj H) (by rw [HR_.out]; decide)
                       ·
                        rw [if_neg c75] at H
                        have c75b0 : decide ((IntKind.u64.wrap (t226)) < t256) = false := decide_eq_false c75
                        clear c75
                        focus
                         have H' := Aside0.mk H
                         clear H
                         try go_wp2
                         have n0_ := Aside0.mk (rrD HO_12.out)
                         have n1_ := Aside0.mk (rrD HO_236002.out)
                         have n2_ := Aside0.mk (rrD HO_236003.out)
                         have n3_ := Aside0.mk (rrD HO_236006.out)
                         have n4_ := Aside0.mk (rrD HO_236007.out)
                         have n5_ := Aside0.mk (kkD BK235.out)
                         have n6_ := Aside0.mk (zzD HB.out)
                         clear HO_12
                         clear HO_236002
                         clear HO_236003
                         clear HO_236006
                         clear HO_236007
                         clear BK235
                         clear HB
                         have HO_12 := n0_
                         have HO_236002 := n1_
                         have HO_236003 := n2_
                         have HO_236006 := n3_
                         have HO_236007 := n4_
                         have BK235 := n5_
                         have HB := n6_
                         clear n0_ n1_ n2_ n3_ n4_ n5_ n6_
                         have p251 : 0 ≤ (x79_2 : Int) := of_decide_eq_true (by first | (with_reducible assumption) | assumption)
                         have q251 : x79_2 < (t236.length : Int) := of_decide_eq_true (by first | (with_reducible assumption) | assumption)
                         obtain ⟨ad251, e251, hx251_0⟩ := Kd.at_int (Kd.R_reads' HO_12.out).2.2 x79_2 p251 q251
                         obtain rfl : ad245 = ad251 := (by injection e251)
                         replace p251 := eq_true p251
                         replace q251 := eq_true q251
                         have p252 : 0 ≤ (x79_2 : Int) := of_decide_eq_true (by first | (with_reducible assumption) | assumption)
                         have q252 : x79_2 < (l0.length : Int) := of_decide_eq_true (by first | (with_reducible assumption) | assumption)
                         obtain ⟨ad252, e252, hx252_0⟩ := Kd.at_int HR0.out x79_2 p252 q252
                         have hw252_0 := hx252_0
                         obtain rfl : ad244 = ad252 := (by injection e252)
                         replace hx252_0 := (HB.out.cell (World.block_lt_of_cell? w _ hx252_0)).trans hx252_0
                         replace p252 := eq_true p252
                         replace q252 := eq_true q252
                         have p253 : 0 ≤ (x79_2 : Int) := of_decide_eq_true (by first | (with_reducible assumption) | assumption)
                         have q253 : x79_2 < (t236.length : Int) := of_decide_eq_true (by first | (with_reducible assumption) | assumption)
                         obtain ⟨ad253, e253, hx253_0⟩ := Kd.at_int (Kd.R_reads' HO_12.out).2.2 x79_2 p253 q253
                         obtain rfl : ad245 = ad253 := (by injection e253)
                         replace p253 := eq_true p253
                         replace q253 := eq_true q253
                         have p254 : 0 ≤ (x79_2 : Int) := of_decide_eq_true (by first | (with_reducible assumption) | assumption)
                         have q254 : x79_2 < (l0.length : Int) := of_decide_eq_true (by first | (with_reducible assumption) | assumption)
                         obtain ⟨ad254, e254, hx254_0⟩ := Kd.at_int HR0.out x79_2 p254 q254
                         have hw254_0 := hx254_0
                         obtain rfl : ad244 = ad254 := (by injection e254)
                         replace hx254_0 := (HB.out.cell (World.block_lt_of_cell? w _ hx254_0)).trans hx254_0
                         replace p254 := eq_true p254
                         replace q254 := eq_true q254
                         have p255 : 0 ≤ (x79_2 : Int) := of_decide_eq_true (by first | (with_reducible assumption) | assumption)
                         have q255 : x79_2 < (t236.length : Int) := of_decide_eq_true (by first | (with_reducible assumption) | assumption)
                         obtain ⟨ad255, e255, hx255_0⟩ := Kd.at_int (Kd.R_reads' HO_12.out).2.2 x79_2 p255 q255
                         obtain rfl : ad245 = ad255 := (by injection e255)
                         replace p255 := eq_true p255
                         replace q255 := eq_true q255
                         refine start_ (n := 37) (S := fun w' => w'.cell? ⟨gb235, 0, none⟩ = some (.int .i64 t218) ∧ w'.cell? ⟨gb235, 1, none⟩ = some (.int .i64 t219) ∧ w'.cell? ⟨gb235, 2, none⟩ = some (.slice Ao18 t220.length co18) ∧ w'.cell? ⟨gb235, 3, none⟩ = some (.slice Ao19 t223.length co19) ∧ w'.cell? ⟨gb235, 4, none⟩ = some (.int .i64 t226) ∧ w'.cell? ⟨gb235, 5, none⟩ = some (.int .i64 t227) ∧ w'.cell? ⟨gb235, 6, none⟩ = some (.slice Ao20 t228.length co20) ∧ w'.cell? ⟨gb235, 7, none⟩ = some (.slice Ao21 t231.length co21) ∧ w'.cell? (ad245.add (x79_2).toNat) = some (.int .i64 (rd t236 x79_2)) ∧ w'.cell? (ad244.add (x79_2).toNat) = some (.int .i64 (rd l0 x79_2)) ∧ w'.cell? (ad245.add (x79_2).toNat) = some (.int .i64 (rd t236 x79_2)) ∧ w'.cell? (ad244.add (x79_2).toNat) = some (.int .i64 (rd l0 x79_2)) ∧ w'.cell? (ad245.add (x79_2).toNat) = some (.int .i64 (rd t236 x79_2))) (ds := []) #[false, false, false, false, false, false, false, false, false, false, false, false, false, false, false, false, false, false, false, false, false, false, false, false, false, false, false, false, false, false, false, false, false, false, false, false, false] (by kernel_rfl) rfl rfl ⟨(blk_cell BK235.out 0).trans rfl, (blk_cell BK235.out 1).trans rfl, (blk_cell BK235.out 2).trans rfl, (blk_cell BK235.out 3).trans rfl, (blk_cell BK235.out 4).trans rfl, (blk_cell BK235.out 5).trans rfl, (blk_cell BK235.out 6).trans rfl, (blk_cell BK235.out 7).trans rfl, hx251_0, ((HB.out.cell (World.block_lt_of_cell? w _ hw252_0)).trans hw252_0), hx253_0, ((HB.out.cell (World.block_lt_of_cell? w _ hw254_0)).trans hw254_0), hx255_0⟩ (fun hHeld => ?_); refine with_tabW thrumlaw10_QuantNear.tab19 thrumlaw10_QuantNear.bits19 (fun HT_ HW_ => ?_)
                         generalize wc.drew = w77 at HO_12 HO_236002 HO_236003 HO_236006 HO_236007 BK235 HB hx251_0 hx252_0 hx253_0 hx254_0 hx255_0 hHeld ⊢
                         refine pure_ (i := 0) (N := some 109) (v := ?_) (a' := ?_) #[true, false, false, false, false, false, false, false, false, false, false, false, false, false, false, false, false, false, false, false, false, false, false, false, false, false, false, false, false, false, false, false, false, false, false, false, false] rfl rfl (any_of HT_.out (by kernel_rfl)) (fun _ _ _ h => h) (Or.inl ⟨by rfl, ?_⟩) ?_ ?_
                         rotate_left
                         ·
                          intro w'
                          go_simp
                          with_reducible rfl
                         rotate_left
                         ·
                          simp only [Act.put, List.setIfInBounds_toArray, List.set_cons_zero, List.set_cons_succ, i64_w, i32_w]
                          rfl
                         refine pure_ (i := 1) (N := some 110) (v := ?_) (a' := ?_) #[true, true, false, false, false, false, false, false, false, false, false, false, false, false, false, false, false, false, false, false, false, false, false, false, false, false, false, false, false, false, false, false, false, false, false, false, false] rfl rfl (any_of HT_.out (by kernel_rfl)) (fun _ _ _ h => h) (Or.inl ⟨by rfl, ?_⟩) ?_ ?_
                         rotate_left
                         ·
                          intro w'
                          go_simp
                          with_reducible rfl
                         rotate_left
                         ·
                          simp only [Act.put, List.setIfInBounds_toArray, List.set_cons_zero, List.set_cons_succ, i64_w, i32_w]
                          rfl
                         refine pure_ (i := 2) (N := some 111) (v := ?_) (a' := ?_) #[true, true, true, false, false, false, false, false, false, false, false, false, false, false, false, false, false, false, false, false, false, false, false, false, false, false, false, false, false, false, false, false, false, false, false, false, false] rfl rfl (any_of HT_.out (by kernel_rfl)) (fun _ _ _ h => h) (Or.inl ⟨by rfl, ?_⟩) ?_ ?_
                         rotate_left
                         ·
                          intro w'
                          go_simp
                          with_reducible rfl
                         rotate_left
                         ·
                          simp only [Act.put, List.setIfInBounds_toArray, List.set_cons_zero, List.set_cons_succ, i64_w, i32_w]
                          rfl
                         refine take_ (i := 3) (N := some 112) (v := ?_) (a' := ?_) #[true, true, true, true, false, false, false, false, false, false, false, false, false, false, false, false, false, false, false, false, false, false, false, false, false, false, false, false, false, false, false, false, false, false, false, false, false] rfl rfl (take_ofW HT_.out HW_.out (by kernel_rfl)) (fun _ _ _ h => h) (Or.inl ⟨by rfl, ?_⟩) hHeld ?_ ?_
                         rotate_left
                         ·
                          rintro w' ⟨s0, s1, s2, s3, s4, s5, s6, s7, s8, s9, s10, s11, s12⟩
                          go_simp
                          with_reducible rfl
                         rotate_left
                         ·
                          simp only [Act.put, List.setIfInBounds_toArray, List.set_cons_zero, List.set_cons_succ, i64_w, i32_w]
                          rfl
                         refine pure_ (i := 4) (N := some 113) (v := ?_) (a' := ?_) #[true, true, true, true, true, false, false, false, false, false, false, false, false, false, false, false, false, false, false, false, false, false, false, false, false, false, false, false, false, false, false, false, false, false, false, false, false] rfl rfl (any_of HT_.out (by kernel_rfl)) (fun _ _ _ h => h) (Or.inl ⟨by rfl, ?_⟩) ?_ ?_
                         rotate_left
                         ·
                          intro w'
                          go_simp
                          with_reducible rfl
                         rotate_left
                         ·
                          simp only [Act.put, List.setIfInBounds_toArray, List.set_cons_zero, List.set_cons_succ, i64_w, i32_w]
                          rfl
                         refine pure_ (i := 5) (N := some 114) (v := ?_) (a' := ?_) #[true, true, true, true, true, true, false, false, false, false, false, false, false, false, false, false, false, false, false, false, false, false, false, false, false, false, false, false, false, false, false, false, false, false, false, false, false] rfl rfl (any_of HT_.out (by kernel_rfl)) (fun _ _ _ h => h) (Or.inl ⟨by rfl, ?_⟩) ?_ ?_
                         rotate_left
                         ·
                          intro w'
                          go_simp
                          with_reducible rfl
                         rotate_left
                         ·
                          simp only [Act.put, List.setIfInBounds_toArray, List.set_cons_zero, List.set_cons_succ, i64_w, i32_w]
                          rfl
                         refine pure_ (i := 6) (N := some 115) (v := ?_) (a' := ?_) #[true, true, true, true, true, true, true, false, false, false, false, false, false, false, false, false, false, false, false, false, false, false, false, false, false, false, false, false, false, false, false, false, false, false, false, false, false] rfl rfl (any_of HT_.out (by kernel_rfl)) (fun _ _ _ h => h) (Or.inl ⟨by rfl, ?_⟩) ?_ ?_
                         rotate_left
                         ·
                          intro w'
                          go_simp
                          with_reducible rfl
                         rotate_left
                         ·
                          simp only [Act.put, List.setIfInBounds_toArray, List.set_cons_zero, List.set_cons_succ, i64_w, i32_w]
                          rfl
                         refine pure_ (i := 7) (N := some 116) (v := ?_) (a' := ?_) #[true, true, true, true, true, true, true, true, false, false, false, false, false, false, false, false, false, false, false, false, false, false, false, false, false, false, false, false, false, false, false, false, false, false, false, false, false] rfl rfl (any_of HT_.out (by kernel_rfl)) (fun _ _ _ h => h) (Or.inl ⟨by rfl, ?_⟩) ?_ ?_
                         rotate_left
                         ·
                          intro w'
                          go_simp
                          with_reducible rfl
                         rotate_left
                         ·
                          simp only [Act.put, List.setIfInBounds_toArray, List.set_cons_zero, List.set_cons_succ, i64_w, i32_w]
                          rfl
                         refine pure_ (i := 8) (N := some 117) (v := ?_) (a' := ?_) #[true, true, true, true, true, true, true, true, true, false, false, false, false, false, false, false, false, false, false, false, false, false, false, false, false, false, false, false, false, false, false, false, false, false, false, false, false] rfl rfl (any_of HT_.out (by kernel_rfl)) (fun _ _ _ h => h) (Or.inl ⟨by rfl, ?_⟩) ?_ ?_
                         rotate_left
                         ·
                          intro w'
                          go_simp
                          with_reducible rfl
                         rotate_left
                         ·
                          simp only [Act.put, List.setIfInBounds_toArray, List.set_cons_zero, List.set_cons_succ, i64_w, i32_w]
                          rfl
                         refine take_ (i := 9) (N := some 118) (v := ?_) (a' := ?_) #[true, true, true, true, true, true, true, true, true, true, false, false, false, false, false, false, false, false, false, false, false, false, false, false, false, false, false, false, false, false, false, false, false, false, false, false, false] rfl rfl (take_ofW HT_.out HW_.out (by kernel_rfl)) (fun _ _ _ h => h) (Or.inl ⟨by rfl, ?_⟩) hHeld ?_ ?_
                         rotate_left
                         ·
                          rintro w' ⟨s0, s1, s2, s3, s4, s5, s6, s7, s8, s9, s10, s11, s12⟩
                          go_simp
                          with_reducible rfl
                         rotate_left
                         ·
                          simp only [Act.put, List.setIfInBounds_toArray, List.set_cons_zero, List.set_cons_succ, i64_w, i32_w]
                          rfl
                         refine pure_ (i := 10) (N := some 119) (v := ?_) (a' := ?_) #[true, true, true, true, true, true, true, true, true, true, true, false, false, false, false, false, false, false, false, false, false, false, false, false, false, false, false, false, false, false, false, false, false, false, false, false, false] rfl rfl (any_of HT_.out (by kernel_rfl)) (fun _ _ _ h => h) (Or.inl ⟨by rfl, ?_⟩) ?_ ?_
                         rotate_left
                         ·
                          intro w'
                          go_simp
                          with_reducible rfl
                         rotate_left
                         ·
                          simp only [Act.put, List.setIfInBounds_toArray, List.set_cons_zero, List.set_cons_succ, i64_w, i32_w]
                          rfl
                         refine pure_ (i := 11) (N := some 120) (v := ?_) (a' := ?_) #[true, true, true, true, true, true, true, true, true, true, true, true, false, false, false, false, false, false, false, false, false, false, false, false, false, false, false, false, false, false, false, false, false, false, false, false, false] rfl rfl (any_of HT_.out (by kernel_rfl)) (fun _ _ _ h => h) (Or.inl ⟨by rfl, ?_⟩) ?_ ?_
                         rotate_left
                         ·
                          intro w'
                          go_simp
                          with_reducible rfl
                         rotate_left
                         ·
                          simp only [Act.put, List.setIfInBounds_toArray, List.set_cons_zero, List.set_cons_succ, i64_w, i32_w]
                          rfl
                         refine pure_ (i := 12) (N := some 121) (v := ?_) (a' := ?_) #[true, true, true, true, true, true, true, true, true, true, true, true, true, false, false, false, false, false, false, false, false, false, false, false, false, false, false, false, false, false, false, false, false, false, false, false, false] rfl rfl (any_of HT_.out (by kernel_rfl)) (fun _ _ _ h => h) (Or.inl ⟨by rfl, ?_⟩) ?_ ?_
                         rotate_left
                         ·
                          intro w'
                          go_simp
                          with_reducible rfl
                         rotate_left
                         ·
                          simp only [Act.put, List.setIfInBounds_toArray, List.set_cons_zero, List.set_cons_succ, i64_w, i32_w]
                          rfl
                         refine pure_ (i := 13) (N := some 122) (v := ?_) (a' := ?_) #[true, true, true, true, true, true, true, true, true, true, true, true, true, true, false, false, false, false, false, false, false, false, false, false, false, false, false, false, false, false, false, false, false, false, false, false, false] rfl rfl (any_of HT_.out (by kernel_rfl)) (fun _ _ _ h => h) (Or.inl ⟨by rfl, ?_⟩) ?_ ?_
                         rotate_left
                         ·
                          intro w'
                          go_simp
                          with_reducible rfl
                         rotate_left
                         ·
                          simp only [Act.put, List.setIfInBounds_toArray, List.set_cons_zero, List.set_cons_succ, i64_w, i32_w]
                          rfl
                         refine pure_ (i := 14) (N := some 123) (v := ?_) (a' := ?_) #[true, true, true, true, true, true, true, true, true, true, true, true, true, true, true, false, false, false, false, false, false, false, false, false, false, false, false, false, false, false, false, false, false, false, false, false, false] rfl rfl (any_of HT_.out (by kernel_rfl)) (fun _ _ _ h => h) (Or.inl ⟨by rfl, ?_⟩) ?_ ?_
                         rotate_left
                         ·
                          intro w'
                          go_simp
                          with_reducible rfl
                         rotate_left
                         ·
                          simp only [Act.put, List.setIfInBounds_toArray, List.set_cons_zero, List.set_cons_succ, i64_w, i32_w]
                          rfl
                         refine pure_ (i := 15) (N := some 124) (v := ?_) (a' := ?_) #[true, true, true, true, true, true, true, true, true, true, true, true, true, true, true, true, false, false, false, false, false, false, false, false, false, false, false, false, false, false, false, false, false, false, false, false, false] rfl rfl (any_of HT_.out (by kernel_rfl)) (fun _ _ _ h => h) (Or.inl ⟨by rfl, ?_⟩) ?_ ?_
                         rotate_left
                         ·
                          intro w'
                          go_simp
                          with_reducible rfl
                         rotate_left
                         ·
                          simp only [Act.put, List.setIfInBounds_toArray, List.set_cons_zero, List.set_cons_succ, i64_w, i32_w]
                          rfl
                         refine take_ (i := 16) (N := some 125) (v := ?_) (a' := ?_) #[true, true, true, true, true, true, true, true, true, true, true, true, true, true, true, true, true, false, false, false, false, false, false, false, false, false, false, false, false, false, false, false, false, false, false, false, false] rfl rfl (take_ofW HT_.out HW_.out (by kernel_rfl)) (fun _ _ _ h => h) (Or.inl ⟨by rfl, ?_⟩) hHeld ?_ ?_
                         rotate_left
                         ·
                          rintro w' ⟨s0, s1, s2, s3, s4, s5, s6, s7, s8, s9, s10, s11, s12⟩
                          go_simp
                          with_reducible rfl
                         rotate_left
                         ·
                          simp only [Act.put, List.setIfInBounds_toArray, List.set_cons_zero, List.set_cons_succ, i64_w, i32_w]
                          rfl
                         refine pure_ (i := 17) (N := some 126) (v := ?_) (a' := ?_) #[true, true, true, true, true, true, true, true, true, true, true, true, true, true, true, true, true, true, false, false, false, false, false, false, false, false, false, false, false, false, false, false, false, false, false, false, false] rfl rfl (any_of HT_.out (by kernel_rfl)) (fun _ _ _ h => h) (Or.inl ⟨by rfl, ?_⟩) ?_ ?_
                         rotate_left
                         ·
                          intro w'
                          go_simp
                          with_reducible rfl
                         rotate_left
                         ·
                          simp only [Act.put, List.setIfInBounds_toArray, List.set_cons_zero, List.set_cons_succ, i64_w, i32_w]
                          rfl
                         refine pure_ (i := 18) (N := some 127) (v := ?_) (a' := ?_) #[true, true, true, true, true, true, true, true, true, true, true, true, true, true, true, true, true, true, true, false, false, false, false, false, false, false, false, false, false, false, false, false, false, false, false, false, false] rfl rfl (any_of HT_.out (by kernel_rfl)) (fun _ _ _ h => h) (Or.inl ⟨by rfl, ?_⟩) ?_ ?_
                         rotate_left
                         ·
                          intro w'
                          go_simp
                          with_reducible rfl
                         rotate_left
                         ·
                          simp only [Act.put, List.setIfInBounds_toArray, List.set_cons_zero, List.set_cons_succ, i64_w, i32_w]
                          rfl
                         refine pure_ (i := 19) (N := some 128) (v := ?_) (a' := ?_) #[true, true, true, true, true, true, true, true, true, true, true, true, true, true, true, true, true, true, true, true, false, false, false, false, false, false, false, false, false, false, false, false, false, false, false, false, false] rfl rfl (any_of HT_.out (by kernel_rfl)) (fun _ _ _ h => h) (Or.inl ⟨by rfl, ?_⟩) ?_ ?_
                         rotate_left
                         ·
                          intro w'
                          go_simp
                          with_reducible rfl
                         rotate_left
                         ·
                          simp only [Act.put, List.setIfInBounds_toArray, List.set_cons_zero, List.set_cons_succ, i64_w, i32_w]
                          rfl
                         refine pure_ (i := 20) (N := some 129) (v := ?_) (a' := ?_) #[true, true, true, true, true, true, true, true, true, true, true, true, true, true, true, true, true, true, true, true, true, false, false, false, false, false, false, false, false, false, false, false, false, false, false, false, false] rfl rfl (any_of HT_.out (by kernel_rfl)) (fun _ _ _ h => h) (Or.inl ⟨by rfl, ?_⟩) ?_ ?_
                         rotate_left
                         ·
                          intro w'
                          go_simp
                          with_reducible rfl
                         rotate_left
                         ·
                          simp only [Act.put, List.setIfInBounds_toArray, List.set_cons_zero, List.set_cons_succ, i64_w, i32_w]
                          rfl
                         refine pure_ (i := 21) (N := some 130) (v := ?_) (a' := ?_) #[true, true, true, true, true, true, true, true, true, true, true, true, true, true, true, true, true, true, true, true, true, true, false, false, false, false, false, false, false, false, false, false, false, false, false, false, false] rfl rfl (any_of HT_.out (by kernel_rfl)) (fun _ _ _ h => h) (Or.inl ⟨by rfl, ?_⟩) ?_ ?_
                         rotate_left
                         ·
                          intro w'
                          go_simp
                          with_reducible rfl
                         rotate_left
                         ·
                          simp only [Act.put, List.setIfInBounds_toArray, List.set_cons_zero, List.set_cons_succ, i64_w, i32_w]
                          rfl
                         refine take_ (i := 22) (N := some 131) (v := ?_) (a' := ?_) #[true, true, true, true, true, true, true, true, true, true, true, true, true, true, true, true, true, true, true, true, true, true, true, false, false, false, false, false, false, false, false, false, false, false, false, false, false] rfl rfl (take_ofW HT_.out HW_.out (by kernel_rfl)) (fun _ _ _ h => h) (Or.inl ⟨by rfl, ?_⟩) hHeld ?_ ?_
                         rotate_left
                         ·
                          rintro w' ⟨s0, s1, s2, s3, s4, s5, s6, s7, s8, s9, s10, s11, s12⟩
                          go_simp
                          with_reducible rfl
                         rotate_left
                         ·
                          simp only [Act.put, List.setIfInBounds_toArray, List.set_cons_zero, List.set_cons_succ, i64_w, i32_w]
                          rfl
                         refine pure_ (i := 23) (N := some 132) (v := ?_) (a' := ?_) #[true, true, true, true, true, true, true, true, true, true, true, true, true, true, true, true, true, true, true, true, true, true, true, true, false, false, false, false, false, false, false, false, false, false, false, false, false] rfl rfl (any_of HT_.out (by kernel_rfl)) (fun _ _ _ h => h) (Or.inl ⟨by rfl, ?_⟩) ?_ ?_
                         rotate_left
                         ·
                          intro w'
                          go_simp
                          with_reducible rfl
                         rotate_left
                         ·
                          simp only [Act.put, List.setIfInBounds_toArray, List.set_cons_zero, List.set_cons_succ, i64_w, i32_w]
                          rfl
                         refine pure_ (i := 24) (N := some 133) (v := ?_) (a' := ?_) #[true, true, true, true, true, true, true, true, true, true, true, true, true, true, true, true, true, true, true, true, true, true, true, true, true, false, false, false, false, false, false, false, false, false, false, false, false] rfl rfl (any_of HT_.out (by kernel_rfl)) (fun _ _ _ h => h) (Or.inl ⟨by rfl, ?_⟩) ?_ ?_
                         rotate_left
                         ·
                          intro w'
                          go_simp
                          with_reducible rfl
                         rotate_left
                         ·
                          simp only [Act.put, List.setIfInBounds_toArray, List.set_cons_zero, List.set_cons_succ, i64_w, i32_w]
                          rfl
                         refine pure_ (i := 25) (N := some 134) (v := ?_) (a' := ?_) #[true, true, true, true, true, true, true, true, true, true, true, true, true, true, true, true, true, true, true, true, true, true, true, true, true, true, false, false, false, false, false, false, false, false, false, false, false] rfl rfl (any_of HT_.out (by kernel_rfl)) (fun _ _ _ h => h) (Or.inl ⟨by rfl, ?_⟩) ?_ ?_
                         rotate_left
                         ·
                          intro w'
                          go_simp
                          with_reducible rfl
                         rotate_left
                         ·
                          simp only [Act.put, List.setIfInBounds_toArray, List.set_cons_zero, List.set_cons_succ, i64_w, i32_w]
                          rfl
                         refine pure_ (i := 26) (N := some 135) (v := ?_) (a' := ?_) #[true, true, true, true, true, true, true, true, true, true, true, true, true, true, true, true, true, true, true, true, true, true, true, true, true, true, true, false, false, false, false, false, false, false, false, false, false] rfl rfl (any_of HT_.out (by kernel_rfl)) (fun _ _ _ h => h) (Or.inl ⟨by rfl, ?_⟩) ?_ ?_
                         rotate_left
                         ·
                          intro w'
                          go_simp
                          with_reducible rfl
                         rotate_left
                         ·
                          simp only [Act.put, List.setIfInBounds_toArray, List.set_cons_zero, List.set_cons_succ, i64_w, i32_w]
                          rfl
                         refine pure_ (i := 27) (N := some 136) (v := ?_) (a' := ?_) #[true, true, true, true, true, true, true, true, true, true, true, true, true, true, true, true, true, true, true, true, true, true, true, true, true, true, true, true, false, false, false, false, false, false, false, false, false] rfl rfl (any_of HT_.out (by kernel_rfl)) (fun _ _ _ h => h) (Or.inl ⟨by rfl, ?_⟩) ?_ ?_
                         rotate_left
                         ·
                          intro w'
                          go_simp
                          with_reducible rfl
                         rotate_left
                         ·
                          simp only [Act.put, List.setIfInBounds_toArray, List.set_cons_zero, List.set_cons_succ, i64_w, i32_w]
                          rfl
                         refine pure_ (i := 28) (N := some 137) (v := ?_) (a' := ?_) #[true, true, true, true, true, true, true, true, true, true, true, true, true, true, true, true, true, true, true, true, true, true, true, true, true, true, true, true, true, false, false, false, false, false, false, false, false] rfl rfl (any_of HT_.out (by kernel_rfl)) (fun _ _ _ h => h) (Or.inl ⟨by rfl, ?_⟩) ?_ ?_
                         rotate_left
                         ·
                          intro w'
                          go_simp
                          with_reducible rfl
                         rotate_left
                         ·
                          simp only [Act.put, List.setIfInBounds_toArray, List.set_cons_zero, List.set_cons_succ, i64_w, i32_w]
                          rfl
                         refine pure_ (i := 29) (N := some 138) (v := ?_) (a' := ?_) #[true, true, true, true, true, true, true, true, true, true, true, true, true, true, true, true, true, true, true, true, true, true, true, true, true, true, true, true, true, true, false, false, false, false, false, false, false] rfl rfl (any_of HT_.out (by kernel_rfl)) (fun _ _ _ h => h) (Or.inl ⟨by rfl, ?_⟩) ?_ ?_
                         rotate_left
                         ·
                          intro w'
                          go_simp
                          with_reducible rfl
                         rotate_left
                         ·
                          simp only [Act.put, List.setIfInBounds_toArray, List.set_cons_zero, List.set_cons_succ, i64_w, i32_w]
                          rfl
                         refine pure_ (i := 32) (N := some 141) (v := ?_) (a' := ?_) #[true, true, true, true, true, true, true, true, true, true, true, true, true, true, true, true, true, true, true, true, true, true, true, true, true, true, true, true, true, true, false, false, true, false, false, false, false] rfl rfl (any_of HT_.out (by kernel_rfl)) (fun _ _ _ h => h) (Or.inl ⟨by rfl, ?_⟩) ?_ ?_
                         rotate_left
                         ·
                          intro w'
                          go_simp
                          with_reducible rfl
                         rotate_left
                         ·
                          simp only [Act.put, List.setIfInBounds_toArray, List.set_cons_zero, List.set_cons_succ, i64_w, i32_w]
                          rfl
                         refine take_ (i := 30) (N := some 139) (v := ?_) (a' := ?_) #[true, true, true, true, true, true, true, true, true, true, true, true, true, true, true, true, true, true, true, true, true, true, true, true, true, true, true, true, true, true, true, false, true, false, false, false, false] rfl rfl (take_ofW HT_.out HW_.out (by kernel_rfl)) (fun _ _ _ h => h) (Or.inl ⟨by rfl, ?_⟩) hHeld ?_ ?_
                         rotate_left
                         ·
                          rintro w' ⟨s0, s1, s2, s3, s4, s5, s6, s7, s8, s9, s10, s11, s12⟩
                          go_simp
                          with_reducible rfl
                         rotate_left
                         ·
                          simp only [Act.put, List.setIfInBounds_toArray, List.set_cons_zero, List.set_cons_succ, i64_w, i32_w]
                          rfl
                         refine take_ (i := 33) (N := some 142) (v := ?_) (a' := ?_) #[true, true, true, true, true, true, true, true, true, true, true, true, true, true, true, true, true, true, true, true, true, true, true, true, true, true, true, true, true, true, true, false, true, true, false, false, false] rfl rfl (take_ofW HT_.out HW_.out (by kernel_rfl)) (fun _ _ _ h => h) (Or.inl ⟨by rfl, ?_⟩) hHeld ?_ ?_
                         rotate_left
                         ·
                          rintro w' ⟨s0, s1, s2, s3, s4, s5, s6, s7, s8, s9, s10, s11, s12⟩
                          go_simp
                          with_reducible rfl
                         rotate_left
                         ·
                          simp only [Act.put, List.setIfInBounds_toArray, List.set_cons_zero, List.set_cons_succ, i64_w, i32_w]
                          rfl
                         refine pure_ (i := 34) (N := some 143) (v := ?_) (a' := ?_) #[true, true, true, true, true, true, true, true, true, true, true, true, true, true, true, true, true, true, true, true, true, true, true, true, true, true, true, true, true, true, true, false, true, true, true, false, false] rfl rfl (any_of HT_.out (by kernel_rfl)) (fun _ _ _ h => h) (Or.inl ⟨by rfl, ?_⟩) ?_ ?_
                         rotate_left
                         ·
                          intro w'
                          go_simp
                          with_reducible rfl
                         rotate_left
                         ·
                          simp only [Act.put, List.setIfInBounds_toArray, List.set_cons_zero, List.set_cons_succ, i64_w, i32_w]
                          rfl
                         refine one_ (i := 31) (N := some 140) #[true, true, true, true, true, true, true, true, true, true, true, true, true, true, true, true, true, true, true, true, true, true, true, true, true, true, true, true, true, true, true, true, true, true, true, false, false] rfl rfl (one_of HT_.out (by kernel_rfl)) (by decide) (fun K hK => ?_)
                         refine goes_ Try.func53 (by kernel_rfl) rfl #[.int .i64 (rd t236 x79_2)] (by rfl) rfl rfl (by (try simp only [List.map_toArray, List.map_cons, List.map_nil]); first | done | rfl | (simp only [List.length_drop, List.length_take]; rfl)) ?_
                         with_reducible refine (thrumref09_Size.calls (rd t236 x79_2) t256 _ A74.out).mono ?_
                         rintro e w' ⟨rfl, ⟨nd, rfl⟩⟩
                         refine ⟨_, rfl, ?_⟩
                         refine hK.out _ _ ⟨(blk_cell BK235.out 0).trans rfl, (blk_cell BK235.out 1).trans rfl, (blk_cell BK235.out 2).trans rfl, (blk_cell BK235.out 3).trans rfl, (blk_cell BK235.out 4).trans rfl, (blk_cell BK235.out 5).trans rfl, (blk_cell BK235.out 6).trans rfl, (blk_cell BK235.out 7).trans rfl, hHeld.2.2.2.2.2.2.2.2.1, ((HB.out.cell (World.block_lt_of_cell? w _ hw252_0)).trans hw252_0), hHeld.2.2.2.2.2.2.2.2.2.2.1, ((HB.out.cell (World.block_lt_of_cell? w _ hw254_0)).trans hw254_0), hHeld.2.2.2.2.2.2.2.2.2.2.2.2⟩ (fun hHeld => ?_)
                         clear hK K
                         refine norm_ (a' := ?_) ?_ ?_
                         rotate_left
                         ·
                          show Act.put _ (some 140) _ = _
                          simp only [Act.put, List.setIfInBounds_toArray, List.set_cons_zero, List.set_cons_succ, i64_w, i32_w]
                          rfl
                         refine pure_ (i := 35) (N := some 144) (v := ?_) (a' := ?_) #[true, true, true, true, true, true, true, true, true, true, true, true, true, true, true, true, true, true, true, true, true, true, true, true, true, true, true, true, true, true, true, true, true, true, true, true, false] rfl rfl (any_of HT_.out (by kernel_rfl)) (fun _ _ _ h => h) (Or.inl ⟨by rfl, ?_⟩) ?_ ?_
                         rotate_left
                         ·
                          intro w'
                          go_simp
                          with_reducible rfl
                         rotate_left
                         ·
                          simp only [Act.put, List.setIfInBounds_toArray, List.set_cons_zero, List.set_cons_succ, i64_w, i32_w]
                          rfl
                         refine pure_ (i := 36) (N := some 145) (v := ?_) (a' := ?_) #[true, true, true, true, true, true, true, true, true, true, true, true, true, true, true, true, true, true, true, true, true, true, true, true, true, true, true, true, true, true, true, true, true, true, true, true, true] rfl rfl (any_of HT_.out (by kernel_rfl)) (fun _ _ _ h => h) (Or.inl ⟨by rfl, ?_⟩) ?_ ?_
                         rotate_left
                         ·
                          intro w'
                          go_simp
                          with_reducible rfl
                         rotate_left
                         ·
                          simp only [Act.put, List.setIfInBounds_toArray, List.set_cons_zero, List.set_cons_succ, i64_w, i32_w]
                          rfl
                         refine done_ (done_of HT_.out (by kernel_rfl)) ?_
                         try go_wp2
                         go_roundg kj53
                         case measure => have := HJ12.out; have := HK2.out; have := HJ53.out; omega
                         case rel => exact ⟨(wrap64 (x79_2 + 1)), (by first | rfl | (simp; done) | (simp [*]; done)), H', ⟨by have := HJ12.out; have := HK2.out; have := HJ53.out; omega⟩, ⟨by (with_reducible repeat (first | apply rrA | apply rrN | apply rrD)); exact HO_12.out⟩, ⟨by (with_reducible repeat (first | apply rrA | apply rrN | apply rrD)); exact HO_236002.out⟩, ⟨by (with_reducible repeat (first | apply rrA | apply rrN | apply rrD)); exact HO_236003.out⟩, ⟨by (with_reducible repeat (first | apply rrA | apply rrN | apply rrD)); exact HO_236006.out⟩, ⟨by (with_reducible repeat (first | apply rrA | apply rrN | apply rrD)); exact HO_236007.out⟩, ⟨by (with_reducible repeat (first | refine kkN ?_ _ | refine kkD ?_ | refine kkA ?_ _)); exact BK235.out⟩, ⟨by repeat (first | (with_reducible first | exact HB.out | apply zzA | apply zzN | apply zzD | refine below_set ?_ GE235.out) | exact HB.out)⟩⟩
                     ·
                      rw [if_neg c71] at H
                      have c71b0 : decide ((rd t236 x79_2) < 0) = false := decide_eq_false c71
                      clear c71
                      replace H := Option.bind_eq_some_iff.mp H
                      obtain ⟨t258, A780, H⟩ := H
                      replace H : (if t258 > (IntKind.u64.wrap (t226)) then (some false) else (thrumlaw10_QuantNear.l0 kj53 l0 true t236 t240 (l0.length : Int) (wrap64 (x79_2 + 1)) t218 t219 t220 t223 t226 t227 t228 t231)) = some r := H
                      have A78 := Aside0.mk A780
                      clear A780
                      by_cases c79 : t258 > (IntKind.u64.wrap (t226))
                      ·
                       rw [if_pos c79] at H
                       exact absurd (Option.some.inj H) (by rw [HR_.out]; decide)
                      ·
                       rw [if_neg c79] at H
                       have c79b0 : decide ((IntKind.u64.wrap (t226)) < t258) = false := decide_eq_false c79
                       clear c79
                       focus
                        have H' := Aside0.mk H
                        clear H
                        try go_wp2
                        have n0_ := Aside0.mk (rrD HO_12.out)
                        have n1_ := Aside0.mk (rrD HO_236002.out)
                        have n2_ := Aside0.mk (rrD HO_236003.out)
                        have n3_ := Aside0.mk (rrD HO_236006.out)
                        have n4_ := Aside0.mk (rrD HO_236007.out)
                        have n5_ := Aside0.mk (kkD BK235.out)
                        have n6_ := Aside0.mk (zzD HB.out)
                        clear HO_12
                        clear HO_236002
                        clear HO_236003
                        clear HO_236006
                        clear HO_236007
                        clear BK235
                        clear HB
                        have HO_12 := n0_
                        have HO_236002 := n1_
                        have HO_236003 := n2_
                        have HO_236006 := n3_
                        have HO_236007 := n4_
                        have BK235 := n5_
                        have HB := n6_
                        clear n0_ n1_ n2_ n3_ n4_ n5_ n6_
                        have p251 : 0 ≤ (x79_2 : Int) := of_decide_eq_true (by first | (with_reducible assumption) | assumption)
                        have q251 : x79_2 < (t236.length : Int) := of_decide_eq_true (by first | (with_reducible assumption) | assumption)
                        obtain ⟨ad251, e251, hx251_0⟩ := Kd.at_int (Kd.R_reads' HO_12.out).2.2 x79_2 p251 q251
                        obtain rfl : ad245 = ad251 := (by injection e251)
                        replace p251 := eq_true p251
                        replace q251 := eq_true q251
                        have p252 : 0 ≤ (x79_2 : Int) := of_decide_eq_true (by first | (with_reducible assumption) | assumption)
                        have q252 : x79_2 < (l0.length : Int) := of_decide_eq_true (by first | (with_reducible assumption) | assumption)
                        obtain ⟨ad252, e252, hx252_0⟩ := Kd.at_int HR0.out x79_2 p252 q252
                        have hw252_0 := hx252_0
                        obtain rfl : ad244 = ad252 := (by injection e252)
                        replace hx252_0 := (HB.out.cell (World.block_lt_of_cell? w _ hx252_0)).trans hx252_0
                        replace p252 := eq_true p252
                        replace q252 := eq_true q252
                        have p253 : 0 ≤ (x79_2 : Int) := of_decide_eq_true (by first | (with_reducible assumption) | assumption)
                        have q253 : x79_2 < (t236.length : Int) := of_decide_eq_true (by first | (with_reducible assumption) | assumption)
                        obtain ⟨ad253, e253, hx253_0⟩ := Kd.at_int (Kd.R_reads' HO_12.out).2.2 x79_2 p253 q253
                        obtain rfl : ad245 = ad253 := (by injection e253)
                        replace p253 := eq_true p253
                        replace q253 := eq_true q253
                        have p257 : 0 ≤ (x79_2 : Int) := of_decide_eq_true (by first | (with_reducible assumption) | assumption)
                        have q257 : x79_2 < (t236.length : Int) := of_decide_eq_true (by first | (with_reducible assumption) | assumption)
                        obtain ⟨ad257, e257, hx257_0⟩ := Kd.at_int (Kd.R_reads' HO_12.out).2.2 x79_2 p257 q257
                        obtain rfl : ad245 = ad257 := (by injection e257)
                        replace p257 := eq_true p257
                        replace q257 := eq_true q257
                        refine start_ (n := 37) (S := fun w' => w'.cell? ⟨gb235, 0, none⟩ = some (.int .i64 t218) ∧ w'.cell? ⟨gb235, 1, none⟩ = some (.int .i64 t219) ∧ w'.cell? ⟨gb235, 2, none⟩ = some (.slice Ao18 t220.length co18) ∧ w'.cell? ⟨gb235, 3, none⟩ = some (.slice Ao19 t223.length co19) ∧ w'.cell? ⟨gb235, 4, none⟩ = some (.int .i64 t226) ∧ w'.cell? ⟨gb235, 5, none⟩ = some (.int .i64 t227) ∧ w'.cell? ⟨gb235, 6, none⟩ = some (.slice Ao20 t228.length co20) ∧ w'.cell? ⟨gb235, 7, none⟩ = some (.slice Ao21 t231.length co21) ∧ w'.cell? (ad245.add (x79_2).toNat) = some (.int .i64 (rd t236 x79_2)) ∧ w'.cell? (ad244.add (x79_2).toNat) = some (.int .i64 (rd l0 x79_2)) ∧ w'.cell? (ad245.add (x79_2).toNat) = some (.int .i64 (rd t236 x79_2)) ∧ w'.cell? (ad245.add (x79_2).toNat) = some (.int .i64 (rd t236 x79_2))) (ds := []) #[false, false, false, false, false, false, false, false, false, false, false, false, false, false, false, false, false, false, false, false, false, false, false, false, false, false, false, false, false, false, false, false, false, false, false, false, false] (by kernel_rfl) rfl rfl ⟨(blk_cell BK235.out 0).trans rfl, (blk_cell BK235.out 1).trans rfl, (blk_cell BK235.out 2).trans rfl, (blk_cell BK235.out 3).trans rfl, (blk_cell BK235.out 4).trans rfl, (blk_cell BK235.out 5).trans rfl, (blk_cell BK235.out 6).trans rfl, (blk_cell BK235.out 7).trans rfl, hx251_0, ((HB.out.cell (World.block_lt_of_cell? w _ hw252_0)).trans hw252_0), hx253_0, hx257_0⟩ (fun hHeld => ?_); refine with_tabW thrumlaw10_QuantNear.tab19 thrumlaw10_QuantNear.bits19 (fun HT_ HW_ => ?_)
                        generalize wc.drew = w81 at HO_12 HO_236002 HO_236003 HO_236006 HO_236007 BK235 HB hx251_0 hx252_0 hx253_0 hx257_0 hHeld ⊢
                        refine pure_ (i := 0) (N := some 109) (v := ?_) (a' := ?_) #[true, false, false, false, false, false, false, false, false, false, false, false, false, false, false, false, false, false, false, false, false, false, false, false, false, false, false, false, false, false, false, false, false, false, false, false, false] rfl rfl (any_of HT_.out (by kernel_rfl)) (fun _ _ _ h => h) (Or.inl ⟨by rfl, ?_⟩) ?_ ?_
                        rotate_left
                        ·
                         intro w'
                         go_simp
                         with_reducible rfl
                        rotate_left
                        ·
                         simp only [Act.put, List.setIfInBounds_toArray, List.set_cons_zero, List.set_cons_succ, i64_w, i32_w]
                         rfl
                        refine pure_ (i := 1) (N := some 110) (v := ?_) (a' := ?_) #[true, true, false, false, false, false, false, false, false, false, false, false, false, false, false, false, false, false, false, false, false, false, false, false, false, false, false, false, false, false, false, false, false, false, false, false, false] rfl rfl (any_of HT_.out (by kernel_rfl)) (fun _ _ _ h => h) (Or.inl ⟨by rfl, ?_⟩) ?_ ?_
                        rotate_left
                        ·
                         intro w'
                         go_simp
                         with_reducible rfl
                        rotate_left
                        ·
                         simp only [Act.put, List.setIfInBounds_toArray, List.set_cons_zero, List.set_cons_succ, i64_w, i32_w]
                         rfl
                        refine pure_ (i := 2) (N := some 111) (v := ?_) (a' := ?_) #[true, true, true, false, false, false, false, false, false, false, false, false, false, false, false, false, false, false, false, false, false, false, false, false, false, false, false, false, false, false, false, false, false, false, false, false, false] rfl rfl (any_of HT_.out (by kernel_rfl)) (fun _ _ _ h => h) (Or.inl ⟨by rfl, ?_⟩) ?_ ?_
                        rotate_left
                        ·
                         intro w'
                         go_simp
                         with_reducible rfl
                        rotate_left
                        ·
                         simp only [Act.put, List.setIfInBounds_toArray, List.set_cons_zero, List.set_cons_succ, i64_w, i32_w]
                         rfl
                        refine take_ (i := 3) (N := some 112) (v := ?_) (a' := ?_) #[true, true, true, true, false, false, false, false, false, false, false, false, false, false, false, false, false, false, false, false, false, false, false, false, false, false, false, false, false, false, false, false, false, false, false, false, false] rfl rfl (take_ofW HT_.out HW_.out (by kernel_rfl)) (fun _ _ _ h => h) (Or.inl ⟨by rfl, ?_⟩) hHeld ?_ ?_
                        rotate_left
                        ·
                         rintro w' ⟨s0, s1, s2, s3, s4, s5, s6, s7, s8, s9, s10, s11⟩
                         go_simp
                         with_reducible rfl
                        rotate_left
                        ·
                         simp only [Act.put, List.setIfInBounds_toArray, List.set_cons_zero, List.set_cons_succ, i64_w, i32_w]
                         rfl
                        refine pure_ (i := 4) (N := some 113) (v := ?_) (a' := ?_) #[true, true, true, true, true, false, false, false, false, false, false, false, false, false, false, false, false, false, false, false, false, false, false, false, false, false, false, false, false, false, false, false, false, false, false, false, false] rfl rfl (any_of HT_.out (by kernel_rfl)) (fun _ _ _ h => h) (Or.inl ⟨by rfl, ?_⟩) ?_ ?_
                        rotate_left
                        ·
                         intro w'
                         go_simp
                         with_reducible rfl
                        rotate_left
                        ·
                         simp only [Act.put, List.setIfInBounds_toArray, List.set_cons_zero, List.set_cons_succ, i64_w, i32_w]
                         rfl
                        refine pure_ (i := 5) (N := some 114) (v := ?_) (a' := ?_) #[true, true, true, true, true, true, false, false, false, false, false, false, false, false, false, false, false, false, false, false, false, false, false, false, false, false, false, false, false, false, false, false, false, false, false, false, false] rfl rfl (any_of HT_.out (by kernel_rfl)) (fun _ _ _ h => h) (Or.inl ⟨by rfl, ?_⟩) ?_ ?_
                        rotate_left
                        ·
                         intro w'
                         go_simp
                         with_reducible rfl
                        rotate_left
                        ·
                         simp only [Act.put, List.setIfInBounds_toArray, List.set_cons_zero, List.set_cons_succ, i64_w, i32_w]
                         rfl
                        refine pure_ (i := 6) (N := some 115) (v := ?_) (a' := ?_) #[true, true, true, true, true, true, true, false, false, false, false, false, false, false, false, false, false, false, false, false, false, false, false, false, false, false, false, false, false, false, false, false, false, false, false, false, false] rfl rfl (any_of HT_.out (by kernel_rfl)) (fun _ _ _ h => h) (Or.inl ⟨by rfl, ?_⟩) ?_ ?_
                        rotate_left
                        ·
                         intro w'
                         go_simp
                         with_reducible rfl
                        rotate_left
                        ·
                         simp only [Act.put, List.setIfInBounds_toArray, List.set_cons_zero, List.set_cons_succ, i64_w, i32_w]
                         rfl
                        refine pure_ (i := 7) (N := some 116) (v := ?_) (a' := ?_) #[true, true, true, true, true, true, true, true, false, false, false, false, false, false, false, false, false, false, false, false, false, false, false, false, false, false, false, false, false, false, false, false, false, false, false, false, false] rfl rfl (any_of HT_.out (by kernel_rfl)) (fun _ _ _ h => h) (Or.inl ⟨by rfl, ?_⟩) ?_ ?_
                        rotate_left
                        ·
                         intro w'
                         go_simp
                         with_reducible rfl
                        rotate_left
                        ·
                         simp only [Act.put, List.setIfInBounds_toArray, List.set_cons_zero, List.set_cons_succ, i64_w, i32_w]
                         rfl
                        refine pure_ (i := 8) (N := some 117) (v := ?_) (a' := ?_) #[true, true, true, true, true, true, true, true, true, false, false, false, false, false, false, false, false, false, false, false, false, false, false, false, false, false, false, false, false, false, false, false, false, false, false, false, false] rfl rfl (any_of HT_.out (by kernel_rfl)) (fun _ _ _ h => h) (Or.inl ⟨by rfl, ?_⟩) ?_ ?_
                        rotate_left
                        ·
                         intro w'
                         go_simp
                         with_reducible rfl
                        rotate_left
                        ·
                         simp only [Act.put, List.setIfInBounds_toArray, List.set_cons_zero, List.set_cons_succ, i64_w, i32_w]
                         rfl
                        refine take_ (i := 9) (N := some 118) (v := ?_) (a' := ?_) #[true, true, true, true, true, true, true, true, true, true, false, false, false, false, false, false, false, false, false, false, false, false, false, false, false, false, false, false, false, false, false, false, false, false, false, false, false] rfl rfl (take_ofW HT_.out HW_.out (by kernel_rfl)) (fun _ _ _ h => h) (Or.inl ⟨by rfl, ?_⟩) hHeld ?_ ?_
                        rotate_left
                        ·
                         rintro w' ⟨s0, s1, s2, s3, s4, s5, s6, s7, s8, s9, s10, s11⟩
                         go_simp
                         with_reducible rfl
                        rotate_left
                        ·
                         simp only [Act.put, List.setIfInBounds_toArray, List.set_cons_zero, List.set_cons_succ, i64_w, i32_w]
                         rfl
                        refine pure_ (i := 10) (N := some 119) (v := ?_) (a' := ?_) #[true, true, true, true, true, true, true, true, true, true, true, false, false, false, false, false, false, false, false, false, false, false, false, false, false, false, false, false, false, false, false, false, false, false, false, false, false] rfl rfl (any_of HT_.out (by kernel_rfl)) (fun _ _ _ h => h) (Or.inl ⟨by rfl, ?_⟩) ?_ ?_
                        rotate_left
                        ·
                         intro w'
                         go_simp
                         with_reducible rfl
                        rotate_left
                        ·
                         simp only [Act.put, List.setIfInBounds_toArray, List.set_cons_zero, List.set_cons_succ, i64_w, i32_w]
                         rfl
                        refine pure_ (i := 11) (N := some 120) (v := ?_) (a' := ?_) #[true, true, true, true, true, true, true, true, true, true, true, true, false, false, false, false, false, false, false, false, false, false, false, false, false, false, false, false, false, false, false, false, false, false, false, false, false] rfl rfl (any_of HT_.out (by kernel_rfl)) (fun _ _ _ h => h) (Or.inl ⟨by rfl, ?_⟩) ?_ ?_
                        rotate_left
                        ·
                         intro w'
                         go_simp
                         with_reducible rfl
                        rotate_left
                        ·
                         simp only [Act.put, List.setIfInBounds_toArray, List.set_cons_zero, List.set_cons_succ, i64_w, i32_w]
                         rfl
                        refine pure_ (i := 12) (N := some 121) (v := ?_) (a' := ?_) #[true, true, true, true, true, true, true, true, true, true, true, true, true, false, false, false, false, false, false, false, false, false, false, false, false, false, false, false, false, false, false, false, false, false, false, false, false] rfl rfl (any_of HT_.out (by kernel_rfl)) (fun _ _ _ h => h) (Or.inl ⟨by rfl, ?_⟩) ?_ ?_
                        rotate_left
                        ·
                         intro w'
                         go_simp
                         with_reducible rfl
                        rotate_left
                        ·
                         simp only [Act.put, List.setIfInBounds_toArray, List.set_cons_zero, List.set_cons_succ, i64_w, i32_w]
                         rfl
                        refine pure_ (i := 13) (N := some 122) (v := ?_) (a' := ?_) #[true, true, true, true, true, true, true, true, true, true, true, true, true, true, false, false, false, false, false, false, false, false, false, false, false, false, false, false, false, false, false, false, false, false, false, false, false] rfl rfl (any_of HT_.out (by kernel_rfl)) (fun _ _ _ h => h) (Or.inl ⟨by rfl, ?_⟩) ?_ ?_
                        rotate_left
                        ·
                         intro w'
                         go_simp
                         with_reducible rfl
                        rotate_left
                        ·
                         simp only [Act.put, List.setIfInBounds_toArray, List.set_cons_zero, List.set_cons_succ, i64_w, i32_w]
                         rfl
                        refine pure_ (i := 14) (N := some 123) (v := ?_) (a' := ?_) #[true, true, true, true, true, true, true, true, true, true, true, true, true, true, true, false, false, false, false, false, false, false, false, false, false, false, false, false, false, false, false, false, false, false, false, false, false] rfl rfl (any_of HT_.out (by kernel_rfl)) (fun _ _ _ h => h) (Or.inl ⟨by rfl, ?_⟩) ?_ ?_
                        rotate_left
                        ·
                         intro w'
                         go_simp
                         with_reducible rfl
                        rotate_left
                        ·
                         simp only [Act.put, List.setIfInBounds_toArray, List.set_cons_zero, List.set_cons_succ, i64_w, i32_w]
                         rfl
                        refine pure_ (i := 15) (N := some 124) (v := ?_) (a' := ?_) #[true, true, true, true, true, true, true, true, true, true, true, true, true, true, true, true, false, false, false, false, false, false, false, false, false, false, false, false, false, false, false, false, false, false, false, false, false] rfl rfl (any_of HT_.out (by kernel_rfl)) (fun _ _ _ h => h) (Or.inl ⟨by rfl, ?_⟩) ?_ ?_
                        rotate_left
                        ·
                         intro w'
                         go_simp
                         with_reducible rfl
                        rotate_left
                        ·
                         simp only [Act.put, List.setIfInBounds_toArray, List.set_cons_zero, List.set_cons_succ, i64_w, i32_w]
                         rfl
                        refine take_ (i := 16) (N := some 125) (v := ?_) (a' := ?_) #[true, true, true, true, true, true, true, true, true, true, true, true, true, true, true, true, true, false, false, false, false, false, false, false, false, false, false, false, false, false, false, false, false, false, false, false, false] rfl rfl (take_ofW HT_.out HW_.out (by kernel_rfl)) (fun _ _ _ h => h) (Or.inl ⟨by rfl, ?_⟩) hHeld ?_ ?_
                        rotate_left
                        ·
                         rintro w' ⟨s0, s1, s2, s3, s4, s5, s6, s7, s8, s9, s10, s11⟩
                         go_simp
                         with_reducible rfl
                        rotate_left
                        ·
                         simp only [Act.put, List.setIfInBounds_toArray, List.set_cons_zero, List.set_cons_succ, i64_w, i32_w]
                         rfl
                        refine pure_ (i := 17) (N := some 126) (v := ?_) (a' := ?_) #[true, true, true, true, true, true, true, true, true, true, true, true, true, true, true, true, true, true, false, false, false, false, false, false, false, false, false, false, false, false, false, false, false, false, false, false, false] rfl rfl (any_of HT_.out (by kernel_rfl)) (fun _ _ _ h => h) (Or.inl ⟨by rfl, ?_⟩) ?_ ?_
                        rotate_left
                        ·
                         intro w'
                         go_simp
                         with_reducible rfl
                        rotate_left
                        ·
                         simp only [Act.put, List.setIfInBounds_toArray, List.set_cons_zero, List.set_cons_succ, i64_w, i32_w]
                         rfl
                        refine pure_ (i := 18) (N := some 127) (v := ?_) (a' := ?_) #[true, true, true, true, true, true, true, true, true, true, true, true, true, true, true, true, true, true, true, false, false, false, false, false, false, false, false, false, false, false, false, false, false, false, false, false, false] rfl rfl (any_of HT_.out (by kernel_rfl)) (fun _ _ _ h => h) (Or.inl ⟨by rfl, ?_⟩) ?_ ?_
                        rotate_left
                        ·
                         intro w'
                         go_simp
                         with_reducible rfl
                        rotate_left
                        ·
                         simp only [Act.put, List.setIfInBounds_toArray, List.set_cons_zero, List.set_cons_succ, i64_w, i32_w]
                         rfl
                        refine pure_ (i := 19) (N := some 128) (v := undef) (a' := ?_) #[true, true, true, true, true, true, true, true, true, true, true, true, true, true, true, true, true, true, true, true, false, false, false, false, false, false, false, false, false, false, false, false, false, false, false, false, false] rfl rfl (any_of HT_.out (by kernel_rfl)) (fun _ _ _ h => h) (Or.inr ⟨by rfl, rfl⟩) ?_ ?_
                        rotate_left
                        ·
                         simp only [Act.put, List.setIfInBounds_toArray, List.set_cons_zero, List.set_cons_succ, i64_w, i32_w]
                         rfl
                        refine pure_ (i := 20) (N := some 129) (v := undef) (a' := ?_) #[true, true, true, true, true, true, true, true, true, true, true, true, true, true, true, true, true, true, true, true, true, false, false, false, false, false, false, false, false, false, false, false, false, false, false, false, false] rfl rfl (any_of HT_.out (by kernel_rfl)) (fun _ _ _ h => h) (Or.inr ⟨by rfl, rfl⟩) ?_ ?_
                        rotate_left
                        ·
                         simp only [Act.put, List.setIfInBounds_toArray, List.set_cons_zero, List.set_cons_succ, i64_w, i32_w]
                         rfl
                        refine pure_ (i := 21) (N := some 130) (v := undef) (a' := ?_) #[true, true, true, true, true, true, true, true, true, true, true, true, true, true, true, true, true, true, true, true, true, true, false, false, false, false, false, false, false, false, false, false, false, false, false, false, false] rfl rfl (any_of HT_.out (by kernel_rfl)) (fun _ _ _ h => h) (Or.inr ⟨by rfl, rfl⟩) ?_ ?_
                        rotate_left
                        ·
                         simp only [Act.put, List.setIfInBounds_toArray, List.set_cons_zero, List.set_cons_succ, i64_w, i32_w]
                         rfl
                        refine pure_ (i := 22) (N := some 131) (v := undef) (a' := ?_) #[true, true, true, true, true, true, true, true, true, true, true, true, true, true, true, true, true, true, true, true, true, true, true, false, false, false, false, false, false, false, false, false, false, false, false, false, false] rfl rfl (any_of HT_.out (by kernel_rfl)) (fun _ _ _ h => h) (Or.inr ⟨by rfl, rfl⟩) ?_ ?_
                        rotate_left
                        ·
                         simp only [Act.put, List.setIfInBounds_toArray, List.set_cons_zero, List.set_cons_succ, i64_w, i32_w]
                         rfl
                        refine pure_ (i := 23) (N := some 132) (v := undef) (a' := ?_) #[true, true, true, true, true, true, true, true, true, true, true, true, true, true, true, true, true, true, true, true, true, true, true, true, false, false, false, false, false, false, false, false, false, false, false, false, false] rfl rfl (any_of HT_.out (by kernel_rfl)) (fun _ _ _ h => h) (Or.inr ⟨by rfl, rfl⟩) ?_ ?_
                        rotate_left
                        ·
                         simp only [Act.put, List.setIfInBounds_toArray, List.set_cons_zero, List.set_cons_succ, i64_w, i32_w]
                         rfl
                        refine pure_ (i := 24) (N := some 133) (v := ?_) (a' := ?_) #[true, true, true, true, true, true, true, true, true, true, true, true, true, true, true, true, true, true, true, true, true, true, true, true, true, false, false, false, false, false, false, false, false, false, false, false, false] rfl rfl (any_of HT_.out (by kernel_rfl)) (fun _ _ _ h => h) (Or.inl ⟨by rfl, ?_⟩) ?_ ?_
                        rotate_left
                        ·
                         intro w'
                         go_simp
                         with_reducible rfl
                        rotate_left
                        ·
                         simp only [Act.put, List.setIfInBounds_toArray, List.set_cons_zero, List.set_cons_succ, i64_w, i32_w]
                         rfl
                        refine pure_ (i := 25) (N := some 134) (v := ?_) (a' := ?_) #[true, true, true, true, true, true, true, true, true, true, true, true, true, true, true, true, true, true, true, true, true, true, true, true, true, true, false, false, false, false, false, false, false, false, false, false, false] rfl rfl (any_of HT_.out (by kernel_rfl)) (fun _ _ _ h => h) (Or.inl ⟨by rfl, ?_⟩) ?_ ?_
                        rotate_left
                        ·
                         intro w'
                         go_simp
                         with_reducible rfl
                        rotate_left
                        ·
                         simp only [Act.put, List.setIfInBounds_toArray, List.set_cons_zero, List.set_cons_succ, i64_w, i32_w]
                         rfl
                        refine pure_ (i := 26) (N := some 135) (v := ?_) (a' := ?_) #[true, true, true, true, true, true, true, true, true, true, true, true, true, true, true, true, true, true, true, true, true, true, true, true, true, true, true, false, false, false, false, false, false, false, false, false, false] rfl rfl (any_of HT_.out (by kernel_rfl)) (fun _ _ _ h => h) (Or.inl ⟨by rfl, ?_⟩) ?_ ?_
                        rotate_left
                        ·
                         intro w'
                         go_simp
                         with_reducible rfl
                        rotate_left
                        ·
                         simp only [Act.put, List.setIfInBounds_toArray, List.set_cons_zero, List.set_cons_succ, i64_w, i32_w]
                         rfl
                        refine pure_ (i := 27) (N := some 136) (v := ?_) (a' := ?_) #[true, true, true, true, true, true, true, true, true, true, true, true, true, true, true, true, true, true, true, true, true, true, true, true, true, true, true, true, false, false, false, false, false, false, false, false, false] rfl rfl (any_of HT_.out (by kernel_rfl)) (fun _ _ _ h => h) (Or.inl ⟨by rfl, ?_⟩) ?_ ?_
                        rotate_left
                        ·
                         intro w'
                         go_simp
                         with_reducible rfl
                        rotate_left
                        ·
                         simp only [Act.put, List.setIfInBounds_toArray, List.set_cons_zero, List.set_cons_succ, i64_w, i32_w]
                         rfl
                        refine pure_ (i := 28) (N := some 137) (v := ?_) (a' := ?_) #[true, true, true, true, true, true, true, true, true, true, true, true, true, true, true, true, true, true, true, true, true, true, true, true, true, true, true, true, true, false, false, false, false, false, false, false, false] rfl rfl (any_of HT_.out (by kernel_rfl)) (fun _ _ _ h => h) (Or.inl ⟨by rfl, ?_⟩) ?_ ?_
                        rotate_left
                        ·
                         intro w'
                         go_simp
                         with_reducible rfl
                        rotate_left
                        ·
                         simp only [Act.put, List.setIfInBounds_toArray, List.set_cons_zero, List.set_cons_succ, i64_w, i32_w]
                         rfl
                        refine pure_ (i := 29) (N := some 138) (v := ?_) (a' := ?_) #[true, true, true, true, true, true, true, true, true, true, true, true, true, true, true, true, true, true, true, true, true, true, true, true, true, true, true, true, true, true, false, false, false, false, false, false, false] rfl rfl (any_of HT_.out (by kernel_rfl)) (fun _ _ _ h => h) (Or.inl ⟨by rfl, ?_⟩) ?_ ?_
                        rotate_left
                        ·
                         intro w'
                         go_simp
                         with_reducible rfl
                        rotate_left
                        ·
                         simp only [Act.put, List.setIfInBounds_toArray, List.set_cons_zero, List.set_cons_succ, i64_w, i32_w]
                         rfl
                        refine pure_ (i := 32) (N := some 141) (v := ?_) (a' := ?_) #[true, true, true, true, true, true, true, true, true, true, true, true, true, true, true, true, true, true, true, true, true, true, true, true, true, true, true, true, true, true, false, false, true, false, false, false, false] rfl rfl (any_of HT_.out (by kernel_rfl)) (fun _ _ _ h => h) (Or.inl ⟨by rfl, ?_⟩) ?_ ?_
                        rotate_left
                        ·
                         intro w'
                         go_simp
                         with_reducible rfl
                        rotate_left
                        ·
                         simp only [Act.put, List.setIfInBounds_toArray, List.set_cons_zero, List.set_cons_succ, i64_w, i32_w]
                         rfl
                        refine take_ (i := 30) (N := some 139) (v := ?_) (a' := ?_) #[true, true, true, true, true, true, true, true, true, true, true, true, true, true, true, true, true, true, true, true, true, true, true, true, true, true, true, true, true, true, true, false, true, false, false, false, false] rfl rfl (take_ofW HT_.out HW_.out (by kernel_rfl)) (fun _ _ _ h => h) (Or.inl ⟨by rfl, ?_⟩) hHeld ?_ ?_
                        rotate_left
                        ·
                         rintro w' ⟨s0, s1, s2, s3, s4, s5, s6, s7, s8, s9, s10, s11⟩
                         go_simp
                         with_reducible rfl
                        rotate_left
                        ·
                         simp only [Act.put, List.setIfInBounds_toArray, List.set_cons_zero, List.set_cons_succ, i64_w, i32_w]
                         rfl
                        refine take_ (i := 33) (N := some 142) (v := ?_) (a' := ?_) #[true, true, true, true, true, true, true, true, true, true, true, true, true, true, true, true, true, true, true, true, true, true, true, true, true, true, true, true, true, true, true, false, true, true, false, false, false] rfl rfl (take_ofW HT_.out HW_.out (by kernel_rfl)) (fun _ _ _ h => h) (Or.inl ⟨by rfl, ?_⟩) hHeld ?_ ?_
                        rotate_left
                        ·
                         rintro w' ⟨s0, s1, s2, s3, s4, s5, s6, s7, s8, s9, s10, s11⟩
                         go_simp
                         with_reducible rfl
                        rotate_left
                        ·
                         simp only [Act.put, List.setIfInBounds_toArray, List.set_cons_zero, List.set_cons_succ, i64_w, i32_w]
                         rfl
                        refine pure_ (i := 34) (N := some 143) (v := ?_) (a' := ?_) #[true, true, true, true, true, true, true, true, true, true, true, true, true, true, true, true, true, true, true, true, true, true, true, true, true, true, true, true, true, true, true, false, true, true, true, false, false] rfl rfl (any_of HT_.out (by kernel_rfl)) (fun _ _ _ h => h) (Or.inl ⟨by rfl, ?_⟩) ?_ ?_
                        rotate_left
                        ·
                         intro w'
                         go_simp
                         with_reducible rfl
                        rotate_left
                        ·
                         simp only [Act.put, List.setIfInBounds_toArray, List.set_cons_zero, List.set_cons_succ, i64_w, i32_w]
                         rfl
                        refine one_ (i := 31) (N := some 140) #[true, true, true, true, true, true, true, true, true, true, true, true, true, true, true, true, true, true, true, true, true, true, true, true, true, true, true, true, true, true, true, true, true, true, true, false, false] rfl rfl (one_of HT_.out (by kernel_rfl)) (by decide) (fun K hK => ?_)
                        refine goes_ Try.func53 (by kernel_rfl) rfl #[.int .i64 (rd t236 x79_2)] (by rfl) rfl rfl (by (try simp only [List.map_toArray, List.map_cons, List.map_nil]); first | done | rfl | (simp only [List.length_drop, List.length_take]; rfl)) ?_
                        with_reducible refine (thrumref09_Size.calls (rd t236 x79_2) t258 _ A78.out).mono ?_
                        rintro e w' ⟨rfl, ⟨nd, rfl⟩⟩
                        refine ⟨_, rfl, ?_⟩
                        refine hK.out _ _ ⟨(blk_cell BK235.out 0).trans rfl, (blk_cell BK235.out 1).trans rfl, (blk_cell BK235.out 2).trans rfl, (blk_cell BK235.out 3).trans rfl, (blk_cell BK235.out 4).trans rfl, (blk_cell BK235.out 5).trans rfl, (blk_cell BK235.out 6).trans rfl, (blk_cell BK235.out 7).trans rfl, hHeld.2.2.2.2.2.2.2.2.1, ((HB.out.cell (World.block_lt_of_cell? w _ hw252_0)).trans hw252_0), hHeld.2.2.2.2.2.2.2.2.2.2.1, hHeld.2.2.2.2.2.2.2.2.2.2.2⟩ (fun hHeld => ?_)
                        clear hK K
                        refine norm_ (a' := ?_) ?_ ?_
                        rotate_left
                        ·
                         show Act.put _ (some 140) _ = _
                         simp only [Act.put, List.setIfInBounds_toArray, List.set_cons_zero, List.set_cons_succ, i64_w, i32_w]
                         rfl
                        refine pure_ (i := 35) (N := some 144) (v := ?_) (a' := ?_) #[true, true, true, true, true, true, true, true, true, true, true, true, true, true, true, true, true, true, true, true, true, true, true, true, true, true, true, true, true, true, true, true, true, true, true, true, false] rfl rfl (any_of HT_.out (by kernel_rfl)) (fun _ _ _ h => h) (Or.inl ⟨by rfl, ?_⟩) ?_ ?_
                        rotate_left
                        ·
                         intro w'
                         go_simp
                         with_reducible rfl
                        rotate_left
                        ·
                         simp only [Act.put, List.setIfInBounds_toArray, List.set_cons_zero, List.set_cons_succ, i64_w, i32_w]
                         rfl
                        refine pure_ (i := 36) (N := some 145) (v := ?_) (a' := ?_) #[true, true, true, true, true, true, true, true, true, true, true, true, true, true, true, true, true, true, true, true, true, true, true, true, true, true, true, true, true, true, true, true, true, true, true, true, true] rfl rfl (any_of HT_.out (by kernel_rfl)) (fun _ _ _ h => h) (Or.inl ⟨by rfl, ?_⟩) ?_ ?_
                        rotate_left
                        ·
                         intro w'
                         go_simp
                         with_reducible rfl
                        rotate_left
                        ·
                         simp only [Act.put, List.setIfInBounds_toArray, List.set_cons_zero, List.set_cons_succ, i64_w, i32_w]
                         rfl
                        refine done_ (done_of HT_.out (by kernel_rfl)) ?_
                        try go_wp2
                        go_roundg kj53
                        case measure => have := HJ12.out; have := HK2.out; have := HJ53.out; omega
                        case rel => exact ⟨(wrap64 (x79_2 + 1)), (by first | rfl | (simp; done) | (simp [*]; done)), H', ⟨by have := HJ12.out; have := HK2.out; have := HJ53.out; omega⟩, ⟨by (with_reducible repeat (first | apply rrA | apply rrN | apply rrD)); exact HO_12.out⟩, ⟨by (with_reducible repeat (first | apply rrA | apply rrN | apply rrD)); exact HO_236002.out⟩, ⟨by (with_reducible repeat (first | apply rrA | apply rrN | apply rrD)); exact HO_236003.out⟩, ⟨by (with_reducible repeat (first | apply rrA | apply rrN | apply rrD)); exact HO_236006.out⟩, ⟨by (with_reducible repeat (first | apply rrA | apply rrN | apply rrD)); exact HO_236007.out⟩, ⟨by (with_reducible repeat (first | refine kkN ?_ _ | refine kkD ?_ | refine kkA ?_ _)); exact BK235.out⟩, ⟨by repeat (first | (with_reducible first | exact HB.out | apply zzA | apply zzN | apply zzD | refine below_set ?_ GE235.out) | exact HB.out)⟩⟩
                   ·
                    rw [if_neg c68] at H
                    exact absurd H (by simp)
                  ·
                   rw [if_neg c67] at H
                   have c67b0 : decide (0 < (rd t236 x79_2)) = false := decide_eq_false c67
                   clear c67
                   by_cases c82 : (rd t236 x79_2) < 0
                   ·
                    rw [if_pos c82] at H
                    have c82b0 : decide ((rd t236 x79_2) < 0) = true := decide_eq_true c82
                    clear c82
                    by_cases c83 : x79_2 < (l0.length : Int)
                    ·
                     rw [if_pos c83] at H
                     have c83b0 : decide (x79_2 < (l0.length : Int)) = true := decide_eq_true c83
                     clear c83
                     by_cases c84 : (rd l0 x79_2) > 0
                     ·
                      rw [if_pos c84] at H
                      exact absurd (Option.some.inj H) (by rw [HR_.out]; decide)
                     ·
                      rw [if_neg c84] at H
                      have c84b0 : decide (0 < (rd l0 x79_2)) = false := decide_eq_false c84
                      clear c84
                      replace H := Option.bind_eq_some_iff.mp H
                      obtain ⟨t262, A860, H⟩ := H
                      replace H : (if t262 > (IntKind.u64.wrap (t226)) then (some false) else (thrumlaw10_QuantNear.l0 kj53 l0 true t236 t240 (l0.length : Int) (wrap64 (x79_2 + 1)) t218 t219 t220 t223 t226 t227 t228 t231)) = some r := H
                      have A86 := Aside0.mk A860
                      clear A860
                      by_cases c87 : t262 > (IntKind.u64.wrap (t226))
                      ·
                       rw [if_pos c87] at H
                       exact absurd (Option.some.inj H) (by rw [HR_.out]; decide)
                      ·
                       rw [if_neg c87] at H
                       have c87b0 : decide ((IntKind.u64.wrap (t226)) < t262) = false := decide_eq_false c87
                       clear c87
                       focus
                        have H' := Aside0.mk H
                        clear H
                        try go_wp2
                        have n0_ := Aside0.mk (rrD HO_12.out)
                        have n1_ := Aside0.mk (rrD HO_236002.out)
                        have n2_ := Aside0.mk (rrD HO_236003.out)
                        have n3_ := Aside0.mk (rrD HO_236006.out)
                        have n4_ := Aside0.mk (rrD HO_236007.out)
                        have n5_ := Aside0.mk (kkD BK235.out)
                        have n6_ := Aside0.mk (zzD HB.out)
                        clear HO_12
                        clear HO_236002
                        clear HO_236003
                        clear HO_236006
                        clear HO_236007
                        clear BK235
                        clear HB
                        have HO_12 := n0_
                        have HO_236002 := n1_
                        have HO_236003 := n2_
                        have HO_236006 := n3_
                        have HO_236007 := n4_
                        have BK235 := n5_
                        have HB := n6_
                        clear n0_ n1_ n2_ n3_ n4_ n5_ n6_
                        have p251 : 0 ≤ (x79_2 : Int) := of_decide_eq_true (by first | (with_reducible assumption) | assumption)
                        have q251 : x79_2 < (t236.length : Int) := of_decide_eq_true (by first | (with_reducible assumption) | assumption)
                        obtain ⟨ad251, e251, hx251_0⟩ := Kd.at_int (Kd.R_reads' HO_12.out).2.2 x79_2 p251 q251
                        obtain rfl : ad245 = ad251 := (by injection e251)
                        replace p251 := eq_true p251
                        replace q251 := eq_true q251
                        have p259 : 0 ≤ (x79_2 : Int) := of_decide_eq_true (by first | (with_reducible assumption) | assumption)
                        have q259 : x79_2 < (t236.length : Int) := of_decide_eq_true (by first | (with_reducible assumption) | assumption)
                        obtain ⟨ad259, e259, hx259_0⟩ := Kd.at_int (Kd.R_reads' HO_12.out).2.2 x79_2 p259 q259
                        obtain rfl : ad245 = ad259 := (by injection e259)
                        replace p259 := eq_true p259
                        replace q259 := eq_true q259
                        have p260 : 0 ≤ (x79_2 : Int) := of_decide_eq_true (by first | (with_reducible assumption) | assumption)
                        have q260 : x79_2 < (l0.length : Int) := of_decide_eq_true (by first | (with_reducible assumption) | assumption)
                        obtain ⟨ad260, e260, hx260_0⟩ := Kd.at_int HR0.out x79_2 p260 q260
                        have hw260_0 := hx260_0
                        obtain rfl : ad244 = ad260 := (by injection e260)
                        replace hx260_0 := (HB.out.cell (World.block_lt_of_cell? w _ hx260_0)).trans hx260_0
                        replace p260 := eq_true p260
                        replace q260 := eq_true q260
                        have p261 : 0 ≤ (x79_2 : Int) := of_decide_eq_true (by first | (with_reducible assumption) | assumption)
                        have q261 : x79_2 < (t236.length : Int) := of_decide_eq_true (by first | (with_reducible assumption) | assumption)
                        obtain ⟨ad261, e261, hx261_0⟩ := Kd.at_int (Kd.R_reads' HO_12.out).2.2 x79_2 p261 q261
                        obtain rfl : ad245 = ad261 := (by injection e261)
                        replace p261 := eq_true p261
                        replace q261 := eq_true q261
                        refine start_ (n := 37) (S := fun w' => w'.cell? ⟨gb235, 0, none⟩ = some (.int .i64 t218) ∧ w'.cell? ⟨gb235, 1, none⟩ = some (.int .i64 t219) ∧ w'.cell? ⟨gb235, 2, none⟩ = some (.slice Ao18 t220.length co18) ∧ w'.cell? ⟨gb235, 3, none⟩ = some (.slice Ao19 t223.length co19) ∧ w'.cell? ⟨gb235, 4, none⟩ = some (.int .i64 t226) ∧ w'.cell? ⟨gb235, 5, none⟩ = some (.int .i64 t227) ∧ w'.cell? ⟨gb235, 6, none⟩ = some (.slice Ao20 t228.length co20) ∧ w'.cell? ⟨gb235, 7, none⟩ = some (.slice Ao21 t231.length co21) ∧ w'.cell? (ad245.add (x79_2).toNat) = some (.int .i64 (rd t236 x79_2)) ∧ w'.cell? (ad245.add (x79_2).toNat) = some (.int .i64 (rd t236 x79_2)) ∧ w'.cell? (ad244.add (x79_2).toNat) = some (.int .i64 (rd l0 x79_2)) ∧ w'.cell? (ad245.add (x79_2).toNat) = some (.int .i64 (rd t236 x79_2))) (ds := []) #[false, false, false, false, false, false, false, false, false, false, false, false, false, false, false, false, false, false, false, false, false, false, false, false, false, false, false, false, false, false, false, false, false, false, false, false, false] (by kernel_rfl) rfl rfl ⟨(blk_cell BK235.out 0).trans rfl, (blk_cell BK235.out 1).trans rfl, (blk_cell BK235.out 2).trans rfl, (blk_cell BK235.out 3).trans rfl, (blk_cell BK235.out 4).trans rfl, (blk_cell BK235.out 5).trans rfl, (blk_cell BK235.out 6).trans rfl, (blk_cell BK235.out 7).trans rfl, hx251_0, hx259_0, ((HB.out.cell (World.block_lt_of_cell? w _ hw260_0)).trans hw260_0), hx261_0⟩ (fun hHeld => ?_); refine with_tabW thrumlaw10_QuantNear.tab19 thrumlaw10_QuantNear.bits19 (fun HT_ HW_ => ?_)
                        generalize wc.drew = w89 at HO_12 HO_236002 HO_236003 HO_236006 HO_236007 BK235 HB hx251_0 hx259_0 hx260_0 hx261_0 hHeld ⊢
                        refine pure_ (i := 0) (N := some 109) (v := ?_) (a' := ?_) #[true, false, false, false, false, false, false, false, false, false, false, false, false, false, false, false, false, false, false, false, false, false, false, false, false, false, false, false, false, false, false, false, false, false, false, false, false] rfl rfl (any_of HT_.out (by kernel_rfl)) (fun _ _ _ h => h) (Or.inl ⟨by rfl, ?_⟩) ?_ ?_
                        rotate_left
                        ·
                         intro w'
                         go_simp
                         with_reducible rfl
                        rotate_left
                        ·
                         simp only [Act.put, List.setIfInBounds_toArray, List.set_cons_zero, List.set_cons_succ, i64_w, i32_w]
                         rfl
                        refine pure_ (i := 1) (N := some 110) (v := ?_) (a' := ?_) #[true, true, false, false, false, false, false, false, false, false, false, false, false, false, false, false, false, false, false, false, false, false, false, false, false, false, false, false, false, false, false, false, false, false, false, false, false] rfl rfl (any_of HT_.out (by kernel_rfl)) (fun _ _ _ h => h) (Or.inl ⟨by rfl, ?_⟩) ?_ ?_
                        rotate_left
                        ·
                         intro w'
                         go_simp
                         with_reducible rfl
                        rotate_left
                        ·
                         simp only [Act.put, List.setIfInBounds_toArray, List.set_cons_zero, List.set_cons_succ, i64_w, i32_w]
                         rfl
                        refine pure_ (i := 2) (N := some 111) (v := ?_) (a' := ?_) #[true, true, true, false, false, false, false, false, false, false, false, false, false, false, false, false, false, false, false, false, false, false, false, false, false, false, false, false, false, false, false, false, false, false, false, false, false] rfl rfl (any_of HT_.out (by kernel_rfl)) (fun _ _ _ h => h) (Or.inl ⟨by rfl, ?_⟩) ?_ ?_
                        rotate_left
                        ·
                         intro w'
                         go_simp
                         with_reducible rfl
                        rotate_left
                        ·
                         simp only [Act.put, List.setIfInBounds_toArray, List.set_cons_zero, List.set_cons_succ, i64_w, i32_w]
                         rfl
                        refine take_ (i := 3) (N := some 112) (v := ?_) (a' := ?_) #[true, true, true, true, false, false, false, false, false, false, false, false, false, false, false, false, false, false, false, false, false, false, false, false, false, false, false, false, false, false, false, false, false, false, false, false, false] rfl rfl (take_ofW HT_.out HW_.out (by kernel_rfl)) (fun _ _ _ h => h) (Or.inl ⟨by rfl, ?_⟩) hHeld ?_ ?_
                        rotate_left
                        ·
                         rintro w' ⟨s0, s1, s2, s3, s4, s5, s6, s7, s8, s9, s10, s11⟩
                         go_simp
                         with_reducible rfl
                        rotate_left
                        ·
                         simp only [Act.put, List.setIfInBounds_toArray, List.set_cons_zero, List.set_cons_succ, i64_w, i32_w]
                         rfl
                        refine pure_ (i := 4) (N := some 113) (v := ?_) (a' := ?_) #[true, true, true, true, true, false, false, false, false, false, false, false, false, false, false, false, false, false, false, false, false, false, false, false, false, false, false, false, false, false, false, false, false, false, false, false, false] rfl rfl (any_of HT_.out (by kernel_rfl)) (fun _ _ _ h => h) (Or.inl ⟨by rfl, ?_⟩) ?_ ?_
                        rotate_left
                        ·
                         intro w'
                         go_simp
                         with_reducible rfl
                        rotate_left
                        ·
                         simp only [Act.put, List.setIfInBounds_toArray, List.set_cons_zero, List.set_cons_succ, i64_w, i32_w]
                         rfl
                        refine pure_ (i := 5) (N := some 114) (v := ?_) (a' := ?_) #[true, true, true, true, true, true, false, false, false, false, false, false, false, false, false, false, false, false, false, false, false, false, false, false, false, false, false, false, false, false, false, false, false, false, false, false, false] rfl rfl (any_of HT_.out (by kernel_rfl)) (fun _ _ _ h => h) (Or.inl ⟨by rfl, ?_⟩) ?_ ?_
                        rotate_left
                        ·
                         intro w'
                         go_simp
                         with_reducible rfl
                        rotate_left
                        ·
                         simp only [Act.put, List.setIfInBounds_toArray, List.set_cons_zero, List.set_cons_succ, i64_w, i32_w]
                         rfl
                        refine pure_ (i := 6) (N := some 115) (v := undef) (a' := ?_) #[true, true, true, true, true, true, true, false, false, false, false, false, false, false, false, false, false, false, false, false, false, false, false, false, false, false, false, false, false, false, false, false, false, false, false, false, false] rfl rfl (any_of HT_.out (by kernel_rfl)) (fun _ _ _ h => h) (Or.inr ⟨by rfl, rfl⟩) ?_ ?_
                        rotate_left
                        ·
                         simp only [Act.put, List.setIfInBounds_toArray, List.set_cons_zero, List.set_cons_succ, i64_w, i32_w]
                         rfl
                        refine pure_ (i := 7) (N := some 116) (v := undef) (a' := ?_) #[true, true, true, true, true, true, true, true, false, false, false, false, false, false, false, false, false, false, false, false, false, false, false, false, false, false, false, false, false, false, false, false, false, false, false, false, false] rfl rfl (any_of HT_.out (by kernel_rfl)) (fun _ _ _ h => h) (Or.inr ⟨by rfl, rfl⟩) ?_ ?_
                        rotate_left
                        ·
                         simp only [Act.put, List.setIfInBounds_toArray, List.set_cons_zero, List.set_cons_succ, i64_w, i32_w]
                         rfl
                        refine pure_ (i := 8) (N := some 117) (v := undef) (a' := ?_) #[true, true, true, true, true, true, true, true, true, false, false, false, false, false, false, false, false, false, false, false, false, false, false, false, false, false, false, false, false, false, false, false, false, false, false, false, false] rfl rfl (any_of HT_.out (by kernel_rfl)) (fun _ _ _ h => h) (Or.inr ⟨by rfl, rfl⟩) ?_ ?_
                        rotate_left
                        ·
                         simp only [Act.put, List.setIfInBounds_toArray, List.set_cons_zero, List.set_cons_succ, i64_w, i32_w]
                         rfl
                        refine pure_ (i := 9) (N := some 118) (v := undef) (a' := ?_) #[true, true, true, true, true, true, true, true, true, true, false, false, false, false, false, false, false, false, false, false, false, false, false, false, false, false, false, false, false, false, false, false, false, false, false, false, false] rfl rfl (any_of HT_.out (by kernel_rfl)) (fun _ _ _ h => h) (Or.inr ⟨by rfl, rfl⟩) ?_ ?_
                        rotate_left
                        ·
                         simp only [Act.put, List.setIfInBounds_toArray, List.set_cons_zero, List.set_cons_succ, i64_w, i32_w]
                         rfl
                        refine pure_ (i := 10) (N := some 119) (v := undef) (a' := ?_) #[true, true, true, true, true, true, true, true, true, true, true, false, false, false, false, false, false, false, false, false, false, false, false, false, false, false, false, false, false, false, false, false, false, false, false, false, false] rfl rfl (any_of HT_.out (by kernel_rfl)) (fun _ _ _ h => h) (Or.inr ⟨by rfl, rfl⟩) ?_ ?_
                        rotate_left
                        ·
                         simp only [Act.put, List.setIfInBounds_toArray, List.set_cons_zero, List.set_cons_succ, i64_w, i32_w]
                         rfl
                        refine pure_ (i := 11) (N := some 120) (v := ?_) (a' := ?_) #[true, true, true, true, true, true, true, true, true, true, true, true, false, false, false, false, false, false, false, false, false, false, false, false, false, false, false, false, false, false, false, false, false, false, false, false, false] rfl rfl (any_of HT_.out (by kernel_rfl)) (fun _ _ _ h => h) (Or.inl ⟨by rfl, ?_⟩) ?_ ?_
                        rotate_left
                        ·
                         intro w'
                         go_simp
                         with_reducible rfl
                        rotate_left
                        ·
                         simp only [Act.put, List.setIfInBounds_toArray, List.set_cons_zero, List.set_cons_succ, i64_w, i32_w]
                         rfl
                        refine pure_ (i := 12) (N := some 121) (v := ?_) (a' := ?_) #[true, true, true, true, true, true, true, true, true, true, true, true, true, false, false, false, false, false, false, false, false, false, false, false, false, false, false, false, false, false, false, false, false, false, false, false, false] rfl rfl (any_of HT_.out (by kernel_rfl)) (fun _ _ _ h => h) (Or.inl ⟨by rfl, ?_⟩) ?_ ?_
                        rotate_left
                        ·
                         intro w'
                         go_simp
                         with_reducible rfl
                        rotate_left
                        ·
                         simp only [Act.put, List.setIfInBounds_toArray, List.set_cons_zero, List.set_cons_succ, i64_w, i32_w]
                         rfl
                        refine pure_ (i := 13) (N := some 122) (v := ?_) (a' := ?_) #[true, true, true, true, true, true, true, true, true, true, true, true, true, true, false, false, false, false, false, false, false, false, false, false, false, false, false, false, false, false, false, false, false, false, false, false, false] rfl rfl (any_of HT_.out (by kernel_rfl)) (fun _ _ _ h => h) (Or.inl ⟨by rfl, ?_⟩) ?_ ?_
                        rotate_left
                        ·
                         intro w'
                         go_simp
                         with_reducible rfl
                        rotate_left
                        ·
                         simp only [Act.put, List.setIfInBounds_toArray, List.set_cons_zero, List.set_cons_succ, i64_w, i32_w]
                         rfl
                        refine pure_ (i := 14) (N := some 123) (v := ?_) (a' := ?_) #[true, true, true, true, true, true, true, true, true, true, true, true, true, true, true, false, false, false, false, false, false, false, false, false, false, false, false, false, false, false, false, false, false, false, false, false, false] rfl rfl (any_of HT_.out (by kernel_rfl)) (fun _ _ _ h => h) (Or.inl ⟨by rfl, ?_⟩) ?_ ?_
                        rotate_left
                        ·
                         intro w'
                         go_simp
                         with_reducible rfl
                        rotate_left
                        ·
                         simp only [Act.put, List.setIfInBounds_toArray, List.set_cons_zero, List.set_cons_succ, i64_w, i32_w]
                         rfl
                        refine pure_ (i := 15) (N := some 124) (v := ?_) (a' := ?_) #[true, true, true, true, true, true, true, true, true, true, true, true, true, true, true, true, false, false, false, false, false, false, false, false, false, false, false, false, false, false, false, false, false, false, false, false, false] rfl rfl (any_of HT_.out (by kernel_rfl)) (fun _ _ _ h => h) (Or.inl ⟨by rfl, ?_⟩) ?_ ?_
                        rotate_left
                        ·
                         intro w'
                         go_simp
                         with_reducible rfl
                        rotate_left
                        ·
                         simp only [Act.put, List.setIfInBounds_toArray, List.set_cons_zero, List.set_cons_succ, i64_w, i32_w]
                         rfl
                        refine take_ (i := 16) (N := some 125) (v := ?_) (a' := ?_) #[true, true, true, true, true, true, true, true, true, true, true, true, true, true, true, true, true, false, false, false, false, false, false, false, false, false, false, false, false, false, false, false, false, false, false, false, false] rfl rfl (take_ofW HT_.out HW_.out (by kernel_rfl)) (fun _ _ _ h => h) (Or.inl ⟨by rfl, ?_⟩) hHeld ?_ ?_
                        rotate_left
                        ·
                         rintro w' ⟨s0, s1, s2, s3, s4, s5, s6, s7, s8, s9, s10, s11⟩
                         go_simp
                         with_reducible rfl
                        rotate_left
                        ·
                         simp only [Act.put, List.setIfInBounds_toArray, List.set_cons_zero, List.set_cons_succ, i64_w, i32_w]
                         rfl
                        refine pure_ (i := 17) (N := some 126) (v := ?_) (a' := ?_) #[true, true, true, true, true, true, true, true, true, true, true, true, true, true, true, true, true, true, false, false, false, false, false, false, false, false, false, false, false, false, false, false, false, false, false, false, false] rfl rfl (any_of HT_.out (by kernel_rfl)) (fun _ _ _ h => h) (Or.inl ⟨by rfl, ?_⟩) ?_ ?_
                        rotate_left
                        ·
                         intro w'
                         go_simp
                         with_reducible rfl
                        rotate_left
                        ·
                         simp only [Act.put, List.setIfInBounds_toArray, List.set_cons_zero, List.set_cons_succ, i64_w, i32_w]
                         rfl
                        refine pure_ (i := 18) (N := some 127) (v := ?_) (a' := ?_) #[true, true, true, true, true, true, true, true, true, true, true, true, true, true, true, true, true, true, true, false, false, false, false, false, false, false, false, false, false, false, false, false, false, false, false, false, false] rfl rfl (any_of HT_.out (by kernel_rfl)) (fun _ _ _ h => h) (Or.inl ⟨by rfl, ?_⟩) ?_ ?_
                        rotate_left
                        ·
                         intro w'
                         go_simp
                         with_reducible rfl
                        rotate_left
                        ·
                         simp only [Act.put, List.setIfInBounds_toArray, List.set_cons_zero, List.set_cons_succ, i64_w, i32_w]
                         rfl
                        refine pure_ (i := 19) (N := some 128) (v := ?_) (a' := ?_) #[true, true, true, true, true, true, true, true, true, true, true, true, true, true, true, true, true, true, true, true, false, false, false, false, false, false, false, false, false, false, false, false, false, false, false, false, false] rfl rfl (any_of HT_.out (by kernel_rfl)) (fun _ _ _ h => h) (Or.inl ⟨by rfl, ?_⟩) ?_ ?_
                        rotate_left
                        ·
                         intro w'
                         go_simp
                         with_reducible rfl
                        rotate_left
                        ·
                         simp only [Act.put, List.setIfInBounds_toArray, List.set_cons_zero, List.set_cons_succ, i64_w, i32_w]
                         rfl
                        refine pure_ (i := 20) (N := some 129) (v := ?_) (a' := ?_) #[true, true, true, true, true, true, true, true, true, true, true, true, true, true, true, true, true, true, true, true, true, false, false, false, false, false, false, false, false, false, false, false, false, false, false, false, false] rfl rfl (any_of HT_.out (by kernel_rfl)) (fun _ _ _ h => h) (Or.inl ⟨by rfl, ?_⟩) ?_ ?_
                        rotate_left
                        ·
                         intro w'
                         go_simp
                         with_reducible rfl
                        rotate_left
                        ·
                         simp only [Act.put, List.setIfInBounds_toArray, List.set_cons_zero, List.set_cons_succ, i64_w, i32_w]
                         rfl
                        refine pure_ (i := 21) (N := some 130) (v := ?_) (a' := ?_) #[true, true, true, true, true, true, true, true, true, true, true, true, true, true, true, true, true, true, true, true, true, true, false, false, false, false, false, false, false, false, false, false, false, false, false, false, false] rfl rfl (any_of HT_.out (by kernel_rfl)) (fun _ _ _ h => h) (Or.inl ⟨by rfl, ?_⟩) ?_ ?_
                        rotate_left
                        ·
                         intro w'
                         go_simp
                         with_reducible rfl
                        rotate_left
                        ·
                         simp only [Act.put, List.setIfInBounds_toArray, List.set_cons_zero, List.set_cons_succ, i64_w, i32_w]
                         rfl
                        refine take_ (i := 22) (N := some 131) (v := ?_) (a' := ?_) #[true, true, true, true, true, true, true, true, true, true, true, true, true, true, true, true, true, true, true, true, true, true, true, false, false, false, false, false, false, false, false, false, false, false, false, false, false] rfl rfl (take_ofW HT_.out HW_.out (by kernel_rfl)) (fun _ _ _ h => h) (Or.inl ⟨by rfl, ?_⟩) hHeld ?_ ?_
                        rotate_left
                        ·
                         rintro w' ⟨s0, s1, s2, s3, s4, s5, s6, s7, s8, s9, s10, s11⟩
                         go_simp
                         with_reducible rfl
                        rotate_left
                        ·
                         simp only [Act.put, List.setIfInBounds_toArray, List.set_cons_zero, List.set_cons_succ, i64_w, i32_w]
                         rfl
                        refine pure_ (i := 23) (N := some 132) (v := ?_) (a' := ?_) #[true, true, true, true, true, true, true, true, true, true, true, true, true, true, true, true, true, true, true, true, true, true, true, true, false, false, false, false, false, false, false, false, false, false, false, false, false] rfl rfl (any_of HT_.out (by kernel_rfl)) (fun _ _ _ h => h) (Or.inl ⟨by rfl, ?_⟩) ?_ ?_
                        rotate_left
                        ·
                         intro w'
                         go_simp
                         with_reducible rfl
                        rotate_left
                        ·
                         simp only [Act.put, List.setIfInBounds_toArray, List.set_cons_zero, List.set_cons_succ, i64_w, i32_w]
                         rfl
                        refine pure_ (i := 24) (N := some 133) (v := ?_) (a' := ?_) #[true, true, true, true, true, true, true, true, true, true, true, true, true, true, true, true, true, true, true, true, true, true, true, true, true, false, false, false, false, false, false, false, false, false, false, false, false] rfl rfl (any_of HT_.out (by kernel_rfl)) (fun _ _ _ h => h) (Or.inl ⟨by rfl, ?_⟩) ?_ ?_
                        rotate_left
                        ·
                         intro w'
                         go_simp
                         with_reducible rfl
                        rotate_left
                        ·
                         simp only [Act.put, List.setIfInBounds_toArray, List.set_cons_zero, List.set_cons_succ, i64_w, i32_w]
                         rfl
                        refine pure_ (i := 25) (N := some 134) (v := ?_) (a' := ?_) #[true, true, true, true, true, true, true, true, true, true, true, true, true, true, true, true, true, true, true, true, true, true, true, true, true, true, false, false, false, false, false, false, false, false, false, false, false] rfl rfl (any_of HT_.out (by kernel_rfl)) (fun _ _ _ h => h) (Or.inl ⟨by rfl, ?_⟩) ?_ ?_
                        rotate_left
                        ·
                         intro w'
                         go_simp
                         with_reducible rfl
                        rotate_left
                        ·
                         simp only [Act.put, List.setIfInBounds_toArray, List.set_cons_zero, List.set_cons_succ, i64_w, i32_w]
                         rfl
                        refine pure_ (i := 26) (N := some 135) (v := ?_) (a' := ?_) #[true, true, true, true, true, true, true, true, true, true, true, true, true, true, true, true, true, true, true, true, true, true, true, true, true, true, true, false, false, false, false, false, false, false, false, false, false] rfl rfl (any_of HT_.out (by kernel_rfl)) (fun _ _ _ h => h) (Or.inl ⟨by rfl, ?_⟩) ?_ ?_
                        rotate_left
                        ·
                         intro w'
                         go_simp
                         with_reducible rfl
                        rotate_left
                        ·
                         simp only [Act.put, List.setIfInBounds_toArray, List.set_cons_zero, List.set_cons_succ, i64_w, i32_w]
                         rfl
                        refine pure_ (i := 27) (N := some 136) (v := ?_) (a' := ?_) #[true, true, true, true, true, true, true, true, true, true, true, true, true, true, true, true, true, true, true, true, true, true, true, true, true, true, true, true, false, false, false, false, false, false, false, false, false] rfl rfl (any_of HT_.out (by kernel_rfl)) (fun _ _ _ h => h) (Or.inl ⟨by rfl, ?_⟩) ?_ ?_
                        rotate_left
                        ·
                         intro w'
                         go_simp
                         with_reducible rfl
                        rotate_left
                        ·
                         simp only [Act.put, List.setIfInBounds_toArray, List.set_cons_zero, List.set_cons_succ, i64_w, i32_w]
                         rfl
                        refine pure_ (i := 28) (N := some 137) (v := ?_) (a' := ?_) #[true, true, true, true, true, true, true, true, true, true, true, true, true, true, true, true, true, true, true, true, true, true, true, true, true, true, true, true, true, false, false, false, false, false, false, false, false] rfl rfl (any_of HT_.out (by kernel_rfl)) (fun _ _ _ h => h) (Or.inl ⟨by rfl, ?_⟩) ?_ ?_
                        rotate_left
                        ·
                         intro w'
                         go_simp
                         with_reducible rfl
                        rotate_left
                        ·
                         simp only [Act.put, List.setIfInBounds_toArray, List.set_cons_zero, List.set_cons_succ, i64_w, i32_w]
                         rfl
                        refine pure_ (i := 29) (N := some 138) (v := ?_) (a' := ?_) #[true, true, true, true, true, true, true, true, true, true, true, true, true, true, true, true, true, true, true, true, true, true, true, true, true, true, true, true, true, true, false, false, false, false, false, false, false] rfl rfl (any_of HT_.out (by kernel_rfl)) (fun _ _ _ h => h) (Or.inl ⟨by rfl, ?_⟩) ?_ ?_
                        rotate_left
                        ·
                         intro w'
                         go_simp
                         with_reducible rfl
                        rotate_left
                        ·
                         simp only [Act.put, List.setIfInBounds_toArray, List.set_cons_zero, List.set_cons_succ, i64_w, i32_w]
                         rfl
                        refine pure_ (i := 32) (N := some 141) (v := ?_) (a' := ?_) #[true, true, true, true, true, true, true, true, true, true, true, true, true, true, true, true, true, true, true, true, true, true, true, true, true, true, true, true, true, true, false, false, true, false, false, false, false] rfl rfl (any_of HT_.out (by kernel_rfl)) (fun _ _ _ h => h) (Or.inl ⟨by rfl, ?_⟩) ?_ ?_
                        rotate_left
                        ·
                         intro w'
                         go_simp
                         with_reducible rfl
                        rotate_left
                        ·
                         simp only [Act.put, List.setIfInBounds_toArray, List.set_cons_zero, List.set_cons_succ, i64_w, i32_w]
                         rfl
                        refine take_ (i := 30) (N := some 139) (v := ?_) (a' := ?_) #[true, true, true, true, true, true, true, true, true, true, true, true, true, true, true, true, true, true, true, true, true, true, true, true, true, true, true, true, true, true, true, false, true, false, false, false, false] rfl rfl (take_ofW HT_.out HW_.out (by kernel_rfl)) (fun _ _ _ h => h) (Or.inl ⟨by rfl, ?_⟩) hHeld ?_ ?_
                        rotate_left
                        ·
                         rintro w' ⟨s0, s1, s2, s3, s4, s5, s6, s7, s8, s9, s10, s11⟩
                         go_simp
                         with_reducible rfl
                        rotate_left
                        ·
                         simp only [Act.put, List.setIfInBounds_toArray, List.set_cons_zero, List.set_cons_succ, i64_w, i32_w]
                         rfl
                        refine take_ (i := 33) (N := some 142) (v := ?_) (a' := ?_) #[true, true, true, true, true, true, true, true, true, true, true, true, true, true, true, true, true, true, true, true, true, true, true, true, true, true, true, true, true, true, true, false, true, true, false, false, false] rfl rfl (take_ofW HT_.out HW_.out (by kernel_rfl)) (fun _ _ _ h => h) (Or.inl ⟨by rfl, ?_⟩) hHeld ?_ ?_
                        rotate_left
                        ·
                         rintro w' ⟨s0, s1, s2, s3, s4, s5, s6, s7, s8, s9, s10, s11⟩
                         go_simp
                         with_reducible rfl
                        rotate_left
                        ·
                         simp only [Act.put, List.setIfInBounds_toArray, List.set_cons_zero, List.set_cons_succ, i64_w, i32_w]
                         rfl
                        refine pure_ (i := 34) (N := some 143) (v := ?_) (a' := ?_) #[true, true, true, true, true, true, true, true, true, true, true, true, true, true, true, true, true, true, true, true, true, true, true, true, true, true, true, true, true, true, true, false, true, true, true, false, false] rfl rfl (any_of HT_.out (by kernel_rfl)) (fun _ _ _ h => h) (Or.inl ⟨by rfl, ?_⟩) ?_ ?_
                        rotate_left
                        ·
                         intro w'
                         go_simp
                         with_reducible rfl
                        rotate_left
                        ·
                         simp only [Act.put, List.setIfInBounds_toArray, List.set_cons_zero, List.set_cons_succ, i64_w, i32_w]
                         rfl
                        refine one_ (i := 31) (N := some 140) #[true, true, true, true, true, true, true, true, true, true, true, true, true, true, true, true, true, true, true, true, true, true, true, true, true, true, true, true, true, true, true, true, true, true, true, false, false] rfl rfl (one_of HT_.out (by kernel_rfl)) (by decide) (fun K hK => ?_)
                        refine goes_ Try.func53 (by kernel_rfl) rfl #[.int .i64 (rd t236 x79_2)] (by rfl) rfl rfl (by (try simp only [List.map_toArray, List.map_cons, List.map_nil]); first | done | rfl | (simp only [List.length_drop, List.length_take]; rfl)) ?_
                        with_reducible refine (thrumref09_Size.calls (rd t236 x79_2) t262 _ A86.out).mono ?_
                        rintro e w' ⟨rfl, ⟨nd, rfl⟩⟩
                        refine ⟨_, rfl, ?_⟩
                        refine hK.out _ _ ⟨(blk_cell BK235.out 0).trans rfl, (blk_cell BK235.out 1).trans rfl, (blk_cell BK235.out 2).trans rfl, (blk_cell BK235.out 3).trans rfl, (blk_cell BK235.out 4).trans rfl, (blk_cell BK235.out 5).trans rfl, (blk_cell BK235.out 6).trans rfl, (blk_cell BK235.out 7).trans rfl, hHeld.2.2.2.2.2.2.2.2.1, hHeld.2.2.2.2.2.2.2.2.2.1, ((HB.out.cell (World.block_lt_of_cell? w _ hw260_0)).trans hw260_0), hHeld.2.2.2.2.2.2.2.2.2.2.2⟩ (fun hHeld => ?_)
                        clear hK K
                        refine norm_ (a' := ?_) ?_ ?_
                        rotate_left
                        ·
                         show Act.put _ (some 140) _ = _
                         simp only [Act.put, List.setIfInBounds_toArray, List.set_cons_zero, List.set_cons_succ, i64_w, i32_w]
                         rfl
                        refine pure_ (i := 35) (N := some 144) (v := ?_) (a' := ?_) #[true, true, true, true, true, true, true, true, true, true, true, true, true, true, true, true, true, true, true, true, true, true, true, true, true, true, true, true, true, true, true, true, true, true, true, true, false] rfl rfl (any_of HT_.out (by kernel_rfl)) (fun _ _ _ h => h) (Or.inl ⟨by rfl, ?_⟩) ?_ ?_
                        rotate_left
                        ·
                         intro w'
                         go_simp
                         with_reducible rfl
                        rotate_left
                        ·
                         simp only [Act.put, List.setIfInBounds_toArray, List.set_cons_zero, List.set_cons_succ, i64_w, i32_w]
                         rfl
                        refine pure_ (i := 36) (N := some 145) (v := ?_) (a' := ?_) #[true, true, true, true, true, true, true, true, true, true, true, true, true, true, true, true, true, true, true, true, true, true, true, true, true, true, true, true, true, true, true, true, true, true, true, true, true] rfl rfl (any_of HT_.out (by kernel_rfl)) (fun _ _ _ h => h) (Or.inl ⟨by rfl, ?_⟩) ?_ ?_
                        rotate_left
                        ·
                         intro w'
                         go_simp
                         with_reducible rfl
                        rotate_left
                        ·
                         simp only [Act.put, List.setIfInBounds_toArray, List.set_cons_zero, List.set_cons_succ, i64_w, i32_w]
                         rfl
                        refine done_ (done_of HT_.out (by kernel_rfl)) ?_
                        try go_wp2
                        go_roundg kj53
                        case measure => have := HJ12.out; have := HK2.out; have := HJ53.out; omega
                        case rel => exact ⟨(wrap64 (x79_2 + 1)), (by first | rfl | (simp; done) | (simp [*]; done)), H', ⟨by have := HJ12.out; have := HK2.out; have := HJ53.out; omega⟩, ⟨by (with_reducible repeat (first | apply rrA | apply rrN | apply rrD)); exact HO_12.out⟩, ⟨by (with_reducible repeat (first | apply rrA | apply rrN | apply rrD)); exact HO_236002.out⟩, ⟨by (with_reducible repeat (first | apply rrA | apply rrN | apply rrD)); exact HO_236003.out⟩, ⟨by (with_reducible repeat (first | apply rrA | apply rrN | apply rrD)); exact HO_236006.out⟩, ⟨by (with_reducible repeat (first | apply rrA | apply rrN | apply rrD)); exact HO_236007.out⟩, ⟨by (with_reducible repeat (first | refine kkN ?_ _ | refine kkD ?_ | refine kkA ?_ _)); exact BK235.out⟩, ⟨by repeat (first | (with_reducible first | exact HB.out | apply zzA | apply zzN | apply zzD | refine below_set ?_ GE235.out) | exact HB.out)⟩⟩
                    ·
                     rw [if_neg c83] at H
                     exact absurd H (by simp)
                   ·
                    rw [if_neg c82] at H
                    have c82b0 : decide ((rd t236 x79_2) < 0) = false := decide_eq_false c82
                    clear c82
                    replace H := Option.bind_eq_some_iff.mp H
                    obtain ⟨t264, A900, H⟩ := H
                    replace H : (if t264 > (IntKind.u64.wrap (t226)) then (some false) else (thrumlaw10_QuantNear.l0 kj53 l0 true t236 t240 (l0.length : Int) (wrap64 (x79_2 + 1)) t218 t219 t220 t223 t226 t227 t228 t231)) = some r := H
                    have A90 := Aside0.mk A900
                    clear A900
                    by_cases c91 : t264 > (IntKind.u64.wrap (t226))
                    ·
                     rw [if_pos c91] at H
                     exact absurd (Option.some.inj H) (by rw [HR_.out]; decide)
                    ·
                     rw [if_neg c91] at H
                     have c91b0 : decide ((IntKind.u64.wrap (t226)) < t264) = false := decide_eq_false c91
                     clear c91
                     focus
                      have H' := Aside0.mk H
                      clear H
                      try go_wp2
                      have n0_ := Aside0.mk (rrD HO_12.out)
                      have n1_ := Aside0.mk (rrD HO_236002.out)
                      have n2_ := Aside0.mk (rrD HO_236003.out)
                      have n3_ := Aside0.mk (rrD HO_236006.out)
                      have n4_ := Aside0.mk (rrD HO_236007.out)
                      have n5_ := Aside0.mk (kkD BK235.out)
                      have n6_ := Aside0.mk (zzD HB.out)
                      clear HO_12
                      clear HO_236002
                      clear HO_236003
                      clear HO_236006
                      clear HO_236007
                      clear BK235
                      clear HB
                      have HO_12 := n0_
                      have HO_236002 := n1_
                      have HO_236003 := n2_
                      have HO_236006 := n3_
                      have HO_236007 := n4_
                      have BK235 := n5_
                      have HB := n6_
                      clear n0_ n1_ n2_ n3_ n4_ n5_ n6_
                      have p251 : 0 ≤ (x79_2 : Int) := of_decide_eq_true (by first | (with_reducible assumption) | assumption)
                      have q251 : x79_2 < (t236.length : Int) := of_decide_eq_true (by first | (with_reducible assumption) | assumption)
                      obtain ⟨ad251, e251, hx251_0⟩ := Kd.at_int (Kd.R_reads' HO_12.out).2.2 x79_2 p251 q251
                      obtain rfl : ad245 = ad251 := (by injection e251)
                      replace p251 := eq_true p251
                      replace q251 := eq_true q251
                      have p259 : 0 ≤ (x79_2 : Int) := of_decide_eq_true (by first | (with_reducible assumption) | assumption)
                      have q259 : x79_2 < (t236.length : Int) := of_decide_eq_true (by first | (with_reducible assumption) | assumption)
                      obtain ⟨ad259, e259, hx259_0⟩ := Kd.at_int (Kd.R_reads' HO_12.out).2.2 x79_2 p259 q259
                      obtain rfl : ad245 = ad259 := (by injection e259)
                      replace p259 := eq_true p259
                      replace q259 := eq_true q259
                      have p263 : 0 ≤ (x79_2 : Int) := of_decide_eq_true (by first | (with_reducible assumption) | assumption)
                      have q263 : x79_2 < (t236.length : Int) := of_decide_eq_true (by first | (with_reducible assumption) | assumption)
                      obtain ⟨ad263, e263, hx263_0⟩ := Kd.at_int (Kd.R_reads' HO_12.out).2.2 x79_2 p263 q263
                      obtain rfl : ad245 = ad263 := (by injection e263)
                      replace p263 := eq_true p263
                      replace q263 := eq_true q263
                      refine start_ (n := 37) (S := fun w' => w'.cell? ⟨gb235, 0, none⟩ = some (.int .i64 t218) ∧ w'.cell? ⟨gb235, 1, none⟩ = some (.int .i64 t219) ∧ w'.cell? ⟨gb235, 2, none⟩ = some (.slice Ao18 t220.length co18) ∧ w'.cell? ⟨gb235, 3, none⟩ = some (.slice Ao19 t223.length co19) ∧ w'.cell? ⟨gb235, 4, none⟩ = some (.int .i64 t226) ∧ w'.cell? ⟨gb235, 5, none⟩ = some (.int .i64 t227) ∧ w'.cell? ⟨gb235, 6, none⟩ = some (.slice Ao20 t228.length co20) ∧ w'.cell? ⟨gb235, 7, none⟩ = some (.slice Ao21 t231.length co21) ∧ w'.cell? (ad245.add (x79_2).toNat) = some (.int .i64 (rd t236 x79_2)) ∧ w'.cell? (ad245.add (x79_2).toNat) = some (.int .i64 (rd t236 x79_2)) ∧ w'.cell? (ad245.add (x79_2).toNat) = some (.int .i64 (rd t236 x79_2))) (ds := []) #[false, false, false, false, false, false, false, false, false, false, false, false, false, false, false, false, false, false, false, false, false, false, false, false, false, false, false, false, false, false, false, false, false, false, false, false, false] (by kernel_rfl) rfl rfl ⟨(blk_cell BK235.out 0).trans rfl, (blk_cell BK235.out 1).trans rfl, (blk_cell BK235.out 2).trans rfl, (blk_cell BK235.out 3).trans rfl, (blk_cell BK235.out 4).trans rfl, (blk_cell BK235.out 5).trans rfl, (blk_cell BK235.out 6).trans rfl, (blk_cell BK235.out 7).trans rfl, hx251_0, hx259_0, hx263_0⟩ (fun hHeld => ?_); refine with_tabW thrumlaw10_QuantNear.tab19 thrumlaw10_QuantNear.bits19 (fun HT_ HW_ => ?_)
                      generalize wc.drew = w93 at HO_12 HO_236002 HO_236003 HO_236006 HO_236007 BK235 HB hx251_0 hx259_0 hx263_0 hHeld ⊢
                      refine pure_ (i := 0) (N := some 109) (v := ?_) (a' := ?_) #[true, false, false, false, false, false, false, false, false, false, false, false, false, false, false, false, false, false, false, false, false, false, false, false, false, false, false, false, false, false, false, false, false, false, false, false, false] rfl rfl (any_of HT_.out (by kernel_rfl)) (fun _ _ _ h => h) (Or.inl ⟨by rfl, ?_⟩) ?_ ?_
                      rotate_left
                      ·
                       intro w'
                       go_simp
                       with_reducible rfl
                      rotate_left
                      ·
                       simp only [Act.put, List.setIfInBounds_toArray, List.set_cons_zero, List.set_cons_succ, i64_w, i32_w]
                       rfl
                      refine pure_ (i := 1) (N := some 110) (v := ?_) (a' := ?_) #[true, true, false, false, false, false, false, false, false, false, false, false, false, false, false, false, false, false, false, false, false, false, false, false, false, false, false, false, false, false, false, false, false, false, false, false, false] rfl rfl (any_of HT_.out (by kernel_rfl)) (fun _ _ _ h => h) (Or.inl ⟨by rfl, ?_⟩) ?_ ?_
                      rotate_left
                      ·
                       intro w'
                       go_simp
                       with_reducible rfl
                      rotate_left
                      ·
                       simp only [Act.put, List.setIfInBounds_toArray, List.set_cons_zero, List.set_cons_succ, i64_w, i32_w]
                       rfl
                      refine pure_ (i := 2) (N := some 111) (v := ?_) (a' := ?_) #[true, true, true, false, false, false, false, false, false, false, false, false, false, false, false, false, false, false, false, false, false, false, false, false, false, false, false, false, false, false, false, false, false, false, false, false, false] rfl rfl (any_of HT_.out (by kernel_rfl)) (fun _ _ _ h => h) (Or.inl ⟨by rfl, ?_⟩) ?_ ?_
                      rotate_left
                      ·
                       intro w'
                       go_simp
                       with_reducible rfl
                      rotate_left
                      ·
                       simp only [Act.put, List.setIfInBounds_toArray, List.set_cons_zero, List.set_cons_succ, i64_w, i32_w]
                       rfl
                      refine take_ (i := 3) (N := some 112) (v := ?_) (a' := ?_) #[true, true, true, true, false, false, false, false, false, false, false, false, false, false, false, false, false, false, false, false, false, false, false, false, false, false, false, false, false, false, false, false, false, false, false, false, false] rfl rfl (take_ofW HT_.out HW_.out (by kernel_rfl)) (fun _ _ _ h => h) (Or.inl ⟨by rfl, ?_⟩) hHeld ?_ ?_
                      rotate_left
                      ·
                       rintro w' ⟨s0, s1, s2, s3, s4, s5, s6, s7, s8, s9, s10⟩
                       go_simp
                       with_reducible rfl
                      rotate_left
                      ·
                       simp only [Act.put, List.setIfInBounds_toArray, List.set_cons_zero, List.set_cons_succ, i64_w, i32_w]
                       rfl
                      refine pure_ (i := 4) (N := some 113) (v := ?_) (a' := ?_) #[true, true, true, true, true, false, false, false, false, false, false, false, false, false, false, false, false, false, false, false, false, false, false, false, false, false, false, false, false, false, false, false, false, false, false, false, false] rfl rfl (any_of HT_.out (by kernel_rfl)) (fun _ _ _ h => h) (Or.inl ⟨by rfl, ?_⟩) ?_ ?_
                      rotate_left
                      ·
                       intro w'
                       go_simp
                       with_reducible rfl
                      rotate_left
                      ·
                       simp only [Act.put, List.setIfInBounds_toArray, List.set_cons_zero, List.set_cons_succ, i64_w, i32_w]
                       rfl
                      refine pure_ (i := 5) (N := some 114) (v := ?_) (a' := ?_) #[true, true, true, true, true, true, false, false, false, false, false, false, false, false, false, false, false, false, false, false, false, false, false, false, false, false, false, false, false, false, false, false, false, false, false, false, false] rfl rfl (any_of HT_.out (by kernel_rfl)) (fun _ _ _ h => h) (Or.inl ⟨by rfl, ?_⟩) ?_ ?_
                      rotate_left
                      ·
                       intro w'
                       go_simp
                       with_reducible rfl
                      rotate_left
                      ·
                       simp only [Act.put, List.setIfInBounds_toArray, List.set_cons_zero, List.set_cons_succ, i64_w, i32_w]
                       rfl
                      refine pure_ (i := 6) (N := some 115) (v := undef) (a' := ?_) #[true, true, true, true, true, true, true, false, false, false, false, false, false, false, false, false, false, false, false, false, false, false, false, false, false, false, false, false, false, false, false, false, false, false, false, false, false] rfl rfl (any_of HT_.out (by kernel_rfl)) (fun _ _ _ h => h) (Or.inr ⟨by rfl, rfl⟩) ?_ ?_
                      rotate_left
                      ·
                       simp only [Act.put, List.setIfInBounds_toArray, List.set_cons_zero, List.set_cons_succ, i64_w, i32_w]
                       rfl
                      refine pure_ (i := 7) (N := some 116) (v := undef) (a' := ?_) #[true, true, true, true, true, true, true, true, false, false, false, false, false, false, false, false, false, false, false, false, false, false, false, false, false, false, false, false, false, false, false, false, false, false, false, false, false] rfl rfl (any_of HT_.out (by kernel_rfl)) (fun _ _ _ h => h) (Or.inr ⟨by rfl, rfl⟩) ?_ ?_
                      rotate_left
                      ·
                       simp only [Act.put, List.setIfInBounds_toArray, List.set_cons_zero, List.set_cons_succ, i64_w, i32_w]
                       rfl
                      refine pure_ (i := 8) (N := some 117) (v := undef) (a' := ?_) #[true, true, true, true, true, true, true, true, true, false, false, false, false, false, false, false, false, false, false, false, false, false, false, false, false, false, false, false, false, false, false, false, false, false, false, false, false] rfl rfl (any_of HT_.out (by kernel_rfl)) (fun _ _ _ h => h) (Or.inr ⟨by rfl, rfl⟩) ?_ ?_
                      rotate_left
                      ·
                       simp only [Act.put, List.setIfInBounds_toArray, List.set_cons_zero, List.set_cons_succ, i64_w, i32_w]
                       rfl
                      refine pure_ (i := 9) (N := some 118) (v := undef) (a' := ?_) #[true, true, true, true, true, true, true, true, true, true, false, false, false, false, false, false, false, false, false, false, false, false, false, false, false, false, false, false, false, false, false, false, false, false, false, false, false] rfl rfl (any_of HT_.out (by kernel_rfl)) (fun _ _ _ h => h) (Or.inr ⟨by rfl, rfl⟩) ?_ ?_
                      rotate_left
                      ·
                       simp only [Act.put, List.setIfInBounds_toArray, List.set_cons_zero, List.set_cons_succ, i64_w, i32_w]
                       rfl
                      refine pure_ (i := 10) (N := some 119) (v := undef) (a' := ?_) #[true, true, true, true, true, true, true, true, true, true, true, false, false, false, false, false, false, false, false, false, false, false, false, false, false, false, false, false, false, false, false, false, false, false, false, false, false] rfl rfl (any_of HT_.out (by kernel_rfl)) (fun _ _ _ h => h) (Or.inr ⟨by rfl, rfl⟩) ?_ ?_
                      rotate_left
                      ·
                       simp only [Act.put, List.setIfInBounds_toArray, List.set_cons_zero, List.set_cons_succ, i64_w, i32_w]
                       rfl
                      refine pure_ (i := 11) (N := some 120) (v := ?_) (a' := ?_) #[true, true, true, true, true, true, true, true, true, true, true, true, false, false, false, false, false, false, false, false, false, false, false, false, false, false, false, false, false, false, false, false, false, false, false, false, false] rfl rfl (any_of HT_.out (by kernel_rfl)) (fun _ _ _ h => h) (Or.inl ⟨by rfl, ?_⟩) ?_ ?_
                      rotate_left
                      ·
                       intro w'
                       go_simp
                       with_reducible rfl
                      rotate_left
                      ·
                       simp only [Act.put, List.setIfInBounds_toArray, List.set_cons_zero, List.set_cons_succ, i64_w, i32_w]
                       rfl
                      refine pure_ (i := 12) (N := some 121) (v := ?_) (a' := ?_) #[true, true, true, true, true, true, true, true, true, true, true, true, true, false, false, false, false, false, false, false, false, false, false, false, false, false, false, false, false, false, false, false, false, false, false, false, false] rfl rfl (any_of HT_.out (by kernel_rfl)) (fun _ _ _ h => h) (Or.inl ⟨by rfl, ?_⟩) ?_ ?_
                      rotate_left
                      ·
                       intro w'
                       go_simp
                       with_reducible rfl
                      rotate_left
                      ·
                       simp only [Act.put, List.setIfInBounds_toArray, List.set_cons_zero, List.set_cons_succ, i64_w, i32_w]
                       rfl
                      refine pure_ (i := 13) (N := some 122) (v := ?_) (a' := ?_) #[true, true, true, true, true, true, true, true, true, true, true, true, true, true, false, false, false, false, false, false, false, false, false, false, false, false, false, false, false, false, false, false, false, false, false, false, false] rfl rfl (any_of HT_.out (by kernel_rfl)) (fun _ _ _ h => h) (Or.inl ⟨by rfl, ?_⟩) ?_ ?_
                      rotate_left
                      ·
                       intro w'
                       go_simp
                       with_reducible rfl
                      rotate_left
                      ·
                       simp only [Act.put, List.setIfInBounds_toArray, List.set_cons_zero, List.set_cons_succ, i64_w, i32_w]
                       rfl
                      refine pure_ (i := 14) (N := some 123) (v := ?_) (a' := ?_) #[true, true, true, true, true, true, true, true, true, true, true, true, true, true, true, false, false, false, false, false, false, false, false, false, false, false, false, false, false, false, false, false, false, false, false, false, false] rfl rfl (any_of HT_.out (by kernel_rfl)) (fun _ _ _ h => h) (Or.inl ⟨by rfl, ?_⟩) ?_ ?_
                      rotate_left
                      ·
                       intro w'
                       go_simp
                       with_reducible rfl
                      rotate_left
                      ·
                       simp only [Act.put, List.setIfInBounds_toArray, List.set_cons_zero, List.set_cons_succ, i64_w, i32_w]
                       rfl
                      refine pure_ (i := 15) (N := some 124) (v := ?_) (a' := ?_) #[true, true, true, true, true, true, true, true, true, true, true, true, true, true, true, true, false, false, false, false, false, false, false, false, false, false, false, false, false, false, false, false, false, false, false, false, false] rfl rfl (any_of HT_.out (by kernel_rfl)) (fun _ _ _ h => h) (Or.inl ⟨by rfl, ?_⟩) ?_ ?_
                      rotate_left
                      ·
                       intro w'
                       go_simp
                       with_reducible rfl
                      rotate_left
                      ·
                       simp only [Act.put, List.setIfInBounds_toArray, List.set_cons_zero, List.set_cons_succ, i64_w, i32_w]
                       rfl
                      refine take_ (i := 16) (N := some 125) (v := ?_) (a' := ?_) #[true, true, true, true, true, true, true, true, true, true, true, true, true, true, true, true, true, false, false, false, false, false, false, false, false, false, false, false, false, false, false, false, false, false, false, false, false] rfl rfl (take_ofW HT_.out HW_.out (by kernel_rfl)) (fun _ _ _ h => h) (Or.inl ⟨by rfl, ?_⟩) hHeld ?_ ?_
                      rotate_left
                      ·
                       rintro w' ⟨s0, s1, s2, s3, s4, s5, s6, s7, s8, s9, s10⟩
                       go_simp
                       with_reducible rfl
                      rotate_left
                      ·
                       simp only [Act.put, List.setIfInBounds_toArray, List.set_cons_zero, List.set_cons_succ, i64_w, i32_w]
                       rfl
                      refine pure_ (i := 17) (N := some 126) (v := ?_) (a' := ?_) #[true, true, true, true, true, true, true, true, true, true, true, true, true, true, true, true, true, true, false, false, false, false, false, false, false, false, false, false, false, false, false, false, false, false, false, false, false] rfl rfl (any_of HT_.out (by kernel_rfl)) (fun _ _ _ h => h) (Or.inl ⟨by rfl, ?_⟩) ?_ ?_
                      rotate_left
                      ·
                       intro w'
                       go_simp
                       with_reducible rfl
                      rotate_left
                      ·
                       simp only [Act.put, List.setIfInBounds_toArray, List.set_cons_zero, List.set_cons_succ, i64_w, i32_w]
                       rfl
                      refine pure_ (i := 18) (N := some 127) (v := ?_) (a' := ?_) #[true, true, true, true, true, true, true, true, true, true, true, true, true, true, true, true, true, true, true, false, false, false, false, false, false, false, false, false, false, false, false, false, false, false, false, false, false] rfl rfl (any_of HT_.out (by kernel_rfl)) (fun _ _ _ h => h) (Or.inl ⟨by rfl, ?_⟩) ?_ ?_
                      rotate_left
                      ·
                       intro w'
                       go_simp
                       with_reducible rfl
                      rotate_left
                      ·
                       simp only [Act.put, List.setIfInBounds_toArray, List.set_cons_zero, List.set_cons_succ, i64_w, i32_w]
                       rfl
                      refine pure_ (i := 19) (N := some 128) (v := undef) (a' := ?_) #[true, true, true, true, true, true, true, true, true, true, true, true, true, true, true, true, true, true, true, true, false, false, false, false, false, false, false, false, false, false, false, false, false, false, false, false, false] rfl rfl (any_of HT_.out (by kernel_rfl)) (fun _ _ _ h => h) (Or.inr ⟨by rfl, rfl⟩) ?_ ?_
                      rotate_left
                      ·
                       simp only [Act.put, List.setIfInBounds_toArray, List.set_cons_zero, List.set_cons_succ, i64_w, i32_w]
                       rfl
                      refine pure_ (i := 20) (N := some 129) (v := undef) (a' := ?_) #[true, true, true, true, true, true, true, true, true, true, true, true, true, true, true, true, true, true, true, true, true, false, false, false, false, false, false, false, false, false, false, false, false, false, false, false, false] rfl rfl (any_of HT_.out (by kernel_rfl)) (fun _ _ _ h => h) (Or.inr ⟨by rfl, rfl⟩) ?_ ?_
                      rotate_left
                      ·
                       simp only [Act.put, List.setIfInBounds_toArray, List.set_cons_zero, List.set_cons_succ, i64_w, i32_w]
                       rfl
                      refine pure_ (i := 21) (N := some 130) (v := undef) (a' := ?_) #[true, true, true, true, true, true, true, true, true, true, true, true, true, true, true, true, true, true, true, true, true, true, false, false, false, false, false, false, false, false, false, false, false, false, false, false, false] rfl rfl (any_of HT_.out (by kernel_rfl)) (fun _ _ _ h => h) (Or.inr ⟨by rfl, rfl⟩) ?_ ?_
                      rotate_left
                      ·
                       simp only [Act.put, List.setIfInBounds_toArray, List.set_cons_zero, List.set_cons_succ, i64_w, i32_w]
                       rfl
                      refine pure_ (i := 22) (N := some 131) (v := undef) (a' := ?_) #[true, true, true, true, true, true, true, true, true, true, true, true, true, true, true, true, true, true, true, true, true, true, true, false, false, false, false, false, false, false, false, false, false, false, false, false, false] rfl rfl (any_of HT_.out (by kernel_rfl)) (fun _ _ _ h => h) (Or.inr ⟨by rfl, rfl⟩) ?_ ?_
                      rotate_left
                      ·
                       simp only [Act.put, List.setIfInBounds_toArray, List.set_cons_zero, List.set_cons_succ, i64_w, i32_w]
                       rfl
                      refine pure_ (i := 23) (N := some 132) (v := undef) (a' := ?_) #[true, true, true, true, true, true, true, true, true, true, true, true, true, true, true, true, true, true, true, true, true, true, true, true, false, false, false, false, false, false, false, false, false, false, false, false, false] rfl rfl (any_of HT_.out (by kernel_rfl)) (fun _ _ _ h => h) (Or.inr ⟨by rfl, rfl⟩) ?_ ?_
                      rotate_left
                      ·
                       simp only [Act.put, List.setIfInBounds_toArray, List.set_cons_zero, List.set_cons_succ, i64_w, i32_w]
                       rfl
                      refine pure_ (i := 24) (N := some 133) (v := ?_) (a' := ?_) #[true, true, true, true, true, true, true, true, true, true, true, true, true, true, true, true, true, true, true, true, true, true, true, true, true, false, false, false, false, false, false, false, false, false, false, false, false] rfl rfl (any_of HT_.out (by kernel_rfl)) (fun _ _ _ h => h) (Or.inl ⟨by rfl, ?_⟩) ?_ ?_
                      rotate_left
                      ·
                       intro w'
                       go_simp
                       with_reducible rfl
                      rotate_left
                      ·
                       simp only [Act.put, List.setIfInBounds_toArray, List.set_cons_zero, List.set_cons_succ, i64_w, i32_w]
                       rfl
                      refine pure_ (i := 25) (N := some 134) (v := ?_) (a' := ?_) #[true, true, true, true, true, true, true, true, true, true, true, true, true, true, true, true, true, true, true, true, true, true, true, true, true, true, false, false, false, false, false, false, false, false, false, false, false] rfl rfl (any_of HT_.out (by kernel_rfl)) (fun _ _ _ h => h) (Or.inl ⟨by rfl, ?_⟩) ?_ ?_
                      rotate_left
                      ·
                       intro w'
                       go_simp
                       with_reducible rfl
                      rotate_left
                      ·
                       simp only [Act.put, List.setIfInBounds_toArray, List.set_cons_zero, List.set_cons_succ, i64_w, i32_w]
                       rfl
                      refine pure_ (i := 26) (N := some 135) (v := ?_) (a' := ?_) #[true, true, true, true, true, true, true, true, true, true, true, true, true, true, true, true, true, true, true, true, true, true, true, true, true, true, true, false, false, false, false, false, false, false, false, false, false] rfl rfl (any_of HT_.out (by kernel_rfl)) (fun _ _ _ h => h) (Or.inl ⟨by rfl, ?_⟩) ?_ ?_
                      rotate_left
                      ·
                       intro w'
                       go_simp
                       with_reducible rfl
                      rotate_left
                      ·
                       simp only [Act.put, List.setIfInBounds_toArray, List.set_cons_zero, List.set_cons_succ, i64_w, i32_w]
                       rfl
                      refine pure_ (i := 27) (N := some 136) (v := ?_) (a' := ?_) #[true, true, true, true, true, true, true, true, true, true, true, true, true, true, true, true, true, true, true, true, true, true, true, true, true, true, true, true, false, false, false, false, false, false, false, false, false] rfl rfl (any_of HT_.out (by kernel_rfl)) (fun _ _ _ h => h) (Or.inl ⟨by rfl, ?_⟩) ?_ ?_
                      rotate_left
                      ·
                       intro w'
                       go_simp
                       with_reducible rfl
                      rotate_left
                      ·
                       simp only [Act.put, List.setIfInBounds_toArray, List.set_cons_zero, List.set_cons_succ, i64_w, i32_w]
                       rfl
                      refine pure_ (i := 28) (N := some 137) (v := ?_) (a' := ?_) #[true, true, true, true, true, true, true, true, true, true, true, true, true, true, true, true, true, true, true, true, true, true, true, true, true, true, true, true, true, false, false, false, false, false, false, false, false] rfl rfl (any_of HT_.out (by kernel_rfl)) (fun _ _ _ h => h) (Or.inl ⟨by rfl, ?_⟩) ?_ ?_
                      rotate_left
                      ·
                       intro w'
                       go_simp
                       with_reducible rfl
                      rotate_left
                      ·
                       simp only [Act.put, List.setIfInBounds_toArray, List.set_cons_zero, List.set_cons_succ, i64_w, i32_w]
                       rfl
                      refine pure_ (i := 29) (N := some 138) (v := ?_) (a' := ?_) #[true, true, true, true, true, true, true, true, true, true, true, true, true, true, true, true, true, true, true, true, true, true, true, true, true, true, true, true, true, true, false, false, false, false, false, false, false] rfl rfl (any_of HT_.out (by kernel_rfl)) (fun _ _ _ h => h) (Or.inl ⟨by rfl, ?_⟩) ?_ ?_
                      rotate_left
                      ·
                       intro w'
                       go_simp
                       with_reducible rfl
                      rotate_left
                      ·
                       simp only [Act.put, List.setIfInBounds_toArray, List.set_cons_zero, List.set_cons_succ, i64_w, i32_w]
                       rfl
                      refine pure_ (i := 32) (N := some 141) (v := ?_) (a' := ?_) #[true, true, true, true, true, true, true, true, true, true, true, true, true, true, true, true, true, true, true, true, true, true, true, true, true, true, true, true, true, true, false, false, true, false, false, false, false] rfl rfl (any_of HT_.out (by kernel_rfl)) (fun _ _ _ h => h) (Or.inl ⟨by rfl, ?_⟩) ?_ ?_
                      rotate_left
                      ·
                       intro w'
                       go_simp
                       with_reducible rfl
                      rotate_left
                      ·
                       simp only [Act.put, List.setIfInBounds_toArray, List.set_cons_zero, List.set_cons_succ, i64_w, i32_w]
                       rfl
                      refine take_ (i := 30) (N := some 139) (v := ?_) (a' := ?_) #[true, true, true, true, true, true, true, true, true, true, true, true, true, true, true, true, true, true, true, true, true, true, true, true, true, true, true, true, true, true, true, false, true, false, false, false, false] rfl rfl (take_ofW HT_.out HW_.out (by kernel_rfl)) (fun _ _ _ h => h) (Or.inl ⟨by rfl, ?_⟩) hHeld ?_ ?_
                      rotate_left
                      ·
                       rintro w' ⟨s0, s1, s2, s3, s4, s5, s6, s7, s8, s9, s10⟩
                       go_simp
                       with_reducible rfl
                      rotate_left
                      ·
                       simp only [Act.put, List.setIfInBounds_toArray, List.set_cons_zero, List.set_cons_succ, i64_w, i32_w]
                       rfl
                      refine take_ (i := 33) (N := some 142) (v := ?_) (a' := ?_) #[true, true, true, true, true, true, true, true, true, true, true, true, true, true, true, true, true, true, true, true, true, true, true, true, true, true, true, true, true, true, true, false, true, true, false, false, false] rfl rfl (take_ofW HT_.out HW_.out (by kernel_rfl)) (fun _ _ _ h => h) (Or.inl ⟨by rfl, ?_⟩) hHeld ?_ ?_
                      rotate_left
                      ·
                       rintro w' ⟨s0, s1, s2, s3, s4, s5, s6, s7, s8, s9, s10⟩
                       go_simp
                       with_reducible rfl
                      rotate_left
                      ·
                       simp only [Act.put, List.setIfInBounds_toArray, List.set_cons_zero, List.set_cons_succ, i64_w, i32_w]
                       rfl
                      refine pure_ (i := 34) (N := some 143) (v := ?_) (a' := ?_) #[true, true, true, true, true, true, true, true, true, true, true, true, true, true, true, true, true, true, true, true, true, true, true, true, true, true, true, true, true, true, true, false, true, true, true, false, false] rfl rfl (any_of HT_.out (by kernel_rfl)) (fun _ _ _ h => h) (Or.inl ⟨by rfl, ?_⟩) ?_ ?_
                      rotate_left
                      ·
                       intro w'
                       go_simp
                       with_reducible rfl
                      rotate_left
                      ·
                       simp only [Act.put, List.setIfInBounds_toArray, List.set_cons_zero, List.set_cons_succ, i64_w, i32_w]
                       rfl
                      refine one_ (i := 31) (N := some 140) #[true, true, true, true, true, true, true, true, true, true, true, true, true, true, true, true, true, true, true, true, true, true, true, true, true, true, true, true, true, true, true, true, true, true, true, false, false] rfl rfl (one_of HT_.out (by kernel_rfl)) (by decide) (fun K hK => ?_)
                      refine goes_ Try.func53 (by kernel_rfl) rfl #[.int .i64 (rd t236 x79_2)] (by rfl) rfl rfl (by (try simp only [List.map_toArray, List.map_cons, List.map_nil]); first | done | rfl | (simp only [List.length_drop, List.length_take]; rfl)) ?_
                      with_reducible refine (thrumref09_Size.calls (rd t236 x79_2) t264 _ A90.out).mono ?_
                      rintro e w' ⟨rfl, ⟨nd, rfl⟩⟩
                      refine ⟨_, rfl, ?_⟩
                      refine hK.out _ _ ⟨(blk_cell BK235.out 0).trans rfl, (blk_cell BK235.out 1).trans rfl, (blk_cell BK235.out 2).trans rfl, (blk_cell BK235.out 3).trans rfl, (blk_cell BK235.out 4).trans rfl, (blk_cell BK235.out 5).trans rfl, (blk_cell BK235.out 6).trans rfl, (blk_cell BK235.out 7).trans rfl, hHeld.2.2.2.2.2.2.2.2.1, hHeld.2.2.2.2.2.2.2.2.2.1, hHeld.2.2.2.2.2.2.2.2.2.2⟩ (fun hHeld => ?_)
                      clear hK K
                      refine norm_ (a' := ?_) ?_ ?_
                      rotate_left
                      ·
                       show Act.put _ (some 140) _ = _
                       simp only [Act.put, List.setIfInBounds_toArray, List.set_cons_zero, List.set_cons_succ, i64_w, i32_w]
                       rfl
                      refine pure_ (i := 35) (N := some 144) (v := ?_) (a' := ?_) #[true, true, true, true, true, true, true, true, true, true, true, true, true, true, true, true, true, true, true, true, true, true, true, true, true, true, true, true, true, true, true, true, true, true, true, true, false] rfl rfl (any_of HT_.out (by kernel_rfl)) (fun _ _ _ h => h) (Or.inl ⟨by rfl, ?_⟩) ?_ ?_
                      rotate_left
                      ·
                       intro w'
                       go_simp
                       with_reducible rfl
                      rotate_left
                      ·
                       simp only [Act.put, List.setIfInBounds_toArray, List.set_cons_zero, List.set_cons_succ, i64_w, i32_w]
                       rfl
                      refine pure_ (i := 36) (N := some 145) (v := ?_) (a' := ?_) #[true, true, true, true, true, true, true, true, true, true, true, true, true, true, true, true, true, true, true, true, true, true, true, true, true, true, true, true, true, true, true, true, true, true, true, true, true] rfl rfl (any_of HT_.out (by kernel_rfl)) (fun _ _ _ h => h) (Or.inl ⟨by rfl, ?_⟩) ?_ ?_
                      rotate_left
                      ·
                       intro w'
                       go_simp
                       with_reducible rfl
                      rotate_left
                      ·
                       simp only [Act.put, List.setIfInBounds_toArray, List.set_cons_zero, List.set_cons_succ, i64_w, i32_w]
                       rfl
                      refine done_ (done_of HT_.out (by kernel_rfl)) ?_
                      try go_wp2
                      go_roundg kj53
                      case measure => have := HJ12.out; have := HK2.out; have := HJ53.out; omega
                      case rel => exact ⟨(wrap64 (x79_2 + 1)), (by first | rfl | (simp; done) | (simp [*]; done)), H', ⟨by have := HJ12.out; have := HK2.out; have := HJ53.out; omega⟩, ⟨by (with_reducible repeat (first | apply rrA | apply rrN | apply rrD)); exact HO_12.out⟩, ⟨by (with_reducible repeat (first | apply rrA | apply rrN | apply rrD)); exact HO_236002.out⟩, ⟨by (with_reducible repeat (first | apply rrA | apply rrN | apply rrD)); exact HO_236003.out⟩, ⟨by (with_reducible repeat (first | apply rrA | apply rrN | apply rrD)); exact HO_236006.out⟩, ⟨by (with_reducible repeat (first | apply rrA | apply rrN | apply rrD)); exact HO_236007.out⟩, ⟨by (with_reducible repeat (first | refine kkN ?_ _ | refine kkD ?_ | refine kkA ?_ _)); exact BK235.out⟩, ⟨by repeat (first | (with_reducible first | exact HB.out | apply zzA | apply zzN | apply zzD | refine below_set ?_ GE235.out) | exact HB.out)⟩⟩
                 ·
                  rw [if_neg c66] at H
                  exact absurd H (by simp)
                ·
                 rw [if_neg c65] at H
                 exact absurd H (by simp)
            ·
             rw [if_neg c52] at H
             exact absurd H (by simp)
           ·
            rw [if_neg c51] at H
            exact absurd H (by simp)
          ·
           rw [if_neg c50] at H
           exact absurd H (by simp)
         ·
          rw [if_neg c49] at H
          have c49b0 : decide (x79_2 < (l0.length : Int)) = false := decide_eq_false c49
          clear c49
          focus
           obtain rfl := Option.some.inj H
           go_wp2
           go_ret
           exact ⟨by first | rfl | (simp [errW_none, errW_some] <;> rfl) | (simp [*, errW_none, errW_some] <;> rfl), by repeat (first | (with_reducible first | exact HB.out | apply zzA | apply zzN | apply zzD | refine below_set ?_ GE235.out) | exact HB.out)⟩
   ·
    rw [if_neg c10] at H
    have c10b0 : (t234 == 0) = false := beq_eq_false_iff_ne.mpr c10
    have c10b1 : (t234 != 0) = true := bne_iff_ne.mpr c10
    focus
     obtain rfl := Option.some.inj H
     go_enter Try.func13, Try.ntmps13
     go_wp2_with (first | ((with_reducible refine gate_callee (f := 44) rfl ?_); refine goesL_ (some 19) rfl rfl Try.func44 (by kernel_rfl) rfl #[] rfl (by (try simp only [List.map_toArray, List.map_cons, List.map_nil]); first | done | rfl | (simp only [List.length_drop, List.length_take]; rfl)) ?_; (with_reducible refine (thrumlaw10_live.calls  true _ A5.out).mono ?_); rintro e w94 ⟨rfl, hb⟩; refine ⟨_, rfl, ?_⟩; have n0_ := Aside0.mk (zzT (by repeat (first | (with_reducible first | exact HB.out | apply zzA | apply zzN | apply zzD) | exact HB.out)) hb); clear HB; have HB := n0_; clear n0_; (try clear hb); (try clear hb2); (try clear hk); (try clear hi)) | ((with_reducible refine gate_callee (f := 45) rfl ?_); refine goesL_ (some 24) rfl rfl Try.func45 (by kernel_rfl) rfl #[.slice A0 l0.length c0, .slice A3 l3.length c3] rfl (by (try simp only [List.map_toArray, List.map_cons, List.map_nil]); first | done | rfl | (simp only [List.length_drop, List.length_take]; rfl)) ?_; (with_reducible refine (thrumlaw10_few.calls _ _ l0 _ _ l3 true _ ?side1 ?side2 ?side3 ?side4 A7.out).mono ?_); (case side1 => repeat (first | exact (Kd.C_below HR0.out HB.out) | (with_reducible refine ccA ?_ _) | (with_reducible refine ccN ?_ _) | (with_reducible refine ccD ?_))); (case side2 => exact HC0.out); (case side3 => repeat (first | exact (Kd.C_below HR3.out HB.out) | (with_reducible refine ccA ?_ _) | (with_reducible refine ccN ?_ _) | (with_reducible refine ccD ?_))); (case side4 => exact HC3.out); rintro e w' ⟨rfl, ⟨nd, rfl⟩⟩; refine ⟨_, rfl, ?_⟩; (try (rw [drewN_self w94]; generalize hq_ : World.drewN w94 _ = w94; have n0_ : Aside0 (Below w.heap.size w w94) := ⟨by rw [← hq_]; exact (by repeat (first | (with_reducible first | exact HB.out | apply zzA | apply zzN | apply zzD) | exact HB.out))⟩; clear HB hq_; have HB := n0_; clear n0_))) | ((with_reducible refine gate_callee (f := 46) rfl ?_); refine goesL_ (some 32) rfl rfl Try.func46 (by kernel_rfl) rfl #[.slice A0 l0.length c0, .int .i64 a1, .int .u64 a2, .slice A3 l3.length c3] rfl (by (try simp only [List.map_toArray, List.map_cons, List.map_nil]); first | done | rfl | (simp only [List.length_drop, List.length_take]; rfl)) ?_; (with_reducible refine (quant_Press.calls k _ _ l0 a1 a2 _ _ l3 t218 t219 t220 t223 t226 t227 t228 t231 t234 _ ?side1 ?side2 ?side3 ?side4 A9.out).mono ?_); (case side1 => repeat (first | exact (Kd.C_below HR0.out HB.out) | (with_reducible refine ccA ?_ _) | (with_reducible refine ccN ?_ _) | (with_reducible refine ccD ?_))); (case side2 => exact HC0.out); (case side3 => repeat (first | exact (Kd.C_below HR3.out HB.out) | (with_reducible refine ccA ?_ _) | (with_reducible refine ccN ?_ _) | (with_reducible refine ccD ?_))); (case side4 => exact HC3.out); rintro e w95 ⟨v221, v224, v229, v232, rfl, ho0, ho1, ho2, ho3, hb⟩; refine ⟨_, rfl, ?_⟩; have n0_ := Aside0.mk (Kd.R_lower ho0 (zzS (by repeat (first | (with_reducible first | exact HB.out | apply zzA | apply zzN | apply zzD) | exact HB.out)))); have n1_ := Aside0.mk (Kd.R_lower ho1 (zzS (by repeat (first | (with_reducible first | exact HB.out | apply zzA | apply zzN | apply zzD) | exact HB.out)))); have n2_ := Aside0.mk (Kd.R_lower ho2 (zzS (by repeat (first | (with_reducible first | exact HB.out | apply zzA | apply zzN | apply zzD) | exact HB.out)))); have n3_ := Aside0.mk (Kd.R_lower ho3 (zzS (by repeat (first | (with_reducible first | exact HB.out | apply zzA | apply zzN | apply zzD) | exact HB.out)))); have n4_ := Aside0.mk (zzT (by repeat (first | (with_reducible first | exact HB.out | apply zzA | apply zzN | apply zzD) | exact HB.out)) hb); clear HB; have HO222 := n0_; have HO225 := n1_; have HO230 := n2_; have HO233 := n3_; have HB := n4_; clear n0_ n1_ n2_ n3_ n4_; (try clear hb); (try clear hb2); (try clear hk); (try clear hi); (try clear ho0); (try clear ho1); (try clear ho2); (try clear ho3)) | ((with_reducible refine gate_dst (N := 10) rfl ?_); (try (refine gate_guard (by rfl) ?_; dsimp only)); refine box_event ?hg (N := 10) ?hd (cs := #[.int .i64 0, .int .i64 0, .slice none 0 0, .slice none 0 0, .int .i64 0, .int .i64 0, .slice none 0 0, .slice none 0 0]) (t := 30) ?hr ?_; (case hd => rfl); (case hg => rfl); (case hr => first | (go_simp; done) | (go_simp; rfl)); intro gb235 hg w96 hbox hb; have n0_ := Aside0.mk (Kd.R_below (by (with_reducible repeat (first | apply rrA | apply rrN | apply rrD)); exact HO222.out) hb); have n1_ := Aside0.mk (Kd.R_below (by (with_reducible repeat (first | apply rrA | apply rrN | apply rrD)); exact HO225.out) hb); have n2_ := Aside0.mk (Kd.R_below (by (with_reducible repeat (first | apply rrA | apply rrN | apply rrD)); exact HO230.out) hb); have n3_ := Aside0.mk (Kd.R_below (by (with_reducible repeat (first | apply rrA | apply rrN | apply rrD)); exact HO233.out) hb); have n4_ := Aside0.mk (zzT (by repeat (first | (with_reducible first | exact HB.out | apply zzA | apply zzN | apply zzD) | exact HB.out)) hb); have n5_ := Aside0.mk (hbox); have n6_ := Aside0.mk ((by rw [hg]; exact (zzS (by repeat (first | (with_reducible first | exact HB.out | apply zzA | apply zzN | apply zzD) | exact HB.out))) : w.heap.size ≤ gb235)); have n7_ := Aside0.mk ((by rw [hg]; exact (zzS (by repeat (first | (with_reducible first | exact HB.out | apply zzA | apply zzN | apply zzD) | exact HB.out))) : w.heap.size ≤ gb235)); clear HO222; clear HO225; clear HO230; clear HO233; clear HB; have HO222 := n0_; have HO225 := n1_; have HO230 := n2_; have HO233 := n3_; have HB := n4_; have BK235 := n5_; have GW235 := n6_; have GE235 := n7_; clear n0_ n1_ n2_ n3_ n4_ n5_ n6_ n7_; clear hb hbox hg; have hcz97_0 : w96.cell? ⟨gb235, 0, none⟩ = some (.int .i64 0) := (blk_cell BK235.out 0).trans rfl; have hcz97_1 : w96.cell? ⟨gb235, 1, none⟩ = some (.int .i64 0) := (blk_cell BK235.out 1).trans rfl; have hcz97_2 : w96.cell? ⟨gb235, 2, none⟩ = some (.slice none 0 0) := (blk_cell BK235.out 2).trans rfl; have hcz97_3 : w96.cell? ⟨gb235, 3, none⟩ = some (.slice none 0 0) := (blk_cell BK235.out 3).trans rfl; have hcz97_4 : w96.cell? ⟨gb235, 4, none⟩ = some (.int .i64 0) := (blk_cell BK235.out 4).trans rfl; have hcz97_5 : w96.cell? ⟨gb235, 5, none⟩ = some (.int .i64 0) := (blk_cell BK235.out 5).trans rfl; have hcz97_6 : w96.cell? ⟨gb235, 6, none⟩ = some (.slice none 0 0) := (blk_cell BK235.out 6).trans rfl; have hcz97_7 : w96.cell? ⟨gb235, 7, none⟩ = some (.slice none 0 0) := (blk_cell BK235.out 7).trans rfl; have hfz97_0 := blk_frozen BK235.out 0; have hfz97_1 := blk_frozen BK235.out 1; have hfz97_2 := blk_frozen BK235.out 2; have hfz97_3 := blk_frozen BK235.out 3; have hfz97_4 := blk_frozen BK235.out 4; have hfz97_5 := blk_frozen BK235.out 5; have hfz97_6 := blk_frozen BK235.out 6; have hfz97_7 := blk_frozen BK235.out 7; obtain ⟨Ao98, co98, eo98⟩ := Kd.R_slice HO222.out; subst eo98; obtain ⟨Ao99, co99, eo99⟩ := Kd.R_slice HO225.out; subst eo99; obtain ⟨Ao100, co100, eo100⟩ := Kd.R_slice HO230.out; subst eo100; obtain ⟨Ao101, co101, eo101⟩ := Kd.R_slice HO233.out; subst eo101))
     go_ret
     exact ⟨by first | rfl | (simp [errW_none, errW_some] <;> rfl) | (simp [*, errW_none, errW_some] <;> rfl), by repeat (first | (with_reducible first | exact HB.out | apply zzA | apply zzN | apply zzD | refine below_set ?_ GE235.out) | exact HB.out)⟩
  ·
   replace c8 := Bool.eq_false_iff.mpr c8
   subst c8
   have H1 : (some true) = some r := by rw [if_neg (show ¬ (false = true) by decide)] at H; exact H
   clear H
   have H := H1
   clear H1
   focus
    obtain rfl := Option.some.inj H
    go_enter Try.func13, Try.ntmps13
    go_wp2_with (first | ((with_reducible refine gate_callee (f := 44) rfl ?_); refine goesL_ (some 19) rfl rfl Try.func44 (by kernel_rfl) rfl #[] rfl (by (try simp only [List.map_toArray, List.map_cons, List.map_nil]); first | done | rfl | (simp only [List.length_drop, List.length_take]; rfl)) ?_; (with_reducible refine (thrumlaw10_live.calls  true _ A5.out).mono ?_); rintro e w102 ⟨rfl, hb⟩; refine ⟨_, rfl, ?_⟩; have n0_ := Aside0.mk (zzT (by repeat (first | (with_reducible first | exact HB.out | apply zzA | apply zzN | apply zzD) | exact HB.out)) hb); clear HB; have HB := n0_; clear n0_; (try clear hb); (try clear hb2); (try clear hk); (try clear hi)) | ((with_reducible refine gate_callee (f := 45) rfl ?_); refine goesL_ (some 24) rfl rfl Try.func45 (by kernel_rfl) rfl #[.slice A0 l0.length c0, .slice A3 l3.length c3] rfl (by (try simp only [List.map_toArray, List.map_cons, List.map_nil]); first | done | rfl | (simp only [List.length_drop, List.length_take]; rfl)) ?_; (with_reducible refine (thrumlaw10_few.calls _ _ l0 _ _ l3 false _ ?side1 ?side2 ?side3 ?side4 A7.out).mono ?_); (case side1 => repeat (first | exact (Kd.C_below HR0.out HB.out) | (with_reducible refine ccA ?_ _) | (with_reducible refine ccN ?_ _) | (with_reducible refine ccD ?_))); (case side2 => exact HC0.out); (case side3 => repeat (first | exact (Kd.C_below HR3.out HB.out) | (with_reducible refine ccA ?_ _) | (with_reducible refine ccN ?_ _) | (with_reducible refine ccD ?_))); (case side4 => exact HC3.out); rintro e w' ⟨rfl, ⟨nd, rfl⟩⟩; refine ⟨_, rfl, ?_⟩))
    go_ret
    exact ⟨by first | rfl | (simp [errW_none, errW_some] <;> rfl) | (simp [*, errW_none, errW_some] <;> rfl), by repeat (first | (with_reducible first | exact HB.out | apply zzA | apply zzN | apply zzD) | exact HB.out)⟩
 ·
  replace c6 := Bool.eq_false_iff.mpr c6
  subst c6
  have H1 : (some false) = some r := by rw [if_neg (show ¬ (false = true) by decide)] at H; exact H
  exact absurd (Option.some.inj H1) (by rw [HR_.out]; decide)


end Go.Proofs.Ytkfhdpnfcaghbaa.HQ
