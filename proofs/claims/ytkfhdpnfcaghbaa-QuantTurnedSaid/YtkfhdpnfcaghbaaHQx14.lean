/- What Go functions do, each as a plain Lean function with the same answers, and the proof of it, in every world: printed by the session's driver over the kit's print, with texts by hand. -/
import Derived.Test.YtkfhdpnfcaghbaaHQx0
namespace Go.Proofs.Ytkfhdpnfcaghbaa.HQ
open Go.RowKit Go.Proofs.YtkfhdpnfcaghbaaW.PrintWords Go.Proofs.YtkfhdpnfcaghbaaW.PrintLast Go.Proofs.YtkfhdpnfcaghbaaW.PrintMore
attribute [local go_sem] max2_int min2_int max_two min_two max_three min_three max_four min_four   -- for this text's walks alone
open Go.Proofs.Ytkfhdpnfcaghbaa.Sp
attribute [local go_sem] Go.Proofs.Ytkfhdpnfcaghbaa.Sp.u64_not
set_option linter.unusedVariables false
set_option linter.unusedSimpArgs false

/-! ### thrumlaw10_few: function 45 -/
def thrumlaw10_few.f (l0 : List Int) (l1 : List Int) : Option (Bool) := if (l0.length : Int) ≤ 200 then (some (decide ((l1.length : Int) ≤ 50))) else (if (l0.length : Int) > 4096 then (if (l0.length : Int) ≤ 5000 then (some (decide ((l1.length : Int) ≤ 50))) else (some false)) else (some false))
set_option maxHeartbeats 80000000 in
set_option maxRecDepth 100000 in
theorem thrumlaw10_few.calls (A0 : Option Addr) (c0 : Nat) (l0 : List Int) (A1 : Option Addr) (c1 : Nat) (l1 : List Int) (r : Bool) (w : World) (hr0 : Kd.C (Kd.int .i64) w A0 l0.length l0) (hc0 : l0.length ≤ c0) (hr1 : Kd.C (Kd.int .i64) w A1 l1.length l1) (hc1 : l1.length ≤ c1) (h : thrumlaw10_few.f l0 l1 = some r) :
  Calls Try.prog 45 #[.slice A0 l0.length c0, .slice A1 l1.length c1] w fun e w' => e = .returned (.bool r) ∧ Drawn0 w w' := by
 have HR0 := Aside0.mk hr0
 have HC0 := Aside0.mk hc0
 clear hr0 hc0
 have HR1 := Aside0.mk hr1
 have HC1 := Aside0.mk hc1
 clear hr1 hc1
 have H : (if (l0.length : Int) ≤ 200 then (some (decide ((l1.length : Int) ≤ 50))) else (if (l0.length : Int) > 4096 then (if (l0.length : Int) ≤ 5000 then (some (decide ((l1.length : Int) ≤ 50))) else (some false)) else (some false))) = some r := h
 clear h
 by_cases c3 : (l0.length : Int) ≤ 200
 ·
  rw [if_pos c3] at H
  have c3b0 : decide ((l0.length : Int) ≤ 200) = true := decide_eq_true c3
  have c3b1 : decide (l0.length ≤ 200) = true := decide_eq_true (by omega)
  clear c3
  obtain rfl := Option.some.inj H
  go_enter Try.func45, Try.ntmps45
  go_wp2
  go_ret
  exact ⟨by first | rfl | (simp; done) | (simp [*]; done), by repeat (first | exact ddR _ | apply ddS)⟩
 ·
  rw [if_neg c3] at H
  have c3b0 : decide ((l0.length : Int) ≤ 200) = false := decide_eq_false c3
  have c3b1 : decide (l0.length ≤ 200) = false := decide_eq_false (by omega)
  clear c3
  by_cases c4 : (l0.length : Int) > 4096
  ·
   rw [if_pos c4] at H
   have c4b0 : decide (4096 < (l0.length : Int)) = true := decide_eq_true c4
   have c4b1 : decide (4096 < l0.length) = true := decide_eq_true (by omega)
   clear c4
   by_cases c5 : (l0.length : Int) ≤ 5000
   ·
    rw [if_pos c5] at H
    have c5b0 : decide ((l0.length : Int) ≤ 5000) = true := decide_eq_true c5
    have c5b1 : decide (l0.length ≤ 5000) = true := decide_eq_true (by omega)
    clear c5
    obtain rfl := Option.some.inj H
    go_enter Try.func45, Try.ntmps45
    go_wp2
    go_ret
    exact ⟨by first | rfl | (simp; done) | (simp [*]; done), by repeat (first | exact ddR _ | apply ddS)⟩
   ·
    rw [if_neg c5] at H
    have c5b0 : decide ((l0.length : Int) ≤ 5000) = false := decide_eq_false c5
    have c5b1 : decide (l0.length ≤ 5000) = false := decide_eq_false (by omega)
    clear c5
    obtain rfl := Option.some.inj H
    go_enter Try.func45, Try.ntmps45
    go_wp2
    go_ret
    exact ⟨by first | rfl | (simp; done) | (simp [*]; done), by repeat (first | exact ddR _ | apply ddS)⟩
  ·
   rw [if_neg c4] at H
   have c4b0 : decide (4096 < (l0.length : Int)) = false := decide_eq_false c4
   have c4b1 : decide (4096 < l0.length) = false := decide_eq_false (by omega)
   clear c4
   obtain rfl := Option.some.inj H
   go_enter Try.func45, Try.ntmps45
   go_wp2
   go_ret
   exact ⟨by first | rfl | (simp; done) | (simp [*]; done), by repeat (first | exact ddR _ | apply ddS)⟩



















































































































































































































































































































































































































































































































































end Go.Proofs.Ytkfhdpnfcaghbaa.HQ
