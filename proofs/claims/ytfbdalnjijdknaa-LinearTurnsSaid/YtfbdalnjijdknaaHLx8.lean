/- What Go functions do, each as a plain Lean function with the same answers, and the proof of it, in every world: printed by the session's driver over the kit's print, with texts by hand. -/
import Derived.Test.YtfbdalnjijdknaaHLx0
import Derived.Test.YtfbdalnjijdknaaHLx7
namespace Go.Proofs.Ytfbdalnjijdknaa.HL
open Go.RowKit Go.Proofs.YtfbdalnjijdknaaW.PrintWords Go.Proofs.YtfbdalnjijdknaaW.PrintLast Go.Proofs.YtfbdalnjijdknaaW.PrintMore
attribute [local go_sem] max2_int min2_int max_two min_two max_three min_three max_four min_four   -- for this text's walks alone
open Go.Proofs.Ytfbdalnjijdknaa.Sp
attribute [local go_sem] Go.Proofs.Ytfbdalnjijdknaa.Sp.u64_not
set_option linter.unusedVariables false
set_option linter.unusedSimpArgs false

/-! ### bits_LeadingZeros64P: function 175 -/
def bits_LeadingZeros64P.f (a0 : Int) : Option (Int) := (bits_Len64.f a0).bind fun t130 => (some (wrap64 (64 - t130)))
set_option maxHeartbeats 8000000 in
set_option maxRecDepth 100000 in
theorem bits_LeadingZeros64P.calls (a0 : Int) (r : Int) (w : World) (h : bits_LeadingZeros64P.f a0 = some r) :
    Calls Try.prog 175 #[.int .u64 a0] w fun e w' => e = .returned (.int .i64 r) ∧ Drawn0 w w' := by
  have H : ((bits_Len64.f a0).bind fun t130 => (some (wrap64 (64 - t130)))) = some r := h
  clear h
  replace H := Option.bind_eq_some_iff.mp H
  obtain ⟨t130, A20, H⟩ := H
  replace H : (some (wrap64 (64 - t130))) = some r := H
  have A2 := Aside0.mk A20
  clear A20
  obtain rfl := Option.some.inj H
  go_enter Try.func175, Try.ntmps175
  go_wp2_with (first | ((with_reducible refine gate_callee (f := 178) rfl ?_); refine goesL_ (some 4) rfl rfl Try.func178 (by kernel_rfl) rfl #[.int .u64 a0] rfl (by (try simp only [List.map_toArray, List.map_cons, List.map_nil]); first | done | rfl | (simp only [List.length_drop, List.length_take]; rfl)) ?_; (with_reducible refine (bits_Len64.calls a0 t130 _ A2.out).mono ?_); rintro e w' ⟨rfl, ⟨nd, rfl⟩⟩; refine ⟨_, rfl, ?_⟩))
  go_ret
  exact ⟨by first | rfl | (simp; done) | (simp [*]; done), by repeat (first | exact Drawn0.refl _ | apply Drawn0.step)⟩

def bits_LeadingZeros64.f (a0 : Int) : Option Int := if U64 a0 then some (64 - (bl a0.toNat : Int)) else none
theorem bits_LeadingZeros64.of (a0 : Int)  (h_ : U64 a0) : bits_LeadingZeros64.f a0 = some (64 - (bl a0.toNat : Int)) := if_pos h_
theorem bits_LeadingZeros64.calls (a0 : Int) (r : Int) (w : World) (h : bits_LeadingZeros64.f a0 = some r) :
    Calls Try.prog 175 #[.int .u64 a0] w fun e w' => e = .returned (.int .i64 r) ∧ Drawn0 w w' := by
  unfold bits_LeadingZeros64.f at h
  split at h
  · rename_i hu
    refine bits_LeadingZeros64P.calls a0 r w ?_
    unfold bits_LeadingZeros64P.f bits_Len64.f
    rw [if_pos hu]
    rw [← h]
    have := bl_le (x := a0.toNat) (k := 64) (by unfold U64 at hu; omega)
    simp only [Option.bind_some, wrap64_def, Option.some.injEq]
    omega
  · cases h


end Go.Proofs.Ytfbdalnjijdknaa.HL
