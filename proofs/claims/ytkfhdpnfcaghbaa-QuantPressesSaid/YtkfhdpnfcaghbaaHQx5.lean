/- What Go functions do, each as a plain Lean function with the same answers, and the proof of it, in every world: printed by the session's driver over the kit's print, with texts by hand. -/
import Derived.Test.YtkfhdpnfcaghbaaHQx0
import Derived.Test.YtkfhdpnfcaghbaaMini
namespace Go.Proofs.Ytkfhdpnfcaghbaa.HQ
open Go.RowKit Go.Proofs.YtkfhdpnfcaghbaaW.PrintWords Go.Proofs.YtkfhdpnfcaghbaaW.PrintLast Go.Proofs.YtkfhdpnfcaghbaaW.PrintMore
attribute [local go_sem] max2_int min2_int max_two min_two max_three min_three max_four min_four   -- for this text's walks alone
open Go.Proofs.Ytkfhdpnfcaghbaa.Sp
attribute [local go_sem] Go.Proofs.Ytkfhdpnfcaghbaa.Sp.u64_not
set_option linter.unusedVariables false
set_option linter.unusedSimpArgs false

/-! ### slices_Clone_int_int: function 87 -/
def slices_Clone_int_int.f (l0 : List Int) : Option (List Int) := if l0.length < 17592186044416 then some l0 else none
theorem slices_Clone_int_int.of (l0 : List Int)  (h_ : l0.length < 17592186044416) : slices_Clone_int_int.f l0 = some l0 := if_pos h_
set_option maxHeartbeats 2000000 in
set_option maxRecDepth 100000 in
theorem slices_Clone_int_int.calls (A0 : Option Addr) (c0 : Nat) (l0 : List Int) (r : List Int) (w : World) (hr0 : Kd.C (Kd.int .i64) w A0 l0.length l0) (hc0 : l0.length ≤ c0) (h : slices_Clone_int_int.f l0 = some r) :
    Calls Try.prog 87 #[.slice A0 l0.length c0] w fun e w' => ∃ v0_ : Value, e = .returned (v0_) ∧ Kd.R (Kd.int .i64) 3 w' w.heap.size (fun _ => True) v0_ r ∧ Below w.heap.size w w' := by
 unfold slices_Clone_int_int.f at h
 split at h
 case isFalse => cases h
 rename_i hl
 cases h
 have hu := Try.underlying26
 have hq : ∀ W : World, (Go.binOp .eql 26 (.slice A0 l0.length c0) (.slice none 0 0)).run Try.prog W = .ok (.bool A0.isNone) W := fun W => Go.Lib.run_eql_slice_nil W 26 3 A0 l0.length c0 0 0 hu
 by_cases hA : A0 = none
 · subst hA
   have hn : l0 = [] := by
    cases l0 with
    | nil => rfl
    | cons x l => obtain ⟨ad, e, _⟩ := Kd.at_int hr0 0 (by omega) (by simp); cases e
   subst hn
   have HR := ZM hr0
   clear hr0
   simp only [Option.isNone_none, List.length_nil] at hq
   go_enter Try.func87, Try.ntmps87
   go_wp2
   go_ret
   exact ⟨_, rfl, Kd.R_nil _ _ _ _ _, Below.refl _ _⟩
 · have hA : A0.isNone = false := by cases A0 <;> simp_all
   simp only [hA] at hq
   have HR := ZM hr0
   have HL := ZM hl
   clear hr0 hl
   go_enter Try.func87, Try.ntmps87
   have ho := own_made w w.heap.size 3 .i64 0 (Nat.le_refl _) (by omega)
   rw [show madeCells #[Value.int .i64 0] 0 = #[] by simp [madeCells]] at ho
   have HO : Aside0 (Kd.R (Kd.int .i64) 3 (w.alloc (Obj.cells #[] 3)) w.heap.size (fun _ => True) (.slice (some ⟨w.heap.size, 0, none⟩) 0 0) ([] : List Int)) := ⟨Kd.R_of_own (enc := Value.int .i64) (h1 := fun _ => rfl) (xs := ([] : List Int)) ho (fun _ _ => trivial)⟩
   clear ho
   go_wp2_with ((with_reducible refine gate_builtin (b := .append) (xs := #[.tmp 5, .tmp 6]) rfl ?_); at_builtin; refine Kd.R_append_rows (Kd.int .i64) (w0 := w) w.heap.size rfl (.tmp 5) (.tmp 6) 26 3 (.int .i64 0) 8 rfl Try.underlying26 info3 rfl (by decide) (by omega) (.slice (some ⟨w.heap.size, 0, none⟩) 0 0) ([] : List Int) l0 _ _ _ (fun _ => True) (fun _ => False) rfl rfl ?aO ?aR (fun _ _ h => h) (fun _ h => h.elim) ?aF ?aB ?aS ?aL ?_; (case aO => exact HO.out); (case aR => exact ccA HR.out _); (case aF => exact fun _ _ => trivial); (case aB => exact zzA (Below.refl _ _) _); (case aS => simp); (case aL => have := HL.out; simp only [List.length_nil]; omega); intro v1 w2 ho hb hg hat; have HO2 := ZM ho; have HB2 := ZM hb; clear ho hb hg hat)
   go_ret
   exact ⟨_, rfl, HO2.out, HB2.out⟩
end Go.Proofs.Ytkfhdpnfcaghbaa.HQ
