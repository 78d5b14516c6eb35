/- What Go functions do, each as a plain Lean function with the same answers, and the proof of it, in every world: printed by the session's driver over the kit's print, with texts by hand. -/
import Derived.Test.YtkfhdpnfcaghbaaHQx0
import Derived.Test.YtkfhdpnfcaghbaaHQx3
import Derived.Test.YtkfhdpnfcaghbaaHQx15
namespace Go.Proofs.Ytkfhdpnfcaghbaa.HQ
open Go.RowKit Go.Proofs.YtkfhdpnfcaghbaaW.PrintWords Go.Proofs.YtkfhdpnfcaghbaaW.PrintLast Go.Proofs.YtkfhdpnfcaghbaaW.PrintMore
attribute [local go_sem] max2_int min2_int max_two min_two max_three min_three max_four min_four   -- for this text's walks alone
open Go.Proofs.Ytkfhdpnfcaghbaa.Sp
attribute [local go_sem] Go.Proofs.Ytkfhdpnfcaghbaa.Sp.u64_not
set_option linter.unusedVariables false
set_option linter.unusedSimpArgs false

/-! ### vec_Size: function 61 -/
set_option maxHeartbeats 2000000 in
set_option maxRecDepth 100000 in
theorem vec_Size_1.calls (b1 : Nat) (A0 : Option Addr) (c0 : Nat) (l0 : List Int) (i : Nat) (W : World) (x e : Int)
    (hb1 : W.cell? ⟨b1, 0, none⟩ = some (.slice A0 l0.length c0))
    (hr0 : Kd.C (Kd.int .i64) W A0 l0.length l0) (h0 : i < l0.length)
    (h : fix_Abs.f (rd l0 i) = some (x, e)) :
    Calls Try.prog 97 #[.int .i64 i, .pointer (some ⟨b1, 0, none⟩)] W fun ed W' => ed = .returned (.tuple #[.int .i64 x, .int .i64 e]) ∧ Drawn0 W W' := by
  obtain ⟨ad0, rfl, hc0⟩ := Kd.at_int hr0 (i : Int) (by omega) (by omega)
  simp only [Int.toNat_natCast] at hc0
  have HC := Aside0.mk h
  clear hr0 h
  go_enter Try.func97, Try.ntmps97
  go_wp2_with (go_at_call 98; (with_reducible refine (fix_Abs.calls (rd l0 i) x e _ HC.out).mono ?_); rintro ed W2 ⟨rfl, ⟨nd, rfl⟩⟩)
  go_ret2
  exact ⟨rfl, ⟨_, rfl⟩⟩
def vec_Size.f (l0 : List Int) : Option (Int × Int) := if V64 l0 then some (sizeV l0) else none
theorem vec_Size.of (l0 : List Int)  (h_ : V64 l0) : vec_Size.f l0 = some (sizeV l0) := if_pos h_
set_option maxHeartbeats 2000000 in
set_option maxRecDepth 100000 in
theorem vec_Size.calls (A0 : Option Addr) (c0 : Nat) (l0 : List Int) (r1 : Int) (r2 : Int) (w : World) (hr0 : Kd.C (Kd.int .i64) w A0 l0.length l0) (hc0 : l0.length ≤ c0) (h : vec_Size.f l0 = some (r1, r2)) :
    Calls Try.prog 61 #[.slice A0 l0.length c0] w fun e w' => e = .returned (.tuple #[.int .i64 r1, .int .i64 r2]) ∧ Below w.heap.size w w' := by
  unfold vec_Size.f at h
  split at h
  case isFalse => cases h
  rename_i hv
  have h := Option.some.inj h
  unfold sizeV at h
  have HR0 := Aside0.mk hr0
  have HC0 := Aside0.mk hc0
  clear hr0 hc0
  have HV := Aside0.mk hv
  clear hv
  try have hu27 := Try.underlying27
  have HP0 : Aside0 (vec_Check.f l0 = some (checkE l0)) := ⟨vec_Check.of l0⟩
  by_cases hp0 : checkE l0 = 0
  · rw [if_pos hp0] at h
    rw [hp0] at HP0
    have HN : Aside0 (l0.length ≤ 4096) := ⟨checkE_le hp0⟩
    have HH := Aside0.mk h
    clear h hp0
    have HX0 : Aside0 ((w.alloc (Obj.cells #[Value.slice A0 l0.length c0] 27)).cell? ⟨w.heap.size, 0, none⟩ = some (.slice A0 l0.length c0)) := ⟨by simp [go_sem]⟩
    have HB : Aside0 (Below w.heap.size w (w.alloc (Obj.cells #[Value.slice A0 l0.length c0] 27))) := ⟨zzA (Below.refl _ _) _⟩
    go_enter Try.func61, Try.ntmps61
    go_wp2_with (first | (go_at_call 95; (with_reducible refine (vec_Check.calls A0 c0 l0 0 _ (Kd.C_below HR0.out HB.out) HC0.out HP0.out).mono ?_); rintro ed W1 ⟨rfl, hd⟩; have hb := hd.below; clear hd; have HB := Aside0.mk (below_then HB.out HB.out.size hb); have HX0 := Aside0.mk (pw_cell_below hb HX0.out); have hx0 := HX0.out; clear hb) | (go_at_call 96; (with_reducible refine (vec_total.calls 97 _ (fun i : Nat => fix_Abs.f (rd l0 i)) l0.length (by have := HN.out; omega) _ r1 r2 ?ent ?tells ?go).mono ?_); (case ent => exact enters_of Try.func97 rfl rfl); (case tells => intro i W x e hi hb hg; refine (vec_Size_1.calls (w.heap.size) A0 c0 l0 i W x e (pw_cell_below hb HX0.out) (Kd.C_below (Kd.C_below HR0.out HB.out) hb) (by omega) hg).mono ?_; rintro ed W' ⟨rfl, hd⟩; exact ⟨rfl, hd.below⟩); (case go => exact (total_spec (fun a b ha hb => fix_Add.of a b ⟨ha, hb⟩) (by intro p hp; obtain ⟨x, _, rfl⟩ := List.mem_map.1 hp; exact res_i64 _) (ps := l0.map absF) (List.length_map _) (fun j h => by rw [map_get _ j h]; exact fix_Abs.of _ (HV.out.rd _))).trans (congrArg some HH.out)); rintro ed W2 ⟨rfl, hb⟩; have HB2 := Aside0.mk (below_then HB.out HB.out.size hb); clear hb))
    go_ret2
    exact ⟨rfl, HB2.out⟩
  · rw [if_neg hp0] at h
    cases h
    have HX0 : Aside0 ((w.alloc (Obj.cells #[Value.slice A0 l0.length c0] 27)).cell? ⟨w.heap.size, 0, none⟩ = some (.slice A0 l0.length c0)) := ⟨by simp [go_sem]⟩
    have HB : Aside0 (Below w.heap.size w (w.alloc (Obj.cells #[Value.slice A0 l0.length c0] 27))) := ⟨zzA (Below.refl _ _) _⟩
    have he0 : (checkE l0 == 0) = false := beq_eq_false_iff_ne.2 hp0
    have he1 : (checkE l0 != 0) = true := bne_iff_ne.2 hp0
    obtain ⟨e_, hE⟩ : ∃ e_ : Int, checkE l0 = e_ := ⟨_, rfl⟩
    rw [hE] at HP0 he0 he1
    simp only [hE]
    clear hE hp0
    go_enter Try.func61, Try.ntmps61
    go_wp2_with (first | (go_at_call 95; (with_reducible refine (vec_Check.calls A0 c0 l0 e_ _ (Kd.C_below HR0.out HB.out) HC0.out HP0.out).mono ?_); rintro ed W1 ⟨rfl, hd⟩; have hb := hd.below; clear hd; have HB := Aside0.mk (below_then HB.out HB.out.size hb); have HX0 := Aside0.mk (pw_cell_below hb HX0.out); have hx0 := HX0.out; clear hb))
    go_ret2
    exact ⟨rfl, HB.out⟩




















































































































































































































































































































































































































































































































































end Go.Proofs.Ytkfhdpnfcaghbaa.HQ
