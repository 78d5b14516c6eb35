/- What Go functions do, each as a plain Lean function with the same answers, and the proof of it, in every world: printed by the session's driver over the kit's print, with texts by hand. -/
import Derived.Test.YtkfhdpnfcaghbaaRows
import Derived.Test.YtkfhdpnfcaghbaaHQx18
import Derived.Test.YtkfhdpnfcaghbaaPureQuantPresses
import Derived.Test.YtkfhdpnfcaghbaaPOpen
import Derived.WalkKit
import Derived.ProofKit
import Derived.OpenShut
import Derived.ShutString
import Derived.ChangeOld
import Derived.Below
import Derived.SizedLaws
import Derived.Test.YtkfhdpnfcaghbaaWSized
namespace Go.Proofs.Ytkfhdpnfcaghbaa.quantPresses
open Go.ChangeShapes Go.WideShapes Go.ChangeAt Go.RowKit
open Go.ChangeMaps (open_string shut_string)
set_option linter.unusedVariables false
theorem own : ownKnob Try.prog.godebug = none := by kernel_rfl
theorem laidOut : laidOutB Try.prog = true := by kernel_rfl
def IsRow (k : IntKind) (w : World) (a : Option Addr) (len cap : Nat) (zs : List Int) : Prop :=
  (a = none ∧ len = 0 ∧ cap = 0 ∧ zs = []) ∨
  ∃ x, a = some x ∧ len ≤ cap ∧ cap ≤ maxLen ∧ zs.length = cap ∧ (∀ i, i < zs.length → w.cell? (x.add i) = some (.int k (zs.getD i 0))) ∧ ∀ n ∈ zs, (Lit.int k n).wf = true
open Go.Proofs.YtkfhdpnfcaghbaaW.PrintWords
theorem opens_st30 {H : Type} {enc : TypeId × Value → H} {W : World} (fuel : Nat) (cs : List Value) (x : DataW H × List MemPlace) (h : DataW.trod enc Try.prog W 0 (fun _ => true) true fuel 30 cs = some x) :
    ∃ (a0_0 : Int) (a0_1 : Int) (A0_2 : Option Addr) (c0_2 : Nat) (l0_2 : List Int) (A0_3 : Option Addr) (c0_3 : Nat) (l0_3 : List Int) (a0_4 : Int) (a0_5 : Int) (A0_6 : Option Addr) (c0_6 : Nat) (l0_6 : List Int) (A0_7 : Option Addr) (c0_7 : Nat) (l0_7 : List Bool), cs = [.int .i64 a0_0, .int .i64 a0_1, .slice A0_2 l0_2.length c0_2, .slice A0_3 l0_3.length c0_3, .int .i64 a0_4, .int .i64 a0_5, .slice A0_6 l0_6.length c0_6, .slice A0_7 l0_7.length c0_7] ∧ (Lit.int .i64 a0_0).wf = true ∧ (Lit.int .i64 a0_1).wf = true ∧ (l0_2.length ≤ c0_2 ∧ Kd.C (Kd.int .i64) W A0_2 l0_2.length l0_2 ∧ (l0_2.length ≤ maxLen ∧ ∀ x__ ∈ l0_2, (Lit.int .i64 x__).wf = true)) ∧ (l0_3.length ≤ c0_3 ∧ Kd.C (Kd.int .i64) W A0_3 l0_3.length l0_3 ∧ (l0_3.length ≤ maxLen ∧ ∀ x__ ∈ l0_3, (Lit.int .i64 x__).wf = true)) ∧ (Lit.int .i64 a0_4).wf = true ∧ (Lit.int .i64 a0_5).wf = true ∧ (l0_6.length ≤ c0_6 ∧ Kd.C (Kd.int .u64) W A0_6 l0_6.length l0_6 ∧ (l0_6.length ≤ maxLen ∧ ∀ x__ ∈ l0_6, (Lit.int .u64 x__).wf = true)) ∧ (l0_7.length ≤ c0_7 ∧ Kd.C Kd.bool W A0_7 l0_7.length l0_7 ∧ (l0_7.length ≤ maxLen ∧ ∀ x__ ∈ l0_7, True)) ∧ True := by
  obtain ⟨xs, n, rfl, _, hlen, hxl, hfs⟩ := DataW.trod_struct Try.underlying30 h
  obtain ⟨x0, hx0⟩ : ∃ z, xs[0]? = some z := ⟨_, List.getElem?_eq_getElem (by rw [hxl]; decide)⟩
  have t0 := (hfs 0 _ rfl).trans hx0
  obtain ⟨a0_0, e0, w0_0⟩ := (Go.Proofs.Ytkfhdpnfcaghbaa.Op.opens_int Try.underlying3) _ _ _ t0
  have g0 : cs.drop 0 = [.int .i64 a0_0] ++ cs.drop 1 := Go.Proofs.Ytkfhdpnfcaghbaa.Op.glue (o := 0) (n := 1) (by kernel_rfl) e0
  obtain ⟨x1, hx1⟩ : ∃ z, xs[1]? = some z := ⟨_, List.getElem?_eq_getElem (by rw [hxl]; decide)⟩
  have t1 := (hfs 1 _ rfl).trans hx1
  obtain ⟨a0_1, e1, w0_1⟩ := (Go.Proofs.Ytkfhdpnfcaghbaa.Op.opens_int Try.underlying3) _ _ _ t1
  have g1 : cs.drop 1 = [.int .i64 a0_1] ++ cs.drop 2 := Go.Proofs.Ytkfhdpnfcaghbaa.Op.glue (o := 1) (n := 1) (by kernel_rfl) e1
  obtain ⟨x2, hx2⟩ : ∃ z, xs[2]? = some z := ⟨_, List.getElem?_eq_getElem (by rw [hxl]; decide)⟩
  have t2 := (hfs 2 _ rfl).trans hx2
  obtain ⟨A0_2, c0_2, l0_2, e2, hc0_2, hr0_2, hg0_2⟩ := Go.Proofs.Ytkfhdpnfcaghbaa.Op.slice_C Try.underlying26 (Go.Proofs.Ytkfhdpnfcaghbaa.Op.opens_int Try.underlying3) (by kernel_rfl) t2
  have g2 : cs.drop 2 = [.slice A0_2 l0_2.length c0_2] ++ cs.drop 3 := Go.Proofs.Ytkfhdpnfcaghbaa.Op.glue (o := 2) (n := 1) (by kernel_rfl) e2
  obtain ⟨x3, hx3⟩ : ∃ z, xs[3]? = some z := ⟨_, List.getElem?_eq_getElem (by rw [hxl]; decide)⟩
  have t3 := (hfs 3 _ rfl).trans hx3
  obtain ⟨A0_3, c0_3, l0_3, e3, hc0_3, hr0_3, hg0_3⟩ := Go.Proofs.Ytkfhdpnfcaghbaa.Op.slice_C Try.underlying27 (Go.Proofs.Ytkfhdpnfcaghbaa.Op.opens_int Try.underlying2) (by kernel_rfl) t3
  have g3 : cs.drop 3 = [.slice A0_3 l0_3.length c0_3] ++ cs.drop 4 := Go.Proofs.Ytkfhdpnfcaghbaa.Op.glue (o := 3) (n := 1) (by kernel_rfl) e3
  obtain ⟨x4, hx4⟩ : ∃ z, xs[4]? = some z := ⟨_, List.getElem?_eq_getElem (by rw [hxl]; decide)⟩
  have t4 := (hfs 4 _ rfl).trans hx4
  obtain ⟨a0_4, e4, w0_4⟩ := (Go.Proofs.Ytkfhdpnfcaghbaa.Op.opens_int Try.underlying2) _ _ _ t4
  have g4 : cs.drop 4 = [.int .i64 a0_4] ++ cs.drop 5 := Go.Proofs.Ytkfhdpnfcaghbaa.Op.glue (o := 4) (n := 1) (by kernel_rfl) e4
  obtain ⟨x5, hx5⟩ : ∃ z, xs[5]? = some z := ⟨_, List.getElem?_eq_getElem (by rw [hxl]; decide)⟩
  have t5 := (hfs 5 _ rfl).trans hx5
  obtain ⟨a0_5, e5, w0_5⟩ := (Go.Proofs.Ytkfhdpnfcaghbaa.Op.opens_int Try.underlying3) _ _ _ t5
  have g5 : cs.drop 5 = [.int .i64 a0_5] ++ cs.drop 6 := Go.Proofs.Ytkfhdpnfcaghbaa.Op.glue (o := 5) (n := 1) (by kernel_rfl) e5
  obtain ⟨x6, hx6⟩ : ∃ z, xs[6]? = some z := ⟨_, List.getElem?_eq_getElem (by rw [hxl]; decide)⟩
  have t6 := (hfs 6 _ rfl).trans hx6
  obtain ⟨A0_6, c0_6, l0_6, e6, hc0_6, hr0_6, hg0_6⟩ := Go.Proofs.Ytkfhdpnfcaghbaa.Op.slice_C Try.underlying28 (Go.Proofs.Ytkfhdpnfcaghbaa.Op.opens_int Try.underlying64) (by kernel_rfl) t6
  have g6 : cs.drop 6 = [.slice A0_6 l0_6.length c0_6] ++ cs.drop 7 := Go.Proofs.Ytkfhdpnfcaghbaa.Op.glue (o := 6) (n := 1) (by kernel_rfl) e6
  obtain ⟨x7, hx7⟩ : ∃ z, xs[7]? = some z := ⟨_, List.getElem?_eq_getElem (by rw [hxl]; decide)⟩
  have t7 := (hfs 7 _ rfl).trans hx7
  obtain ⟨A0_7, c0_7, l0_7, e7, hc0_7, hr0_7, hg0_7⟩ := Go.Proofs.Ytkfhdpnfcaghbaa.Op.slice_C Try.underlying22 (Go.Proofs.Ytkfhdpnfcaghbaa.Op.opens_bool Try.underlying4) (by kernel_rfl) t7
  have g7 : cs.drop 7 = [.slice A0_7 l0_7.length c0_7] ++ cs.drop 8 := Go.Proofs.Ytkfhdpnfcaghbaa.Op.glue (o := 7) (n := 1) (by kernel_rfl) e7
  refine ⟨_, _, _, _, _, _, _, _, _, _, _, _, _, _, _, _, ?_, w0_0, w0_1, ⟨hc0_2, hr0_2, hg0_2⟩, ⟨hc0_3, hr0_3, hg0_3⟩, w0_4, w0_5, ⟨hc0_6, hr0_6, hg0_6⟩, ⟨hc0_7, hr0_7, hg0_7⟩, trivial⟩
  rw [show cs = cs.drop 0 from rfl, g0, g1, g2, g3, g4, g5, g6, g7, List.drop_eq_nil_of_le (by rw [hlen]; exact Nat.le_of_eq (by kernel_rfl))]
  rfl
set_option maxRecDepth 100000 in
theorem lifted (os : Os) (started : os.Started) (H : Type) (enc : TypeId × Value → H) :
    ReturnsInHanded {} Try.checked os 11 .any (Rows.quantPressesSpec.pre6 enc Try.prog Try.f11 Rows.quantPressesRow.domain false) (Rows.quantPressesSpec.post enc Try.prog Try.f11 false true false false) := by
  refine returnsInHanded_of_change_sized (C := Try.checked) own started (by kernel_rfl) Try.func11
    (ChangeSpec.witness6 (enc := enc) (C := Try.checked) false ⟨#[], #[.slice none 0 0, .int .i64 0, .int .u64 0, .slice none 0 0, .agg #[.int .i64 0, .int .i64 0, .slice none 0 0, .slice none 0 0, .int .i64 0, .int .i64 0, .slice none 0 0, .slice none 0 0]], []⟩ 8 (by kernel_rfl) (by kernel_rfl) (by kernel_rfl) (by kernel_rfl)) ?_
  intro W base args ds gs before hval0 hW hcnd hsz0 _
  have hsz : (DataW.weightsEach Try.prog (Try.f11.params.toList ++ Rows.quantPressesSpec.plain.varTypes Try.prog) (ds ++ gs)).all (· ≤ reachBytes) = true := hsz0
  have hval : ∀ (j : Nat) t v, Try.f11.params[j]? = some t → args[j]? = some v → Value.okWide Try.prog W .any base t v := hval0
  have hW' := hW
  obtain ⟨p, q, hA0, hV, rfl, hfz, hnd⟩ := hW
  have hA : DataW.TrodAll enc Try.prog W 0 (fun _ => true) true Try.f11.params.toList args.toList ds p := hA0
  rw [Try.params11] at hA hval hsz
  obtain ⟨v0, vs0, d0, ds0, p0, q0, hargs, rfl, rfl, h0, r0⟩ := trodAll_cons hA
  obtain ⟨v1, vs1, d1, ds1, p1, q1, rfl, rfl, rfl, h1, r1⟩ := trodAll_cons r0
  obtain ⟨v2, vs2, d2, ds2, p2, q2, rfl, rfl, rfl, h2, r2⟩ := trodAll_cons r1
  obtain ⟨v3, vs3, d3, ds3, p3, q3, rfl, rfl, rfl, h3, r3⟩ := trodAll_cons r2
  obtain ⟨v4, vs4, d4, ds4, p4, q4, rfl, rfl, rfl, h4, r4⟩ := trodAll_cons r3
  obtain ⟨rfl, rfl, rfl⟩ := trodAll_nil r4
  obtain rfl : args = #[v0, v1, v2, v3, v4] := by cases args; simp_all
  obtain ⟨rfl, rfl⟩ := trodVars_none hV
  obtain ⟨a0, len0, cap0, rfl⟩ := okWide_slice Try.underlying27 (hval 0 27 v0 rfl rfl)
  have k0 := h0
  have lt0 : ∀ x ∈ p0, x.block < W.heap.size := by obtain ⟨m, hm⟩ := k0; exact DataW.trod_lt m _ _ _ hm
  obtain ⟨z0, w0⟩ : ∃ zs, IsRow .i64 W a0 len0 cap0 zs := by
    obtain ⟨fuel, hf⟩ := h0
    rcases open_ints Try.underlying27 Try.underlying2 (by kernel_rfl) hf with ⟨hcs, _⟩ | ⟨x, l, c, zs, hcs, _, hl, hm, hz, _, hcell, hwz⟩
    · simp [Value.cells] at hcs
      obtain ⟨rfl, rfl, rfl⟩ := hcs
      exact ⟨[], .inl ⟨rfl, rfl, rfl, rfl⟩⟩
    · simp [Value.cells] at hcs
      obtain ⟨rfl, rfl, rfl⟩ := hcs
      exact ⟨zs, .inr ⟨_, rfl, hl, hm, by simpa using hz, hcell, hwz⟩⟩
  have y0 : len0 * 8 ≤ 140737488351232 := Go.Proofs.YtkfhdpnfcaghbaaW.PrintWords.sized_ints hsz (j := 0) (t := 27) rfl rfl Try.underlying27 Try.underlying2 (by kernel_rfl) (by kernel_rfl) h0
  obtain ⟨a1, rfl, rfl, rfl, w1⟩ := open_int Try.underlying3 (hval 1 3 v1 rfl rfl) h1
  obtain ⟨a2, rfl, rfl, rfl, w2⟩ := open_int Try.underlying64 (hval 2 64 v2 rfl rfl) h2
  obtain ⟨a3, len3, cap3, rfl⟩ := okWide_slice Try.underlying26 (hval 3 26 v3 rfl rfl)
  have k3 := h3
  have lt3 : ∀ x ∈ p3, x.block < W.heap.size := by obtain ⟨m, hm⟩ := k3; exact DataW.trod_lt m _ _ _ hm
  obtain ⟨z3, w3⟩ : ∃ zs, IsRow .i64 W a3 len3 cap3 zs := by
    obtain ⟨fuel, hf⟩ := h3
    rcases open_ints Try.underlying26 Try.underlying3 (by kernel_rfl) hf with ⟨hcs, _⟩ | ⟨x, l, c, zs, hcs, _, hl, hm, hz, _, hcell, hwz⟩
    · simp [Value.cells] at hcs
      obtain ⟨rfl, rfl, rfl⟩ := hcs
      exact ⟨[], .inl ⟨rfl, rfl, rfl, rfl⟩⟩
    · simp [Value.cells] at hcs
      obtain ⟨rfl, rfl, rfl⟩ := hcs
      exact ⟨zs, .inr ⟨_, rfl, hl, hm, by simpa using hz, hcell, hwz⟩⟩
  have y3 : len3 * 8 ≤ 140737488351232 := Go.Proofs.YtkfhdpnfcaghbaaW.PrintWords.sized_ints hsz (j := 3) (t := 26) rfl rfl Try.underlying26 Try.underlying3 (by kernel_rfl) (by kernel_rfl) h3
  have k4 := h4
  have lt4 : ∀ x ∈ p4, x.block < W.heap.size := by obtain ⟨m, hm⟩ := k4; exact DataW.trod_lt m _ _ _ hm
  obtain ⟨cs4, rfl, _⟩ := okWide_struct Try.underlying30 (hval 4 30 v4 rfl rfl)
  obtain ⟨fu4, hf4⟩ := h4
  obtain ⟨a4_0, a4_1, A4_2, c4_2, l4_2, A4_3, c4_3, l4_3, a4_4, a4_5, A4_6, c4_6, l4_6, A4_7, c4_7, l4_7, hcs4, w4_0, w4_1, ⟨hc4_2, hr4_2, hg4_2⟩, ⟨hc4_3, hr4_3, hg4_3⟩, w4_4, w4_5, ⟨hc4_6, hr4_6, hg4_6⟩, ⟨hc4_7, hr4_7, hg4_7⟩, _⟩ := opens_st30 _ _ _ hf4
  obtain rfl : cs4 = #[.int .i64 a4_0, .int .i64 a4_1, .slice A4_2 l4_2.length c4_2, .slice A4_3 l4_3.length c4_3, .int .i64 a4_4, .int .i64 a4_5, .slice A4_6 l4_6.length c4_6, .slice A4_7 l4_7.length c4_7] := Array.toList_inj.1 hcs4
  clear hA0 hval0 hsz0 hsz
  refine (HQ.thrumlaw10_QuantPresses.walk Pure.QuantPresses a0 len0 cap0 z0 a1 a2 a3 len3 cap3 z3 a4_0 a4_1 A4_2 c4_2 l4_2 A4_3 c4_3 l4_3 a4_4 a4_5 A4_6 c4_6 l4_6 A4_7 c4_7 l4_7 W w0 y0 w1 w2 w3 y3 w4_0 w4_1 hr4_2 hc4_2 hg4_2 hr4_3 hc4_3 hg4_3 w4_4 w4_5 hr4_6 hc4_6 hg4_6 hr4_7 hc4_7 hg4_7).mono fun e W' ⟨he, bel⟩ => ?_
  subst he
  exact ⟨_, rfl, _, _, _, [], _, [], hW', trodAll_mk1 (shut_bool Try.underlying4 _), (trodAll_cons_mk (Below.trod laidOut (by kernel_rfl) (of_decide_eq_true (by kernel_rfl)) k0 bel lt0) (trodAll_cons_mk (shut_int Try.underlying3 w1) (trodAll_cons_mk (shut_int Try.underlying64 w2) (trodAll_cons_mk (Below.trod laidOut (by kernel_rfl) (of_decide_eq_true (by kernel_rfl)) k3 bel lt3) (trodAll_cons_mk (Below.trod laidOut (by kernel_rfl) (of_decide_eq_true (by kernel_rfl)) k4 bel lt4) trodAll_mk0))))), rfl, bel.frame _, fun h => by cases h⟩
theorem over : Rows.quantPressesRow.holds Try.pinned (OpenSpec.ofChange Rows.quantPressesSpec) :=
  OpenClaim.holds_of_wide 11 Try.f11 rfl rfl rfl rfl rfl rfl rfl ⟨rfl, rfl, rfl, rfl, rfl⟩ rfl rfl rfl rfl rfl (by kernel_rfl) Try.func11 (by kernel_rfl)
    (of_decide_eq_true (by kernel_rfl)) (by unfold Func.isWrapper; first | (rw [if_pos (by decide +kernel)]; kernel_rfl) | (rw [if_neg (by decide +kernel)]; exact ⟨rfl, rfl⟩))
    (fun os started H enc _ => lifted os started H enc)
theorem proved : Rows.QuantPressesSaid := over
#print axioms proved
end Go.Proofs.Ytkfhdpnfcaghbaa.quantPresses
namespace Go.Proofs.Ytkfhdpnfcaghbaa
/-- The row, under a short name, for the claim. -/
theorem quantPresses_holds : Rows.QuantPressesSaid := quantPresses.proved
end Go.Proofs.Ytkfhdpnfcaghbaa
