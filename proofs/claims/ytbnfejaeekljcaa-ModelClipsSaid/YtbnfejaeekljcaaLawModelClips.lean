/- What Go functions do, each as a plain Lean function with the same answers, and the proof of it, in every world: printed by the session's driver over the kit's print, with texts by hand. -/
import Derived.Test.YtbnfejaeekljcaaRows
import Derived.Test.YtbnfejaeekljcaaHDx13
import Derived.Test.YtbnfejaeekljcaaPureModelClips
import Derived.Test.YtbnfejaeekljcaaPOpen
import Derived.WalkKit
import Derived.ProofKit
import Derived.OpenShut
import Derived.ShutString
import Derived.ChangeOld
import Derived.Below
import Derived.SizedLaws
import Derived.Test.YtbnfejaeekljcaaWSized
namespace Go.Proofs.Ytbnfejaeekljcaa.modelClips
open Go.ChangeShapes Go.WideShapes Go.ChangeAt Go.RowKit
open Go.ChangeMaps (open_string shut_string)
set_option linter.unusedVariables false
theorem own : ownKnob Try.prog.godebug = none := by kernel_rfl
theorem laidOut : laidOutB Try.prog = true := by kernel_rfl
def IsRow (k : IntKind) (w : World) (a : Option Addr) (len cap : Nat) (zs : List Int) : Prop :=
  (a = none ∧ len = 0 ∧ cap = 0 ∧ zs = []) ∨
  ∃ x, a = some x ∧ len ≤ cap ∧ cap ≤ maxLen ∧ zs.length = cap ∧ (∀ i, i < zs.length → w.cell? (x.add i) = some (.int k (zs.getD i 0))) ∧ ∀ n ∈ zs, (Lit.int k n).wf = true
open Go.Proofs.Ytbnfejaeekljcaa.HD
open Go.Proofs.YtbnfejaeekljcaaW.PrintWords
theorem opens_st23 {H : Type} {enc : TypeId × Value → H} {W : World} (fuel : Nat) (cs : List Value) (x : DataW H × List MemPlace) (h : DataW.trod enc Try.prog W 0 (fun _ => true) true fuel 23 cs = some x) :
    ∃ (a0_0 : Int) (a0_1 : Int) (a0_2 : Int) (a0_3 : Int) (a0_4 : Int), cs = [.int .i64 a0_0, .int .i64 a0_1, .int .i64 a0_2, .int .i64 a0_3, .int .i64 a0_4] ∧ (Lit.int .i64 a0_0).wf = true ∧ (Lit.int .i64 a0_1).wf = true ∧ (Lit.int .i64 a0_2).wf = true ∧ (Lit.int .i64 a0_3).wf = true ∧ (Lit.int .i64 a0_4).wf = true ∧ True := by
  obtain ⟨xs, n, rfl, _, hlen, hxl, hfs⟩ := DataW.trod_struct Try.underlying23 h
  obtain ⟨x0, hx0⟩ : ∃ z, xs[0]? = some z := ⟨_, List.getElem?_eq_getElem (by rw [hxl]; decide)⟩
  have t0 := (hfs 0 _ rfl).trans hx0
  obtain ⟨a0_0, e0, w0_0⟩ := (Go.Proofs.Ytbnfejaeekljcaa.Op.opens_int Try.underlying3) _ _ _ t0
  have g0 : cs.drop 0 = [.int .i64 a0_0] ++ cs.drop 1 := Go.Proofs.Ytbnfejaeekljcaa.Op.glue (o := 0) (n := 1) (by kernel_rfl) e0
  obtain ⟨x1, hx1⟩ : ∃ z, xs[1]? = some z := ⟨_, List.getElem?_eq_getElem (by rw [hxl]; decide)⟩
  have t1 := (hfs 1 _ rfl).trans hx1
  obtain ⟨a0_1, e1, w0_1⟩ := (Go.Proofs.Ytbnfejaeekljcaa.Op.opens_int Try.underlying3) _ _ _ t1
  have g1 : cs.drop 1 = [.int .i64 a0_1] ++ cs.drop 2 := Go.Proofs.Ytbnfejaeekljcaa.Op.glue (o := 1) (n := 1) (by kernel_rfl) e1
  obtain ⟨x2, hx2⟩ : ∃ z, xs[2]? = some z := ⟨_, List.getElem?_eq_getElem (by rw [hxl]; decide)⟩
  have t2 := (hfs 2 _ rfl).trans hx2
  obtain ⟨a0_2, e2, w0_2⟩ := (Go.Proofs.Ytbnfejaeekljcaa.Op.opens_int Try.underlying3) _ _ _ t2
  have g2 : cs.drop 2 = [.int .i64 a0_2] ++ cs.drop 3 := Go.Proofs.Ytbnfejaeekljcaa.Op.glue (o := 2) (n := 1) (by kernel_rfl) e2
  obtain ⟨x3, hx3⟩ : ∃ z, xs[3]? = some z := ⟨_, List.getElem?_eq_getElem (by rw [hxl]; decide)⟩
  have t3 := (hfs 3 _ rfl).trans hx3
  obtain ⟨a0_3, e3, w0_3⟩ := (Go.Proofs.Ytbnfejaeekljcaa.Op.opens_int Try.underlying3) _ _ _ t3
  have g3 : cs.drop 3 = [.int .i64 a0_3] ++ cs.drop 4 := Go.Proofs.Ytbnfejaeekljcaa.Op.glue (o := 3) (n := 1) (by kernel_rfl) e3
  obtain ⟨x4, hx4⟩ : ∃ z, xs[4]? = some z := ⟨_, List.getElem?_eq_getElem (by rw [hxl]; decide)⟩
  have t4 := (hfs 4 _ rfl).trans hx4
  obtain ⟨a0_4, e4, w0_4⟩ := (Go.Proofs.Ytbnfejaeekljcaa.Op.opens_int Try.underlying3) _ _ _ t4
  have g4 : cs.drop 4 = [.int .i64 a0_4] ++ cs.drop 5 := Go.Proofs.Ytbnfejaeekljcaa.Op.glue (o := 4) (n := 1) (by kernel_rfl) e4
  refine ⟨_, _, _, _, _, ?_, w0_0, w0_1, w0_2, w0_3, w0_4, trivial⟩
  rw [show cs = cs.drop 0 from rfl, g0, g1, g2, g3, g4, List.drop_eq_nil_of_le (by rw [hlen]; exact Nat.le_of_eq (by kernel_rfl))]
  rfl
theorem opens_st37 {H : Type} {enc : TypeId × Value → H} {W : World} (fuel : Nat) (cs : List Value) (x : DataW H × List MemPlace) (h : DataW.trod enc Try.prog W 0 (fun _ => true) true fuel 37 cs = some x) :
    ∃ (A0_0 : Option Addr) (c0_0 : Nat) (l0_0 : List Int) (a0_1 : Int), cs = [.slice A0_0 l0_0.length c0_0, .int .i64 a0_1] ∧ (l0_0.length ≤ c0_0 ∧ Kd.C (Kd.int .i64) W A0_0 l0_0.length l0_0 ∧ (l0_0.length ≤ maxLen ∧ ∀ x__ ∈ l0_0, (Lit.int .i64 x__).wf = true)) ∧ (Lit.int .i64 a0_1).wf = true ∧ True := by
  obtain ⟨xs, n, rfl, _, hlen, hxl, hfs⟩ := DataW.trod_struct Try.underlying37 h
  obtain ⟨x0, hx0⟩ : ∃ z, xs[0]? = some z := ⟨_, List.getElem?_eq_getElem (by rw [hxl]; decide)⟩
  have t0 := (hfs 0 _ rfl).trans hx0
  obtain ⟨A0_0, c0_0, l0_0, e0, hc0_0, hr0_0, hg0_0⟩ := Go.Proofs.Ytbnfejaeekljcaa.Op.slice_C Try.underlying26 (Go.Proofs.Ytbnfejaeekljcaa.Op.opens_int Try.underlying2) (by kernel_rfl) t0
  have g0 : cs.drop 0 = [.slice A0_0 l0_0.length c0_0] ++ cs.drop 1 := Go.Proofs.Ytbnfejaeekljcaa.Op.glue (o := 0) (n := 1) (by kernel_rfl) e0
  obtain ⟨x1, hx1⟩ : ∃ z, xs[1]? = some z := ⟨_, List.getElem?_eq_getElem (by rw [hxl]; decide)⟩
  have t1 := (hfs 1 _ rfl).trans hx1
  obtain ⟨a0_1, e1, w0_1⟩ := (Go.Proofs.Ytbnfejaeekljcaa.Op.opens_int Try.underlying2) _ _ _ t1
  have g1 : cs.drop 1 = [.int .i64 a0_1] ++ cs.drop 2 := Go.Proofs.Ytbnfejaeekljcaa.Op.glue (o := 1) (n := 1) (by kernel_rfl) e1
  refine ⟨_, _, _, _, ?_, ⟨hc0_0, hr0_0, hg0_0⟩, w0_1, trivial⟩
  rw [show cs = cs.drop 0 from rfl, g0, g1, List.drop_eq_nil_of_le (by rw [hlen]; exact Nat.le_of_eq (by kernel_rfl))]
  rfl
theorem opens_s37 {H : Type} {enc : TypeId × Value → H} {W : World} : Go.Proofs.Ytbnfejaeekljcaa.Op.Opens enc Try.prog W 37 k37 (fun y_ => ((y_.f0.length ≤ maxLen ∧ ∀ x__ ∈ y_.f0, (Lit.int .i64 x__).wf = true) ∧ (Lit.int .i64 y_.f1).wf = true ∧ True)) := by
  intro fuel cs x h
  obtain ⟨A0_0, c0_0, l0_0, a0_1, rfl, ⟨hc0_0, hr0_0, hg0_0⟩, w0_1, _⟩ := opens_st37 fuel cs x h
  exact ⟨⟨l0_0, a0_1⟩, k37_mk W ⟨l0_0, a0_1⟩ hc0_0 hr0_0, ⟨hg0_0, w0_1, trivial⟩⟩
set_option maxRecDepth 100000 in
theorem lifted (os : Os) (started : os.Started) (H : Type) (enc : TypeId × Value → H) :
    ReturnsInHanded {} Try.checked os 4 .any (Rows.modelClipsSpec.pre6 enc Try.prog Try.f4 Rows.modelClipsRow.domain false) (Rows.modelClipsSpec.post enc Try.prog Try.f4 false true false false) := by
  refine returnsInHanded_of_change_sized (C := Try.checked) own started (by kernel_rfl) Try.func4
    (ChangeSpec.witness6 (enc := enc) (C := Try.checked) false ⟨#[], #[.agg #[.int .i64 0, .int .i64 0, .int .i64 0, .int .i64 0, .int .i64 0], .slice none 0 0, .int .i64 0, .slice none 0 0], []⟩ 8 (by kernel_rfl) (by kernel_rfl) (by kernel_rfl) (by kernel_rfl)) ?_
  intro W base args ds gs before hval0 hW hcnd hsz0 _
  have hsz : (DataW.weightsEach Try.prog (Try.f4.params.toList ++ Rows.modelClipsSpec.plain.varTypes Try.prog) (ds ++ gs)).all (· ≤ reachBytes) = true := hsz0
  have hval : ∀ (j : Nat) t v, Try.f4.params[j]? = some t → args[j]? = some v → Value.okWide Try.prog W .any base t v := hval0
  have hW' := hW
  obtain ⟨p, q, hA0, hV, rfl, hfz, hnd⟩ := hW
  have hA : DataW.TrodAll enc Try.prog W 0 (fun _ => true) true Try.f4.params.toList args.toList ds p := hA0
  rw [Try.params4] at hA hval hsz
  obtain ⟨v0, vs0, d0, ds0, p0, q0, hargs, rfl, rfl, h0, r0⟩ := trodAll_cons hA
  obtain ⟨v1, vs1, d1, ds1, p1, q1, rfl, rfl, rfl, h1, r1⟩ := trodAll_cons r0
  obtain ⟨v2, vs2, d2, ds2, p2, q2, rfl, rfl, rfl, h2, r2⟩ := trodAll_cons r1
  obtain ⟨v3, vs3, d3, ds3, p3, q3, rfl, rfl, rfl, h3, r3⟩ := trodAll_cons r2
  obtain ⟨rfl, rfl, rfl⟩ := trodAll_nil r3
  obtain rfl : args = #[v0, v1, v2, v3] := by cases args; simp_all
  obtain ⟨rfl, rfl⟩ := trodVars_none hV
  have k0 := h0
  have lt0 : ∀ x ∈ p0, x.block < W.heap.size := by obtain ⟨m, hm⟩ := k0; exact DataW.trod_lt m _ _ _ hm
  obtain ⟨cs0, rfl, _⟩ := okWide_struct Try.underlying23 (hval 0 23 v0 rfl rfl)
  obtain ⟨fu0, hf0⟩ := h0
  obtain ⟨a0_0, a0_1, a0_2, a0_3, a0_4, hcs0, w0_0, w0_1, w0_2, w0_3, w0_4, _⟩ := opens_st23 _ _ _ hf0
  obtain rfl : cs0 = #[.int .i64 a0_0, .int .i64 a0_1, .int .i64 a0_2, .int .i64 a0_3, .int .i64 a0_4] := Array.toList_inj.1 hcs0
  obtain ⟨a1, len1, cap1, rfl⟩ := okWide_slice Try.underlying26 (hval 1 26 v1 rfl rfl)
  have k1 := h1
  have lt1 : ∀ x ∈ p1, x.block < W.heap.size := by obtain ⟨m, hm⟩ := k1; exact DataW.trod_lt m _ _ _ hm
  obtain ⟨z1, w1⟩ : ∃ zs, IsRow .i64 W a1 len1 cap1 zs := by
    obtain ⟨fuel, hf⟩ := h1
    rcases open_ints Try.underlying26 Try.underlying2 (by kernel_rfl) hf with ⟨hcs, _⟩ | ⟨x, l, c, zs, hcs, _, hl, hm, hz, _, hcell, hwz⟩
    · simp [Value.cells] at hcs
      obtain ⟨rfl, rfl, rfl⟩ := hcs
      exact ⟨[], .inl ⟨rfl, rfl, rfl, rfl⟩⟩
    · simp [Value.cells] at hcs
      obtain ⟨rfl, rfl, rfl⟩ := hcs
      exact ⟨zs, .inr ⟨_, rfl, hl, hm, by simpa using hz, hcell, hwz⟩⟩
  have y1 : len1 * 8 ≤ 140737488351232 := Go.Proofs.YtbnfejaeekljcaaW.PrintWords.sized_ints hsz (j := 1) (t := 26) rfl rfl Try.underlying26 Try.underlying2 (by kernel_rfl) (by kernel_rfl) h1
  obtain ⟨a2, rfl, rfl, rfl, w2⟩ := open_int Try.underlying2 (hval 2 2 v2 rfl rfl) h2
  have k3 := h3
  have lt3 : ∀ x ∈ p3, x.block < W.heap.size := by obtain ⟨m, hm⟩ := k3; exact DataW.trod_lt m _ _ _ hm
  obtain ⟨A3, c3, l3, rfl, hc3, hr3, hg3⟩ := Go.Proofs.Ytbnfejaeekljcaa.Op.open_arg Try.underlying39 opens_s37 (by kernel_rfl) (hval 3 39 v3 rfl rfl) h3
  clear hA0 hval0 hsz0 hsz
  refine (HD.thrumlaw17_ModelClips.walk Pure.ModelClips a0_0 a0_1 a0_2 a0_3 a0_4 a1 len1 cap1 z1 a2 A3 c3 l3 W w0_0 w0_1 w0_2 w0_3 w0_4 w1 y1 w2 hr3 hc3 hg3).mono fun e W' ⟨he, bel⟩ => ?_
  subst he
  exact ⟨_, rfl, _, _, _, [], _, [], hW', trodAll_mk1 (shut_bool Try.underlying4 _), (trodAll_cons_mk (Below.trod laidOut (by kernel_rfl) (of_decide_eq_true (by kernel_rfl)) k0 bel lt0) (trodAll_cons_mk (Below.trod laidOut (by kernel_rfl) (of_decide_eq_true (by kernel_rfl)) k1 bel lt1) (trodAll_cons_mk (shut_int Try.underlying2 w2) (trodAll_cons_mk (Below.trod laidOut (by kernel_rfl) (of_decide_eq_true (by kernel_rfl)) k3 bel lt3) trodAll_mk0)))), rfl, bel.frame _, fun h => by cases h⟩
theorem over : Rows.modelClipsRow.holds Try.pinned (OpenSpec.ofChange Rows.modelClipsSpec) :=
  OpenClaim.holds_of_wide 4 Try.f4 rfl rfl rfl rfl rfl rfl rfl ⟨rfl, rfl, rfl, rfl, rfl⟩ rfl rfl rfl rfl rfl (by kernel_rfl) Try.func4 (by kernel_rfl)
    (of_decide_eq_true (by kernel_rfl)) (by unfold Func.isWrapper; first | (rw [if_pos (by decide +kernel)]; kernel_rfl) | (rw [if_neg (by decide +kernel)]; exact ⟨rfl, rfl⟩))
    (fun os started H enc _ => lifted os started H enc)
theorem proved : Rows.ModelClipsSaid := over
#print axioms proved
end Go.Proofs.Ytbnfejaeekljcaa.modelClips
namespace Go.Proofs.Ytbnfejaeekljcaa
/-- The row, under a short name, for the claim. -/
theorem modelClips_holds : Rows.ModelClipsSaid := modelClips.proved
end Go.Proofs.Ytbnfejaeekljcaa
