/- What Go functions do, each as a plain Lean function with the same answers, and the proof of it, in every world: printed by the session's driver over the kit's print, with texts by hand. -/
import Derived.Test.YtalamamjodihaaaRows
import Derived.Test.YtalamamjodihaaaHPx9
import Derived.Test.YtalamamjodihaaaPureMlpTurns
import Derived.Test.YtalamamjodihaaaPOpen
import Derived.WalkKit
import Derived.ProofKit
import Derived.OpenShut
import Derived.ShutString
import Derived.ChangeOld
import Derived.Below
import Derived.SizedLaws
import Derived.Test.YtalamamjodihaaaWSized
namespace Go.Proofs.Ytalamamjodihaaa.mlpTurns
open Go.ChangeShapes Go.WideShapes Go.ChangeAt Go.RowKit
open Go.ChangeMaps (open_string shut_string)
set_option linter.unusedVariables false
theorem own : ownKnob Try.prog.godebug = none := by kernel_rfl
theorem laidOut : laidOutB Try.prog = true := by kernel_rfl
def IsRow (k : IntKind) (w : World) (a : Option Addr) (len cap : Nat) (zs : List Int) : Prop :=
  (a = none ∧ len = 0 ∧ cap = 0 ∧ zs = []) ∨
  ∃ x, a = some x ∧ len ≤ cap ∧ cap ≤ maxLen ∧ zs.length = cap ∧ (∀ i, i < zs.length → w.cell? (x.add i) = some (.int k (zs.getD i 0))) ∧ ∀ n ∈ zs, (Lit.int k n).wf = true
open Go.Proofs.Ytalamamjodihaaa.HP
open Go.Proofs.YtalamamjodihaaaW.PrintWords
theorem opens_st26 {H : Type} {enc : TypeId × Value → H} {W : World} (fuel : Nat) (cs : List Value) (x : DataW H × List MemPlace) (h : DataW.trod enc Try.prog W 0 (fun _ => true) true fuel 26 cs = some x) :
    ∃ (A0_0 : Option Addr) (c0_0 : Nat) (l0_0 : List Int) (a0_1 : Int), cs = [.slice A0_0 l0_0.length c0_0, .int .i64 a0_1] ∧ (l0_0.length ≤ c0_0 ∧ Kd.C (Kd.int .i64) W A0_0 l0_0.length l0_0 ∧ (l0_0.length ≤ maxLen ∧ ∀ x__ ∈ l0_0, (Lit.int .i64 x__).wf = true)) ∧ (Lit.int .i64 a0_1).wf = true ∧ True := by
  obtain ⟨xs, n, rfl, _, hlen, hxl, hfs⟩ := DataW.trod_struct Try.underlying26 h
  obtain ⟨x0, hx0⟩ : ∃ z, xs[0]? = some z := ⟨_, List.getElem?_eq_getElem (by rw [hxl]; decide)⟩
  have t0 := (hfs 0 _ rfl).trans hx0
  obtain ⟨A0_0, c0_0, l0_0, e0, hc0_0, hr0_0, hg0_0⟩ := Go.Proofs.Ytalamamjodihaaa.Op.slice_C Try.underlying22 (Go.Proofs.Ytalamamjodihaaa.Op.opens_int Try.underlying2) (by kernel_rfl) t0
  have g0 : cs.drop 0 = [.slice A0_0 l0_0.length c0_0] ++ cs.drop 1 := Go.Proofs.Ytalamamjodihaaa.Op.glue (o := 0) (n := 1) (by kernel_rfl) e0
  obtain ⟨x1, hx1⟩ : ∃ z, xs[1]? = some z := ⟨_, List.getElem?_eq_getElem (by rw [hxl]; decide)⟩
  have t1 := (hfs 1 _ rfl).trans hx1
  obtain ⟨a0_1, e1, w0_1⟩ := (Go.Proofs.Ytalamamjodihaaa.Op.opens_int Try.underlying2) _ _ _ t1
  have g1 : cs.drop 1 = [.int .i64 a0_1] ++ cs.drop 2 := Go.Proofs.Ytalamamjodihaaa.Op.glue (o := 1) (n := 1) (by kernel_rfl) e1
  refine ⟨_, _, _, _, ?_, ⟨hc0_0, hr0_0, hg0_0⟩, w0_1, trivial⟩
  rw [show cs = cs.drop 0 from rfl, g0, g1, List.drop_eq_nil_of_le (by rw [hlen]; exact Nat.le_of_eq (by kernel_rfl))]
  rfl
theorem opens_s26 {H : Type} {enc : TypeId × Value → H} {W : World} : Go.Proofs.Ytalamamjodihaaa.Op.Opens enc Try.prog W 26 k26 (fun y_ => ((y_.f0.length ≤ maxLen ∧ ∀ x__ ∈ y_.f0, (Lit.int .i64 x__).wf = true) ∧ (Lit.int .i64 y_.f1).wf = true ∧ True)) := by
  intro fuel cs x h
  obtain ⟨A0_0, c0_0, l0_0, a0_1, rfl, ⟨hc0_0, hr0_0, hg0_0⟩, w0_1, _⟩ := opens_st26 fuel cs x h
  exact ⟨⟨l0_0, a0_1⟩, k26_mk W ⟨l0_0, a0_1⟩ hc0_0 hr0_0, ⟨hg0_0, w0_1, trivial⟩⟩
set_option maxRecDepth 100000 in
theorem lifted (os : Os) (started : os.Started) (H : Type) (enc : TypeId × Value → H) :
    ReturnsInHanded {} Try.checked os 7 .any (Rows.mlpTurnsSpec.pre6 enc Try.prog Try.f7 Rows.mlpTurnsRow.domain false) (Rows.mlpTurnsSpec.post enc Try.prog Try.f7 false true false false) := by
  refine returnsInHanded_of_change_sized (C := Try.checked) own started (by kernel_rfl) Try.func7
    (ChangeSpec.witness6 (enc := enc) (C := Try.checked) false ⟨#[], #[.slice none 0 0, .int .i64 0, .slice none 0 0], []⟩ 8 (by kernel_rfl) (by kernel_rfl) (by kernel_rfl) (by kernel_rfl)) ?_
  intro W base args ds gs before hval0 hW hcnd hsz0 _
  have hsz : (DataW.weightsEach Try.prog (Try.f7.params.toList ++ Rows.mlpTurnsSpec.plain.varTypes Try.prog) (ds ++ gs)).all (· ≤ reachBytes) = true := hsz0
  have hval : ∀ (j : Nat) t v, Try.f7.params[j]? = some t → args[j]? = some v → Value.okWide Try.prog W .any base t v := hval0
  have hW' := hW
  obtain ⟨p, q, hA0, hV, rfl, hfz, hnd⟩ := hW
  have hA : DataW.TrodAll enc Try.prog W 0 (fun _ => true) true Try.f7.params.toList args.toList ds p := hA0
  rw [Try.params7] at hA hval hsz
  obtain ⟨v0, vs0, d0, ds0, p0, q0, hargs, rfl, rfl, h0, r0⟩ := trodAll_cons hA
  obtain ⟨v1, vs1, d1, ds1, p1, q1, rfl, rfl, rfl, h1, r1⟩ := trodAll_cons r0
  obtain ⟨v2, vs2, d2, ds2, p2, q2, rfl, rfl, rfl, h2, r2⟩ := trodAll_cons r1
  obtain ⟨rfl, rfl, rfl⟩ := trodAll_nil r2
  obtain rfl : args = #[v0, v1, v2] := by cases args; simp_all
  obtain ⟨rfl, rfl⟩ := trodVars_none hV
  obtain ⟨a0, len0, cap0, rfl⟩ := okWide_slice Try.underlying22 (hval 0 22 v0 rfl rfl)
  have k0 := h0
  have lt0 : ∀ x ∈ p0, x.block < W.heap.size := by obtain ⟨m, hm⟩ := k0; exact DataW.trod_lt m _ _ _ hm
  obtain ⟨z0, w0⟩ : ∃ zs, IsRow .i64 W a0 len0 cap0 zs := by
    obtain ⟨fuel, hf⟩ := h0
    rcases open_ints Try.underlying22 Try.underlying2 (by kernel_rfl) hf with ⟨hcs, _⟩ | ⟨x, l, c, zs, hcs, _, hl, hm, hz, _, hcell, hwz⟩
    · simp [Value.cells] at hcs
      obtain ⟨rfl, rfl, rfl⟩ := hcs
      exact ⟨[], .inl ⟨rfl, rfl, rfl, rfl⟩⟩
    · simp [Value.cells] at hcs
      obtain ⟨rfl, rfl, rfl⟩ := hcs
      exact ⟨zs, .inr ⟨_, rfl, hl, hm, by simpa using hz, hcell, hwz⟩⟩
  have y0 : len0 * 8 ≤ 140737488351232 := Go.Proofs.YtalamamjodihaaaW.PrintWords.sized_ints hsz (j := 0) (t := 22) rfl rfl Try.underlying22 Try.underlying2 (by kernel_rfl) (by kernel_rfl) h0
  obtain ⟨a1, rfl, rfl, rfl, w1⟩ := open_int Try.underlying3 (hval 1 3 v1 rfl rfl) h1
  have k2 := h2
  have lt2 : ∀ x ∈ p2, x.block < W.heap.size := by obtain ⟨m, hm⟩ := k2; exact DataW.trod_lt m _ _ _ hm
  obtain ⟨A2, c2, l2, rfl, hc2, hr2, hg2⟩ := Go.Proofs.Ytalamamjodihaaa.Op.open_arg Try.underlying45 opens_s26 (by kernel_rfl) (hval 2 45 v2 rfl rfl) h2
  clear hA0 hval0 hsz0 hsz
  refine (HP.thrumlaw16_MlpTurns.walk Pure.MlpTurns a0 len0 cap0 z0 a1 A2 c2 l2 W w0 y0 w1 hr2 hc2 hg2).mono fun e W' ⟨he, bel⟩ => ?_
  subst he
  exact ⟨_, rfl, _, _, _, [], _, [], hW', trodAll_mk1 (shut_bool Try.underlying4 _), (trodAll_cons_mk (Below.trod laidOut (by kernel_rfl) (of_decide_eq_true (by kernel_rfl)) k0 bel lt0) (trodAll_cons_mk (shut_int Try.underlying3 w1) (trodAll_cons_mk (Below.trod laidOut (by kernel_rfl) (of_decide_eq_true (by kernel_rfl)) k2 bel lt2) trodAll_mk0))), rfl, bel.frame _, fun h => by cases h⟩
theorem over : Rows.mlpTurnsRow.holds Try.pinned (OpenSpec.ofChange Rows.mlpTurnsSpec) :=
  OpenClaim.holds_of_wide 7 Try.f7 rfl rfl rfl rfl rfl rfl rfl ⟨rfl, rfl, rfl, rfl, rfl⟩ rfl rfl rfl rfl rfl (by kernel_rfl) Try.func7 (by kernel_rfl)
    (of_decide_eq_true (by kernel_rfl)) (by unfold Func.isWrapper; first | (rw [if_pos (by decide +kernel)]; kernel_rfl) | (rw [if_neg (by decide +kernel)]; exact ⟨rfl, rfl⟩))
    (fun os started H enc _ => lifted os started H enc)
theorem proved : Rows.MlpTurnsSaid := over
#print axioms proved
end Go.Proofs.Ytalamamjodihaaa.mlpTurns
namespace Go.Proofs.Ytalamamjodihaaa
/-- The row, under a short name, for the claim. -/
theorem mlpTurns_holds : Rows.MlpTurnsSaid := mlpTurns.proved
end Go.Proofs.Ytalamamjodihaaa
