/- What a statement's argument of any plain type reads as, in the print's kinds. No program in sight. -/
import Derived.Test.YtbnfejaeekljcaaWWords
import Derived.Test.YtbnfejaeekljcaaWFoot
import Derived.Deep.Slices
import Derived.ChangeArms
import Derived.WideShapes
import Derived.DataReads
namespace Go.Proofs.Ytbnfejaeekljcaa.Op
open Go.RowKit Go.ChangeShapes Go.WideShapes Go.Deep Go.Proofs.YtbnfejaeekljcaaW.PrintWords
section
variable {H : Type} {enc : TypeId × Value → H} {P : Program} {W : World} {α : Type}

/-- What stands at the type t reads as a value of the kind d. -/
def Opens (enc : TypeId × Value → H) (P : Program) (W : World) (t : TypeId) (d : Kd α) (good : α → Prop) : Prop :=
  ∀ (fuel : Nat) (cs : List Value) (x : DataW H × List MemPlace), DataW.trod enc P W 0 (fun _ => true) true fuel t cs = some x → ∃ y, d.K W y cs ∧ good y
theorem opens_int {t : TypeId} {k : IntKind} (ht : P.underlying t = some (.int k)) : Opens enc P W t (Kd.int k) (fun n => (Lit.int k n).wf = true) := by
  intro fuel cs x h
  obtain ⟨n, hc, _, hw⟩ := DataW.trod_int ht h
  exact ⟨n, hc, hw⟩
theorem opens_bool {t : TypeId} (ht : P.underlying t = some .bool) : Opens enc P W t Kd.bool (fun _ => True) := by
  intro fuel cs x h
  obtain ⟨n, hc, _⟩ := DataW.trod_bool ht h
  exact ⟨n, hc, trivial⟩
theorem add_add (a : Addr) (i j : Nat) : (a.add i).add j = a.add (i + j) := by
  cases a with
  | mk b o p => simp only [Addr.add]; (repeat' split) <;> simp_all [Nat.add_assoc]
theorem slice_C {t e : TypeId} {d : Kd α} {good : α → Prop} (ht : P.underlying t = some (.slice e)) (he : Opens enc P W e d good) (hc : P.cellsOf e = d.sz) {fuel : Nat} {cs : List Value} {x : DataW H × List MemPlace}
    (h : DataW.trod enc P W 0 (fun _ => true) true fuel t cs = some x) : ∃ A c, ∃ xs : List α, cs = [.slice A xs.length c] ∧ xs.length ≤ c ∧ d.C W A xs.length xs ∧ (xs.length ≤ maxLen ∧ ∀ y ∈ xs, good y) := by
  rcases open_slice ht h with ⟨rfl, _⟩ | ⟨a, len, cap, m, n, D, Pl, rfl, hb, hl, hm, hmm, rfl, hx⟩
  · exact ⟨none, 0, [], rfl, Nat.le_refl _, Kd.C_nil d W, by simp, by simp⟩
  · have hmc : len ≤ m := by simp only [if_true] at hmm; omega
    have each : ∀ i : Nat, ∃ y : Option α, i < len → ∃ z, y = some z ∧ good z ∧ ∃ cs', cs'.length = d.sz ∧ d.K W z cs' ∧ ∀ j u, cs'[j]? = some u → W.cell? (a.add (i * d.sz + j)) = some u := by
      intro i
      by_cases hi : i < len
      · obtain ⟨cs', h1, h2⟩ := hx i (by omega)
        obtain ⟨y, hk, hg⟩ := he _ _ _ h2
        obtain ⟨_, hlen, hcell⟩ := World.cells?_some h1
        refine ⟨some y, fun _ => ⟨y, rfl, hg, cs', by rw [hlen, hc], hk, fun j u hu => ?_⟩⟩
        have hj : j < cs'.length := (List.getElem?_eq_some_iff.1 hu).1
        have := hcell j (by omega)
        rw [add_add, hc] at this
        rw [this, hu]
      · exact ⟨none, fun h => absurd h hi⟩
    obtain ⟨y, hy⟩ := Classical.skolem.1 each
    have hys : ∀ i, i < len → ∃ z, y i = some z := fun i hi => by obtain ⟨z, hz, _⟩ := hy i hi; exact ⟨z, hz⟩
    have hget : ∀ j, j < len → ((List.range len).filterMap y)[j]? = y j ∧ ((List.range len).filterMap y).length = len := by
      have gen : ∀ n, n ≤ len → ((List.range n).filterMap y).length = n ∧ ∀ j, j < n → ((List.range n).filterMap y)[j]? = y j := by
        intro n
        induction n with
        | zero => intro _; simp
        | succ n ih =>
          intro hn
          obtain ⟨h1, h2⟩ := ih (by omega)
          obtain ⟨z, hz⟩ := hys n (by omega)
          have e : (List.range (n + 1)).filterMap y = (List.range n).filterMap y ++ [z] := by rw [List.range_succ, List.filterMap_append]; simp [hz]
          rw [e]
          refine ⟨by simp [h1], fun j hj => ?_⟩
          by_cases hjn : j = n
          · rw [hjn, List.getElem?_append_right (by omega), h1, Nat.sub_self, hz]; rfl
          · rw [List.getElem?_append_left (by omega)]; exact h2 j (by omega)
      intro j hj
      exact ⟨(gen len (Nat.le_refl _)).2 j hj, (gen len (Nat.le_refl _)).1⟩
    have hlen : ((List.range len).filterMap y).length = len := by
      cases len with
      | zero => rfl
      | succ n => exact (hget 0 (by omega)).2
    refine ⟨some a, cap, (List.range len).filterMap y, by rw [hlen], by omega, ⟨rfl, ?_, fun _ => ⟨a, rfl, fun j p hp => ?_⟩⟩, by omega, ?_⟩
    · rw [hlen]; have : maxLen ≤ 9223372036854775807 := by decide
      omega
    · have hj : j < len := by have := (List.getElem?_eq_some_iff.1 hp).1; omega
      rw [(hget j hj).1] at hp
      obtain ⟨z, hz, _, cs', q1, q2, q3⟩ := hy j hj
      rw [hp] at hz
      cases hz
      exact ⟨cs', q1, q2, fun i u hu => q3 i u hu⟩
    · intro z hz
      obtain ⟨i, hi, e⟩ := List.mem_filterMap.1 hz
      obtain ⟨z', hz', hg, _⟩ := hy i (List.mem_range.1 hi)
      rw [e] at hz'
      cases hz'
      exact hg
theorem opens_slice {t e : TypeId} (q : Nat) {d : Kd α} {good : α → Prop} (ht : P.underlying t = some (.slice e)) (he : Opens enc P W e d good) (hc : P.cellsOf e = d.sz) :
    Opens enc P W t (Kd.slice q d) (fun xs => xs.length ≤ maxLen ∧ ∀ y ∈ xs, good y) := by
  intro fuel cs x h
  obtain ⟨A, c, xs, h1, h2, h3, h4⟩ := slice_C ht he hc h
  exact ⟨xs, ⟨A, c, h1, h2, h3⟩, h4⟩
theorem glue {cs : List Value} {o n m : Nat} {v : List Value} (hn : m = n) (h : (cs.drop o).take m = v) : cs.drop o = v ++ cs.drop (o + n) := by
  subst hn; subst h
  rw [← List.drop_drop, List.take_append_drop]
/-- A slice that came in. -/
theorem open_arg {t e : TypeId} {d : Kd α} {good : α → Prop} {r : Reach} {b0 : Nat} {v : Value} {dd : DataW H} {ps : List MemPlace} (ht : P.underlying t = some (.slice e)) (he : Opens enc P W e d good) (hc : P.cellsOf e = d.sz)
    (hval : Value.okWide P W r b0 t v) (h : DataW.Trod enc P W 0 (fun _ => true) true t v dd ps) :
    ∃ A c, ∃ xs : List α, v = .slice A xs.length c ∧ xs.length ≤ c ∧ d.C W A xs.length xs ∧ (xs.length ≤ maxLen ∧ ∀ y ∈ xs, good y) := by
  obtain ⟨a, len, cap, rfl⟩ := okWide_slice ht hval
  obtain ⟨fuel, hf⟩ := h
  obtain ⟨A, c, xs, h1, h2, h3, h4⟩ := slice_C ht he hc hf
  refine ⟨A, c, xs, ?_, h2, h3, h4⟩
  simp [Value.cells] at h1
  obtain ⟨rfl, rfl, rfl⟩ := h1
  rfl
end
end Go.Proofs.Ytbnfejaeekljcaa.Op
