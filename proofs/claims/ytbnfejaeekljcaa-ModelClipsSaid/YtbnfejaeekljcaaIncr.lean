/- Lines that may be added to: each lies in a block of its own. -/
import Derived.Test.YtbnfejaeekljcaaSplit
namespace Go.Proofs.Ytbnfejaeekljcaa.Sp
open Go.RowKit Go.Proofs.YtbnfejaeekljcaaW.PrintWords
set_option linter.unusedVariables false
/-- Each line lies in a block of its own, none of them 'bad': its numbers can be added to. -/
def RowsInc (W : World) (base : Nat) (bad : Option Nat) (A : Option Addr) (xs : List (List Int)) : Prop :=
  ∀ j (hj : j < xs.length), ∃ ad A' c', A = some ad ∧ W.cell? (ad.add j) = some (.slice A' (xs[j]).length c') ∧ (xs[j]).length ≤ 9223372036854775807 ∧
    ∀ i, i < (xs[j]).length → ∃ g n, A' = some ⟨g, 0, none⟩ ∧ base ≤ g ∧ some g ≠ bad ∧ W.cell? ⟨g, i, none⟩ = some (.int .i64 n) ∧ W.frozen? ⟨g, i, none⟩ = false
theorem RowsInc.put {W : World} {base : Nat} {bad : Option Nat} {A : Option Addr} {xs : List (List Int)} (h : RowsInc W base bad A xs) {p : Addr} {n : Int} (m : Int) (hp : W.cell? p = some (.int .i64 n)) :
    RowsInc (W.setCell p (.int .i64 m)) base bad A xs := by
  intro j hj
  obtain ⟨ad, A', c', e, h1, hl, h2⟩ := h j hj
  refine ⟨ad, A', c', e, ?_, hl, fun i hi => ?_⟩
  · by_cases c : p = ad.add j
    · rw [← c, hp] at h1; cases h1
    · rw [World.cell?_setCell_other _ _ _ _ c]; exact h1
  · obtain ⟨g, n', e1, e2, e3, e4, e5⟩ := h2 i hi
    by_cases c : p = ⟨g, i, none⟩
    · exact ⟨g, m, e1, e2, e3, by rw [← c]; exact World.cell?_setCell_same _ _ _ hp, by rw [World.frozen?_setCell]; exact e5⟩
    · exact ⟨g, n', e1, e2, e3, by rw [World.cell?_setCell_other _ _ _ _ c]; exact e4, by rw [World.frozen?_setCell]; exact e5⟩
theorem cell_put {W : World} {q p : Addr} {A : Option Addr} {l c : Nat} {n : Int} (m : Int) (hq : W.cell? q = some (.slice A l c)) (hp : W.cell? p = some (.int .i64 n)) : (W.setCell p (.int .i64 m)).cell? q = some (.slice A l c) := by
  by_cases c : p = q
  · rw [← c, hp] at hq; cases hq
  · rw [World.cell?_setCell_other _ _ _ _ c]; exact hq
theorem RowsInc.of_S {W : World} {base t e : Nat} {ok : Nat → Prop} {bad : Option Nat} {A : Option Addr} {c : Nat} {xs : List (List Int)} (h : Kd.S (Kd.slice t (Kd.int .i64)) e W base ok (.slice A xs.length c) xs) (hok : ∀ k, ok k → some k ≠ bad) : RowsInc W base bad A xs := by
  intro j hj
  obtain ⟨ad, rfl, _⟩ := (Kd.S_reads' h).2.2.2.2 (by omega)
  obtain ⟨cs, hcs, hM, hcc⟩ := Kd.S_get h [] (j : Int) (by omega) (by omega)
  obtain ⟨v0, rfl, ge⟩ := hM
  have hv := hcc 0 _ rfl
  rw [Nat.add_zero, show ((Kd.slice t (Kd.int .i64))).sz = 1 from rfl, Nat.mul_one, Int.toNat_natCast] at hv
  have hg : xs.getD (j : Int).toNat [] = xs[j] := by rw [Int.toNat_natCast, List.getD_eq_getElem?_getD, List.getElem?_eq_getElem hj, Option.getD_some]
  rw [hg] at ge
  obtain ⟨A', c', e'⟩ := Kd.R_slice ge
  subst e'
  refine ⟨ad, A', c', rfl, hv, Kd.C_max (Kd.R_reads' ge).2.2, fun i hi => ?_⟩
  obtain ⟨g, cap, e2, hb, _, _⟩ := Kd.R_form ge (by omega)
  injection e2 with e3 e4 e5
  subst e3
  obtain ⟨h1, h2⟩ := Kd.R_celln 0 ge (i : Int) (by omega) (by omega)
  rw [Int.toNat_natCast] at h1 h2
  exact ⟨g, _, rfl, hb, hok g (ge.1 g (by simp [Value.ownBlock])).1, h1, h2⟩
end Go.Proofs.Ytbnfejaeekljcaa.Sp
