/- From so many rounds on a law answers true. No program in sight. -/
import Derived.WalkKit
namespace Go.Proofs.Ytbnfejaeekljcaa.Sp
/-- From so many rounds on it answers true. -/
def Evt (F : Nat → Option Bool) : Prop := ∃ K, ∀ k, K ≤ k → F k = some true
theorem Evt.get {F : Nat → Option Bool} (h : Evt F) : ∃ k, F k = some true := by obtain ⟨K, h⟩ := h; exact ⟨K, h K (Nat.le_refl _)⟩
theorem Evt.step {F G : Nat → Option Bool} (hg : Evt G) (h : ∀ k, F (k + 1) = G k) : Evt F := by
  obtain ⟨K, hK⟩ := hg
  exact ⟨K + 1, fun k hk => by obtain ⟨m, rfl⟩ : ∃ m, k = m + 1 := ⟨k - 1, by omega⟩; rw [h]; exact hK m (by omega)⟩
theorem Evt.done {F : Nat → Option Bool} (h : ∀ k, F (k + 1) = some true) : Evt F := ⟨1, fun k hk => by obtain ⟨m, rfl⟩ : ∃ m, k = m + 1 := ⟨k - 1, by omega⟩; exact h m⟩
theorem Evt.same {F G : Nat → Option Bool} (hg : Evt G) (h : ∀ k, F k = G k) : Evt F := by
  obtain ⟨K, hK⟩ := hg
  exact ⟨K, fun k hk => by rw [h]; exact hK k hk⟩
theorem Evt.true : Evt (fun _ => some Bool.true) := ⟨0, fun _ _ => rfl⟩

end Go.Proofs.Ytbnfejaeekljcaa.Sp
