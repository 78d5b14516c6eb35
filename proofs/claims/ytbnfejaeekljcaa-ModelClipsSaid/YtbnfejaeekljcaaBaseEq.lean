/- Two arrays of whole numbers held against each other: as their numbers are. Over any program. -/
import Derived.WalkKit
import Derived.ChangeKeysEq
namespace Go.Proofs.Ytbnfejaeekljcaa.Sp
open Go
variable {P : Program}
theorem run_eqItems_ints {e : TypeId} {k : IntKind} (he : P.underlying e = some (.int k)) (hp : P.plainKey e = true) (hc : P.cellsOf e = 1) (xs ys : List Int) (w : World) (d : Nat) :
    ∀ is : List Nat, (∀ i ∈ is, i < xs.length ∧ i < ys.length) →
    (Op.eqItems (d + 1) e (P.cellsOf e) (xs.map (Value.int k)).toArray (ys.map (Value.int k)).toArray is).run P w = .ok (is.all fun i => xs[i]?.getD 0 == ys[i]?.getD 0) w
  | [], _ => by simp [Op.eqItems]
  | i :: is, h => by
    obtain ⟨h1, h2⟩ := h i (by simp)
    have ih := run_eqItems_ints he hp hc xs ys w d is (fun j hj => h j (by simp [hj]))
    have p1 : (part e (xs.map (Value.int k)).toArray (i * P.cellsOf e)).run P w = .ok (.int k (xs[i]?.getD 0)) w :=
      run_part_plain w hp (by simp [hc, List.getElem?_eq_getElem h1])
    have p2 : (part e (ys.map (Value.int k)).toArray (i * P.cellsOf e)).run P w = .ok (.int k (ys[i]?.getD 0)) w :=
      run_part_plain w hp (by simp [hc, List.getElem?_eq_getElem h2])
    have p3 := run_equalIn_int (P := P) w d e k k (xs[i]?.getD 0) (ys[i]?.getD 0) he
    simp only [Op.eqItems, Sem.run_bind, p1, p2, p3, Result.andThen_ok, List.all_cons]
    cases hb : (xs[i]?.getD 0 == ys[i]?.getD 0)
    · simp
    · simpa [hb] using ih
theorem run_eq_arr {t e : TypeId} {k : IntKind} {i : TypeInfo} {n : Nat} (hu : P.underlying t = some (.array n e)) (hi : P.info? e = some i) (he : P.underlying e = some (.int k)) (hp : P.plainKey e = true) (hc : P.cellsOf e = 1)
    (xs ys : List Int) (h1 : xs.length = n) (h2 : ys.length = n) (w : World) :
    (Op.equalIn 10000 t (.agg (xs.map (Value.int k)).toArray) (.agg (ys.map (Value.int k)).toArray)).run P w = .ok ((List.range n).all fun i => xs[i]?.getD 0 == ys[i]?.getD 0) w := by
  rw [show 10000 = 9998 + 1 + 1 from rfl, run_equalIn_array w (9998 + 1) _ _ hu hi]
  exact run_eqItems_ints he hp hc xs ys w 9998 _ (by simp [h1, h2])
theorem run_eq_arr2 {t e : TypeId} {k : IntKind} {i : TypeInfo} (hu : P.underlying t = some (.array 2 e)) (hi : P.info? e = some i) (he : P.underlying e = some (.int k)) (hp : P.plainKey e = true) (hc : P.cellsOf e = 1) (a b c d : Int) (w : World) :
    (Op.equalIn 10000 t (.agg #[.int k a, .int k b]) (.agg #[.int k c, .int k d])).run P w = .ok (a == c && b == d) w := by
  simpa [List.range, List.range.loop] using run_eq_arr hu hi he hp hc [a, b] [c, d] rfl rfl w
theorem run_eq_arr3 {t e : TypeId} {k : IntKind} {i : TypeInfo} (hu : P.underlying t = some (.array 3 e)) (hi : P.info? e = some i) (he : P.underlying e = some (.int k)) (hp : P.plainKey e = true) (hc : P.cellsOf e = 1) (a b c a' b' c' : Int) (w : World) :
    (Op.equalIn 10000 t (.agg #[.int k a, .int k b, .int k c]) (.agg #[.int k a', .int k b', .int k c'])).run P w = .ok (a == a' && (b == b' && c == c')) w := by
  simpa [List.range, List.range.loop] using run_eq_arr hu hi he hp hc [a, b, c] [a', b', c'] rfl rfl w
theorem run_eq_arr4 {t e : TypeId} {k : IntKind} {i : TypeInfo} (hu : P.underlying t = some (.array 4 e)) (hi : P.info? e = some i) (he : P.underlying e = some (.int k)) (hp : P.plainKey e = true) (hc : P.cellsOf e = 1) (a b c d a' b' c' d' : Int) (w : World) :
    (Op.equalIn 10000 t (.agg #[.int k a, .int k b, .int k c, .int k d]) (.agg #[.int k a', .int k b', .int k c', .int k d'])).run P w = .ok (a == a' && (b == b' && (c == c' && d == d'))) w := by
  simpa [List.range, List.range.loop] using run_eq_arr hu hi he hp hc [a, b, c, d] [a', b', c', d'] rfl rfl w
end Go.Proofs.Ytbnfejaeekljcaa.Sp
