/- QuantPresses: any vector pressed, by any seed, any loosened, and whether any is pressed so, are the document's; the vector stays as it was. -/
import Derived.Test.YtkfhdpnfcaghbaaHQx18
import Derived.Test.YtkfhdpnfcaghbaaPVec
import Derived.Test.YtkfhdpnfcaghbaaPEv
namespace Go.Proofs.Ytkfhdpnfcaghbaa.Pure
open Go.RowKit Go.Proofs.Ytkfhdpnfcaghbaa.HQ Go.Proofs.YtkfhdpnfcaghbaaW.PrintWords Go.Proofs.YtkfhdpnfcaghbaaW.PrintLast Go.Proofs.YtkfhdpnfcaghbaaW.PrintMore Go.Proofs.Ytkfhdpnfcaghbaa.Sp
set_option linter.unusedVariables false
set_option linter.unusedSimpArgs false
/-! ### what is drawn -/
def withN (s n : Int) : Int := Go.bits .xor .u64 (IntKind.u64.wrap ((Go.bits .xor .u64 s (IntKind.u64.wrap n)) * 11400714819323198485)) ((IntKind.u64.wrap ((Go.bits .xor .u64 s (IntKind.u64.wrap n)) * 11400714819323198485)) / 536870912)
def endN (s : Int) : Int := Go.bits .xor .u64 (IntKind.u64.wrap (s * 13787848793156543929)) ((IntKind.u64.wrap (s * 13787848793156543929)) / 4294967296)
def atN (seed : Int) (n : List Int) : Int := endN (n.foldl withN seed)
theorem over_l0 (l : List Int) (hl : l.length ≤ 4611686018427387904) : ∀ (d i : Nat) (s : Int) (K : Nat), d + i = l.length → d + 1 ≤ K → draw_over.l0 K s l (l.length : Int) (i : Int) = some ((l.drop i).foldl withN s) := by
  intro d
  induction d with
  | zero =>
    intro i s K hd hK
    obtain ⟨k, rfl⟩ : ∃ k, K = k + 1 := ⟨K - 1, by omega⟩
    rw [draw_over.l0, if_neg (by omega), List.drop_eq_nil_of_le (by omega)]
    rfl
  | succ d ih =>
    intro i s K hd hK
    obtain ⟨k, rfl⟩ : ∃ k, K = k + 1 := ⟨K - 1, by omega⟩
    have hi : i < l.length := by omega
    rw [draw_over.l0, if_pos (by omega), if_pos (by omega), if_pos (by omega), rd_nat hi, show draw_stir_with.f s l[i] = some (withN s l[i]) from rfl, Option.bind_some, wrap64_of (by unfold I64; omega), show (i : Int) + 1 = ((i + 1 : Nat) : Int) by omega, ih (i + 1) _ k (by omega) (by omega), List.drop_eq_getElem_cons hi, List.foldl_cons]
theorem at_is (seed : Int) (l : List Int) (hl : l.length ≤ 4611686018427387904) (K : Nat) (hK : l.length + 1 ≤ K) : draw_At.f K seed l = some (atN seed l) := by
  unfold draw_At.f draw_over.f
  have h := over_l0 l hl l.length 0 seed K (by omega) hK
  rw [List.drop_zero, show ((0 : Nat) : Int) = 0 from rfl] at h
  rw [h, Option.bind_some, show draw_stir_end.f (l.foldl withN seed) = some (endN (l.foldl withN seed)) from rfl, Option.bind_some]
  rfl
def chN (b S seed : Int) (l : List Int) : Bool := decide (Int.tmod (atN seed l) S < b)
theorem chance_is (b S seed : Int) (l : List Int) (hb : b ≤ S) (hS : S ≠ 0) (hl : l.length ≤ 4611686018427387904) (K : Nat) (hK : l.length + 1 ≤ K) : draw_Chance.f K b S seed l = some (chN b S seed l, 0) := by
  unfold draw_Chance.f draw_Below.f
  rw [if_neg (by omega), if_neg hS, at_is seed l hl K hK, Option.bind_some, Option.bind_some, if_pos rfl]
  rfl
/-! ### what is pressed -/
def upQ (S w seed : Int) (n : List Int) (x : Int) (i : Nat) : Int :=
  if (levelF x S w).2.1 > 0 ∧ chN (levelF x S w).2.1 S seed (n ++ [(i : Int)]) = true then (levelF x S w).1 + 1 else (levelF x S w).1
def levQ (S w seed : Int) (n v : List Int) : List Int := v.mapIdx fun i x => upQ S w seed n x i
def negQ (v : List Int) : List Bool := v.map fun x => decide (x < 0)
theorem levQ_len (S w seed : Int) (n v : List Int) : (levQ S w seed n v).length = v.length := by simp [levQ]
theorem negQ_len (v : List Int) : (negQ v).length = v.length := by simp [negQ]
theorem levQ_get {S w seed : Int} {n v : List Int} {i : Nat} (h : i < v.length) : (levQ S w seed n v)[i]'(by rw [levQ_len]; exact h) = upQ S w seed n v[i] i := by simp [levQ]
theorem negQ_get {v : List Int} {i : Nat} (h : i < v.length) : (negQ v)[i]'(by rw [negQ_len]; exact h) = decide (v[i] < 0) := by simp [negQ]
theorem rdb_nat {l : List Bool} {i : Nat} (h : i < l.length) : rdOf false l (i : Int) = l[i] := by
  unfold rdOf; rw [Int.toNat_natCast, List.getD_eq_getElem?_getD, List.getElem?_eq_getElem h, Option.getD_some]
theorem rd_lev {S w seed : Int} {n v : List Int} {i : Nat} (h : i < v.length) : rd (levQ S w seed n v) (i : Int) = upQ S w seed n v[i] i := by
  rw [rd_nat (by rw [levQ_len]; exact h), levQ_get h]
theorem rd_neg {v : List Int} {i : Nat} (h : i < v.length) : rdOf false (negQ v) (i : Int) = decide (v[i] < 0) := by
  rw [rdb_nat (by rw [negQ_len]; exact h), negQ_get h]
/-- What is known of a level and its rest. -/
structure Lev (x S w : Int) : Prop where
  err : (levelF x S w).2.2 = 0
  a0 : 0 ≤ (levelF x S w).1
  a1 : (levelF x S w).1 ≤ topF w
  b0 : 0 ≤ (levelF x S w).2.1
  b1 : (levelF x S w).2.1 > 0 → (levelF x S w).1 + 1 ≤ topF w ∧ (levelF x S w).2.1 < S
  eq : S ≠ 0 → (levelF x S w).1 * S + (levelF x S w).2.1 = absN x * topF w ∧ (levelF x S w).2.1 < S
  nul : S = 0 → (levelF x S w).1 = 0 ∧ (levelF x S w).2.1 = 0
theorem lev_of {x S w : Int} (hw : ¬ badW w) (h : absN x ≤ S) : Lev x S w := by
  obtain ⟨t1, t2⟩ := topF_pos hw
  have ha : 0 ≤ absN x := by unfold absN; omega
  have hl : levelF x S w = if S = 0 then (0, 0, 0) else (absN x * topF w / S, absN x * topF w % S, 0) := by
    unfold levelF
    rw [if_neg (fun e => e.elim hw (fun e => by omega))]
  by_cases c : S = 0
  · rw [if_pos c] at hl
    constructor <;> rw [hl] <;> dsimp only <;> omega
  · rw [if_neg c] at hl
    have r0 := Int.emod_nonneg (absN x * topF w) c
    have r1 := Int.emod_lt_of_pos (absN x * topF w) (show 0 < S by omega)
    have p0 : 0 ≤ absN x * topF w := Int.mul_nonneg ha (by omega)
    have p2 := Int.emod_add_mul_ediv (absN x * topF w) S
    have p3 : 0 ≤ absN x * topF w / S := Int.ediv_nonneg p0 (by omega)
    obtain ⟨q0, q1⟩ := level_bd (a := absN x) (s := S) (t := topF w) ha h (by omega) (by omega)
    have p5 : absN x * topF w / S * S = S * (absN x * topF w / S) := Int.mul_comm _ _
    have hs : absN x * topF w ≤ S * topF w := Int.mul_le_mul_of_nonneg_right h (by omega)
    have hlt : absN x * topF w % S > 0 → absN x * topF w / S + 1 ≤ topF w := by
      intro hb
      apply Classical.byContradiction
      intro hc
      have e : absN x * topF w / S = topF w := by omega
      rw [e] at p2
      omega
    constructor <;> rw [hl] <;> dsimp only
    · exact p3
    · exact q1
    · exact r0
    · exact fun hb => ⟨hlt hb, r1⟩
    · exact fun _ => ⟨by omega, r1⟩
    · exact fun e => absurd e c
theorem upQ_bd {x S w : Int} (L : Lev x S w) (seed : Int) (n : List Int) (i : Nat) : 0 ≤ upQ S w seed n x i ∧ upQ S w seed n x i ≤ topF w := by
  have h0 := L.a0
  have h1 := L.a1
  unfold upQ
  split
  · rename_i c; have := (L.b1 c.1).1; omega
  · omega
theorem take_set_of {α : Type} {l Q : List α} {i : Nat} {u : α} (hl : l.length = Q.length) (hi : i < Q.length) (h : l.take i = Q.take i) (hu : Q[i] = u) : (l.set i u).take (i + 1) = Q.take (i + 1) := by
  rw [List.take_add_one, List.getElem?_set_self (by omega), List.take_set_of_le (Nat.le_refl _), h, List.take_add_one, List.getElem?_eq_getElem hi, hu]
theorem press_l0 (v n : List Int) (S w seed : Int) (hv : ∀ x ∈ v, absN x ≤ S ∧ I64 x) (hS : 0 ≤ S ∧ I64 S) (hw : ¬ badW w) (hl : v.length ≤ 8192) (hn : n.length ≤ 50) : ∀ (d i : Nat) (lev : List Int) (neg : List Bool) (K : Nat), d + i = v.length → d + n.length + 5 ≤ K → lev.length = v.length → neg.length = v.length → lev.take i = (levQ S w seed n v).take i → neg.take i = (negQ v).take i →
    quant_Press.l0 K w seed n S v (v.length : Int) (i : Int) 2 (v.length : Int) S w lev neg = some (2, (v.length : Int), [], [], S, w, levQ S w seed n v, negQ v, 0) := by
  intro d
  induction d with
  | zero =>
    intro i lev neg K hd hK h1 h2 h3 h4
    obtain ⟨k, rfl⟩ : ∃ k, K = k + 1 := ⟨K - 1, by omega⟩
    rw [List.take_of_length_le (by omega), List.take_of_length_le (by rw [levQ_len]; omega)] at h3
    rw [List.take_of_length_le (by omega), List.take_of_length_le (by rw [negQ_len]; omega)] at h4
    rw [quant_Press.l0, if_neg (by omega), h3, h4]
  | succ d ih =>
    intro i lev neg K hd hK h1 h2 h3 h4
    obtain ⟨k, rfl⟩ : ∃ k, K = k + 1 := ⟨K - 1, by omega⟩
    have hi : i < v.length := by omega
    obtain ⟨hx, hxi⟩ := hv _ (List.getElem_mem hi)
    have L := lev_of hw hx
    have hSi := hS.2
    unfold I64 at hSi
    have hu := upQ_bd L seed n i
    obtain ⟨t1, t2⟩ := topF_pos hw
    have hneg := take_set_of (l := neg) (Q := negQ v) (i := i) (u := decide (v[i] < 0)) (by rw [negQ_len]; exact h2) (by rw [negQ_len]; exact hi) h4 (negQ_get hi)
    have hlev := take_set_of (l := lev) (Q := levQ S w seed n v) (i := i) (u := upQ S w seed n v[i] i) (by rw [levQ_len]; exact h1) (by rw [levQ_len]; exact hi) h3 (levQ_get hi)
    have hgo : ∀ u, u = upQ S w seed n v[i] i → quant_Press.l0 k w seed n S v (v.length : Int) (wrap64 ((i : Int) + 1)) 2 (v.length : Int) S w (lev.set (i : Int).toNat u) (neg.set (i : Int).toNat (decide (v[i] < 0))) = some (2, (v.length : Int), [], [], S, w, levQ S w seed n v, negQ v, 0) := by
      rintro u rfl
      rw [wrap64_of (by unfold I64; omega), show (i : Int) + 1 = ((i + 1 : Nat) : Int) by omega, Int.toNat_natCast]
      exact ih (i + 1) _ _ k (by omega) (by omega) (by rw [List.length_set]; exact h1) (by rw [List.length_set]; exact h2) hlev hneg
    rw [quant_Press.l0, if_pos (by omega), if_pos (by omega), if_pos (by omega), rd_nat hi, quant_Level.of _ _ _ ⟨hxi, hS.2⟩, Option.bind_some, if_pos L.err]
    by_cases cb : (levelF v[i] S w).2.1 > 0
    · obtain ⟨q1, q2⟩ := L.b1 cb
      have hb0 := L.b0
      have ha0 := L.a0
      rw [if_pos cb, slices_Clone_int_int.of _ (by omega), Option.bind_some, if_pos (by omega), show IntKind.u64.wrap S = S from by rw [wu]; omega, chance_is _ _ _ _ (by omega) (by omega) (by rw [List.length_append, List.length_singleton]; omega) k (by rw [List.length_append, List.length_singleton]; omega), Option.bind_some, if_pos rfl]
      by_cases cc : chN (levelF v[i] S w).2.1 S seed (n ++ [(i : Int)]) = true
      · rw [if_pos cc, if_pos (by omega), if_pos (by omega)]
        exact hgo _ (by unfold upQ; rw [if_pos ⟨cb, cc⟩, wu]; omega)
      · rw [if_neg cc, if_pos (by omega), if_pos (by omega)]
        exact hgo _ (by unfold upQ; rw [if_neg (fun e => cc e.2)])
    · rw [if_neg cb, if_pos (by omega), if_pos (by omega)]
      exact hgo _ (by unfold upQ; rw [if_neg (fun e => cb e.1)])
theorem most_ok {v : List Int} (hv : V64 v) (h : (mostV v).2 = 0) : v.length ≤ 4096 ∧ (0 ≤ (mostV v).1 ∧ I64 (mostV v).1) ∧ (∀ x ∈ v, absN x ≤ (mostV v).1 ∧ I64 x) := by
  have hi := mostV_i64 hv
  unfold mostV at h hi ⊢
  by_cases c : checkE v = 0
  · rw [if_pos c] at h hi ⊢
    obtain ⟨-, h1, h2, -⟩ := mostGo_ok v 0 h
    refine ⟨?_, ⟨h1, hi⟩, fun x hx => ⟨h2 x hx, hv x hx⟩⟩
    unfold checkE at c
    split at c
    · cases c
    · omega
  · rw [if_neg c] at h; exact absurd h c
def pressQ (v : List Int) (w seed : Int) (n : List Int) : Int × Int × List Int × List Int × Int × Int × List Int × List Bool × Int :=
  if badW w ∨ v.length = 0 then (0, 0, [], [], 0, 0, [], [], 1) else if (mostV v).2 = 0 then (2, (v.length : Int), [], [], (mostV v).1, w, levQ (mostV v).1 w seed n v, negQ v, 0) else (0, 0, [], [], 0, 0, [], [], (mostV v).2)
theorem press_is (v n : List Int) (w seed : Int) (hv : V64 v) (hl : v.length ≤ 8192) (hn : n.length ≤ 50) (K : Nat) (hK : v.length + n.length + 10 ≤ K) : quant_Press.f K v w seed n = some (pressQ v w seed n) := by
  obtain ⟨k, rfl⟩ : ∃ k, K = k + 1 := ⟨K - 1, by omega⟩
  by_cases cw : badW w
  · have e : pressQ v w seed n = (0, 0, [], [], 0, 0, [], [], 1) := if_pos (.inl cw)
    have es : quant_Steps.f w = some (0, 1) := by unfold quant_Steps.f stepsF; rw [if_pos cw]
    rw [e]
    unfold quant_Press.f
    rw [es, Option.bind_some, if_neg (by decide), quant_Press.j0, if_pos rfl]
  · have es : quant_Steps.f w = some (topF w, 0) := by unfold quant_Steps.f stepsF; rw [if_neg cw]
    by_cases c0 : v.length = 0
    · have e : pressQ v w seed n = (0, 0, [], [], 0, 0, [], [], 1) := if_pos (.inr c0)
      rw [e]
      unfold quant_Press.f
      rw [es, Option.bind_some, if_pos rfl, show ((v.length : Int) == 0) = true from beq_iff_eq.2 (by omega), quant_Press.j0, if_pos rfl]
    · have e : pressQ v w seed n = if (mostV v).2 = 0 then (2, (v.length : Int), [], [], (mostV v).1, w, levQ (mostV v).1 w seed n v, negQ v, 0) else (0, 0, [], [], 0, 0, [], [], (mostV v).2) := if_neg (fun h => h.elim cw c0)
      rw [e]
      unfold quant_Press.f
      rw [es, Option.bind_some, if_pos rfl, show ((v.length : Int) == 0) = false from beq_eq_false_iff_ne.2 (by omega), quant_Press.j0, if_neg (by decide), vec_Most.of _ hv, Option.bind_some]
      by_cases cm : (mostV v).2 = 0
      · obtain ⟨m1, m2, m3⟩ := most_ok hv cm
        rw [if_pos cm, if_pos cm, if_pos (by omega), if_pos (by omega), if_pos (by omega), Int.toNat_natCast]
        have h := press_l0 v n (mostV v).1 w seed m3 m2 cw hl hn v.length 0 (List.replicate v.length 0) (List.replicate v.length false) k (by omega) (by omega) (by simp) (by simp) (by simp) (by simp)
        exact h
      · rw [if_neg cm, if_neg cm]
theorem pressQ_ok {v : List Int} {w seed : Int} {n : List Int} (h : (pressQ v w seed n).2.2.2.2.2.2.2.2 = 0) : ¬ badW w ∧ v.length ≠ 0 ∧ (mostV v).2 = 0 ∧ pressQ v w seed n = (2, (v.length : Int), [], [], (mostV v).1, w, levQ (mostV v).1 w seed n v, negQ v, 0) := by
  unfold pressQ at h ⊢
  by_cases c : badW w ∨ v.length = 0
  · rw [if_pos c] at h; cases h
  · rw [if_neg c] at h ⊢
    by_cases cm : (mostV v).2 = 0
    · exact ⟨fun e => c (.inl e), fun e => c (.inr e), cm, if_pos cm⟩
    · rw [if_neg cm] at h; exact absurd h cm
/-! ### loosened -/
def looQ (S w : Int) (lev : List Int) (neg : List Bool) : List Int := List.zipWith (fun l g => if g = true then -(S * l / topF w) else S * l / topF w) lev neg
theorem looQ_len {S w : Int} {lev : List Int} {neg : List Bool} (h : neg.length = lev.length) : (looQ S w lev neg).length = lev.length := by unfold looQ; rw [List.length_zipWith]; omega
theorem looQ_get {S w : Int} {lev : List Int} {neg : List Bool} (h : neg.length = lev.length) {i : Nat} (hi : i < lev.length) : (looQ S w lev neg)[i]'(by rw [looQ_len h]; exact hi) = if neg[i] = true then -(S * lev[i] / topF w) else S * lev[i] / topF w := by simp [looQ]
set_option maxHeartbeats 2000000 in
theorem loosen_l0 (S w : Int) (lev : List Int) (neg : List Bool) (hS : 0 ≤ S ∧ I64 S) (hw : ¬ badW w) (hlev : ∀ x ∈ lev, 0 ≤ x ∧ x ≤ topF w) (hlen : neg.length = lev.length) (hb : lev.length ≤ 8192) (a0 a1 : Int) (l2 l3 : List Int) : ∀ (d i : Nat) (out : List Int) (K : Nat), d + i = lev.length → d + 1 ≤ K → out.length = lev.length → out.take i = (looQ S w lev neg).take i →
    quant_Loosen.l0 K out lev (lev.length : Int) (i : Int) a0 a1 l2 l3 S w lev neg = some (looQ S w lev neg, 0) := by
  intro d
  induction d with
  | zero =>
    intro i out K hd hK h1 h2
    obtain ⟨k, rfl⟩ : ∃ k, K = k + 1 := ⟨K - 1, by omega⟩
    rw [List.take_of_length_le (by omega), List.take_of_length_le (by rw [looQ_len hlen]; omega)] at h2
    rw [quant_Loosen.l0, if_neg (by omega), h2]
  | succ d ih =>
    intro i out K hd hK h1 h2
    obtain ⟨k, rfl⟩ : ∃ k, K = k + 1 := ⟨K - 1, by omega⟩
    have hi : i < lev.length := by omega
    have e1 : d + (i + 1) = lev.length := by omega
    have e2 : d + 1 ≤ k := by omega
    have hql : i < (looQ S w lev neg).length := by rw [looQ_len hlen]; exact hi
    have p0 : (0 : Int) ≤ (i : Int) := Int.natCast_nonneg i
    have p1 : (i : Int) < (lev.length : Int) := Int.ofNat_lt.2 hi
    have p2 : (i : Int) < (out.length : Int) := by rw [h1]; exact p1
    have p3 : (i : Int) < (neg.length : Int) := by rw [hlen]; exact p1
    have p4 : i < neg.length := by rw [hlen]; exact hi
    have p5 : ∀ u : Int, (i : Int) < ((out.set i u).length : Int) := by intro u; rw [List.length_set, h1]; exact p1
    have ew : wrap64 ((i : Int) + 1) = ((i + 1 : Nat) : Int) := by rw [wrap64_of (by unfold I64; omega)]; omega
    obtain ⟨x0, x1⟩ := hlev _ (List.getElem_mem hi)
    obtain ⟨t1, t2⟩ := topF_pos hw
    have hSi := hS.2
    unfold I64 at hSi
    have hv : valueF lev[i] S w = (S * lev[i] / topF w, 0) := by
      unfold valueF
      rw [if_neg (fun e => e.elim hw (fun e => by omega))]
    obtain ⟨y0, y1⟩ := value_bd (l := lev[i]) (t := topF w) (s := S) x0 x1 hS.1 (by omega)
    have hgo : ∀ u : Int, u = (looQ S w lev neg)[i] → quant_Loosen.l0 k (out.set i u) lev (lev.length : Int) ((i + 1 : Nat) : Int) a0 a1 l2 l3 S w lev neg = some (looQ S w lev neg, 0) := by
      intro u hu
      exact ih (i + 1) (out.set i u) k e1 e2 (by rw [List.length_set]; exact h1) (take_set_of (by rw [looQ_len hlen]; exact h1) (by rw [looQ_len hlen]; exact hi) h2 hu.symm)
    have hU : U64 lev[i] := by unfold U64; clear y0 y1 hv; omega
    have hn : wrap64 (-(S * lev[i] / topF w)) = -(S * lev[i] / topF w) := wrap64_of (by
      generalize S * lev[i] / topF w = z at y0 y1
      clear hv hgo ih; unfold I64; omega)
    rw [quant_Loosen.l0, if_pos p1, if_pos p0, if_pos p1, rd_nat hi, quant_Value.of _ _ _ ⟨hU, hS.2⟩, Option.bind_some, hv, if_pos rfl, if_pos p2, Option.bind_some, if_pos p3, rdb_nat p4, Int.toNat_natCast, ew]
    by_cases g : neg[i] = true
    · rw [if_pos g, List.set_set]
      exact hgo _ (by rw [looQ_get hlen hi, if_pos g]; exact hn)
    · rw [if_neg g]
      exact hgo _ (by rw [looQ_get hlen hi, if_neg g])
theorem lev_mem {S w seed : Int} {n v : List Int} (hw : ¬ badW w) (hv : ∀ x ∈ v, absN x ≤ S ∧ I64 x) : ∀ y ∈ levQ S w seed n v, 0 ≤ y ∧ y ≤ topF w := by
  intro y hy
  obtain ⟨i, hi, rfl⟩ := List.mem_iff_getElem.1 hy
  rw [levQ_len] at hi
  rw [levQ_get hi]
  exact upQ_bd (lev_of hw (hv _ (List.getElem_mem hi)).1) seed n i
theorem lev_u64 {w : Int} (hw : ¬ badW w) {l : List Int} (h : ∀ y ∈ l, 0 ≤ y ∧ y ≤ topF w) : U64L l := by
  intro y hy
  have h1 := h y hy
  have h2 := (topF_pos hw).2
  unfold U64; omega
theorem may_pressed {S w : Int} {lev : List Int} {neg : List Bool} (hw : ¬ badW w) (hS : 0 ≤ S) (hlev : ∀ y ∈ lev, 0 ≤ y ∧ y ≤ topF w) (hlen : neg.length = lev.length) (h0 : lev.length ≠ 0) (h1 : lev.length ≤ 4096) : MayP 2 (lev.length : Int) [] [] S w lev neg := by
  have hw2 := hw
  unfold badW at hw2
  refine ⟨⟨by omega, by omega⟩, .inr (.inr (.inl ⟨rfl, ⟨by omega, by omega⟩, rfl, fun y hy => ?_, rfl, rfl, hS, by omega⟩))⟩
  have h2 := hlev y hy
  unfold topF at h2
  have e : ((2 ^ w.toNat : Nat) : Int) = 2 ^ w.toNat := by push_cast; rfl
  have := bl_le (x := y.toNat) (k := w.toNat) (by omega)
  omega
theorem loosen_is {S w : Int} {lev : List Int} {neg : List Bool} (hw : ¬ badW w) (hS : 0 ≤ S ∧ I64 S) (hlev : ∀ y ∈ lev, 0 ≤ y ∧ y ≤ topF w) (hlen : neg.length = lev.length) (h0 : lev.length ≠ 0) (h1 : lev.length ≤ 4096) (K : Nat) (hK : lev.length + 3 ≤ K) :
    quant_Loosen.f K 2 (lev.length : Int) [] [] S w lev neg = some (looQ S w lev neg, 0) := by
  obtain ⟨k, rfl⟩ : ∃ k, K = k + 1 := ⟨K - 1, by omega⟩
  unfold quant_Loosen.f
  rw [frame_May.of _ _ _ _ _ _ _ _ (lev_u64 hw hlev), decide_eq_true (may_pressed hw hS.1 hlev hlen h0 h1), Option.bind_some, if_pos rfl, show ((2 : Int) != 2) = false from rfl, quant_Loosen.j0, if_neg (by decide), if_pos (by omega), if_pos (by omega), Int.toNat_natCast]
  exact loosen_l0 S w lev neg hS hw hlev hlen (by omega) 2 (lev.length : Int) [] [] lev.length 0 (List.replicate lev.length 0) k (by omega) (by omega) (by simp) (by simp)
/-! ### the document's press -/
theorem take_next {α : Type} {Q : List α} {i : Nat} {u : α} (hi : i < Q.length) (hu : Q[i] = u) : Q.take i ++ [u] = Q.take (i + 1) := by
  rw [List.take_add_one, List.getElem?_eq_getElem hi, hu]; rfl
theorem ref_at (l : List Int) (hl : l.length ≤ 4611686018427387904) : ∀ (d i : Nat) (s : Int) (K : Nat), d + i = l.length → d + 1 ≤ K → thrumref08_At.l0 K s l (l.length : Int) (i : Int) = some (endN ((l.drop i).foldl withN s)) := by
  intro d
  induction d with
  | zero =>
    intro i s K hd hK
    obtain ⟨k, rfl⟩ : ∃ k, K = k + 1 := ⟨K - 1, by omega⟩
    rw [thrumref08_At.l0, if_neg (by omega), List.drop_eq_nil_of_le (by omega)]
    rfl
  | succ d ih =>
    intro i s K hd hK
    obtain ⟨k, rfl⟩ : ∃ k, K = k + 1 := ⟨K - 1, by omega⟩
    have hi : i < l.length := by omega
    have ew : wrap64 ((i : Int) + 1) = ((i + 1 : Nat) : Int) := by rw [wrap64_of (by unfold I64; omega)]; omega
    rw [thrumref08_At.l0, if_pos (by omega), if_pos (by omega), if_pos (by omega), rd_nat hi, ew, ih (i + 1) _ k (by omega) (by omega), List.drop_eq_getElem_cons hi, List.foldl_cons]
    rfl
theorem ref_below (S seed : Int) (l : List Int) (hS : S ≠ 0) (hl : l.length ≤ 4611686018427387904) (K : Nat) (hK : l.length + 1 ≤ K) : thrumref08_Below.f K S seed l = some (Int.tmod (atN seed l) S, 0) := by
  unfold thrumref08_Below.f thrumref08_At.f
  have h := ref_at l hl l.length 0 seed K (by omega) hK
  rw [List.drop_zero, show ((0 : Nat) : Int) = 0 from rfl] at h
  rw [if_neg hS, h, Option.bind_some]
  rfl
theorem refp_l0 (v n : List Int) (S w seed : Int) (hv : ∀ x ∈ v, absN x ≤ S ∧ I64 x) (hS : 0 ≤ S ∧ I64 S) (hw : ¬ badW w) (hl : v.length ≤ 8192) (hn : n.length ≤ 50) : ∀ (d i : Nat) (K : Nat), d + i = v.length → d + n.length + 5 ≤ K →
    thrumref10_Press.l0 K w seed n S v (v.length : Int) (i : Int) 2 (v.length : Int) S w ((levQ S w seed n v).take i) ((negQ v).take i) = some (2, (v.length : Int), [], [], S, w, levQ S w seed n v, negQ v, 0) := by
  intro d
  induction d with
  | zero =>
    intro i K hd hK
    obtain ⟨k, rfl⟩ : ∃ k, K = k + 1 := ⟨K - 1, by omega⟩
    rw [thrumref10_Press.l0, if_neg (by omega), List.take_of_length_le (by rw [levQ_len]; omega), List.take_of_length_le (by rw [negQ_len]; omega)]
  | succ d ih =>
    intro i K hd hK
    obtain ⟨k, rfl⟩ : ∃ k, K = k + 1 := ⟨K - 1, by omega⟩
    have hi : i < v.length := by omega
    have p0 : (0 : Int) ≤ (i : Int) := Int.natCast_nonneg i
    have p1 : (i : Int) < (v.length : Int) := Int.ofNat_lt.2 hi
    have n1 : ([] : List Int).length + n.length < 17592186044416 := by rw [List.length_nil]; omega
    have n2 : n.length < 17592186044416 := by omega
    have q1 : ((levQ S w seed n v).take i).length < 17592186044416 := by rw [List.length_take]; omega
    have q2 : ((negQ v).take i).length < 140737488355328 := by rw [List.length_take]; omega
    have hn1 : (n ++ [(i : Int)]).length ≤ 4611686018427387904 := by rw [List.length_append, List.length_singleton]; omega
    have hn2 : (n ++ [(i : Int)]).length + 1 ≤ k := by rw [List.length_append, List.length_singleton]; omega
    have ew : wrap64 ((i : Int) + 1) = ((i + 1 : Nat) : Int) := by rw [wrap64_of (by unfold I64; omega)]; omega
    have hnext := ih (i + 1) k (by omega) (by omega)
    obtain ⟨hx, hxi⟩ := hv _ (List.getElem_mem hi)
    have L := lev_of hw hx
    have hSi := hS.2
    unfold I64 at hSi
    obtain ⟨t1, t2⟩ := topF_pos hw
    have hneg := take_next (Q := negQ v) (i := i) (u := decide (v[i] < 0)) (by rw [negQ_len]; exact hi) (negQ_get hi)
    have hlev := take_next (Q := levQ S w seed n v) (i := i) (u := upQ S w seed n v[i] i) (by rw [levQ_len]; exact hi) (levQ_get hi)
    have hgo : ∀ u, u = upQ S w seed n v[i] i → thrumref10_Press.l0 k w seed n S v (v.length : Int) (wrap64 ((i : Int) + 1)) 2 (v.length : Int) S w ((levQ S w seed n v).take i ++ [u]) ((negQ v).take i ++ [decide (v[i] < 0)]) = some (2, (v.length : Int), [], [], S, w, levQ S w seed n v, negQ v, 0) := by
      intro u hu
      rw [hu, hneg, hlev, ew]
      exact hnext
    have eS : IntKind.u64.wrap S = S := by rw [wu]; omega
    have hLv : thrumref10_Level.f v[i] S w = some (levelF v[i] S w) := if_pos ⟨hxi, hS.2⟩
    rw [thrumref10_Press.l0, if_pos p1, if_pos p0, if_pos p1, rd_nat hi, hLv, Option.bind_some]
    by_cases cb : (levelF v[i] S w).2.1 > 0
    · obtain ⟨b1, b2⟩ := L.b1 cb
      have hb0 := L.b0
      have ha0 := L.a0
      have hS0 : S ≠ 0 := by omega
      rw [if_pos cb, if_pos n1, List.nil_append, Option.bind_some, if_pos n2, eS, ref_below S seed _ hS0 hn1 k hn2, Option.bind_some]
      by_cases cc : Int.tmod (atN seed (n ++ [(i : Int)])) S < (levelF v[i] S w).2.1
      · have cc2 : chN (levelF v[i] S w).2.1 S seed (n ++ [(i : Int)]) = true := decide_eq_true cc
        rw [if_pos cc, if_pos q1, if_pos q2]
        exact hgo _ (by unfold upQ; rw [if_pos ⟨cb, cc2⟩, wu]; omega)
      · have cc2 : ¬ chN (levelF v[i] S w).2.1 S seed (n ++ [(i : Int)]) = true := fun e => cc (of_decide_eq_true e)
        rw [if_neg cc, if_pos q1, if_pos q2]
        exact hgo _ (by unfold upQ; rw [if_neg (fun e => cc2 e.2)])
    · rw [if_neg cb, if_pos q1, if_pos q2]
      exact hgo _ (by unfold upQ; rw [if_neg (fun e => cb e.1)])
theorem refp_is (v n : List Int) (w seed : Int) (hv : V64 v) (hl : v.length ≤ 8192) (hn : n.length ≤ 50) (K : Nat) (hK : v.length + n.length + 10 ≤ K) : thrumref10_Press.f K v w seed n = some (pressQ v w seed n) := by
  obtain ⟨k, rfl⟩ : ∃ k, K = k + 1 := ⟨K - 1, by omega⟩
  by_cases cw : badW w
  · have e : pressQ v w seed n = (0, 0, [], [], 0, 0, [], [], 1) := if_pos (.inl cw)
    have es : thrumref10_Steps.f w = some (0, 1) := by unfold thrumref10_Steps.f stepsF; rw [if_pos cw]
    rw [e]
    unfold thrumref10_Press.f
    rw [es, Option.bind_some, if_neg (by decide), thrumref10_Press.j0, if_pos rfl]
  · have es : thrumref10_Steps.f w = some (topF w, 0) := by unfold thrumref10_Steps.f stepsF; rw [if_neg cw]
    by_cases c0 : v.length = 0
    · have e : pressQ v w seed n = (0, 0, [], [], 0, 0, [], [], 1) := if_pos (.inr c0)
      rw [e]
      unfold thrumref10_Press.f
      rw [es, Option.bind_some, if_pos rfl, show ((v.length : Int) == 0) = true from beq_iff_eq.2 (by omega), thrumref10_Press.j0, if_pos rfl]
    · have e : pressQ v w seed n = if (mostV v).2 = 0 then (2, (v.length : Int), [], [], (mostV v).1, w, levQ (mostV v).1 w seed n v, negQ v, 0) else (0, 0, [], [], 0, 0, [], [], (mostV v).2) := if_neg (fun h => h.elim cw c0)
      have hM : thrumref02_Most.f v = some (mostV v) := if_pos hv
      rw [e]
      unfold thrumref10_Press.f
      rw [es, Option.bind_some, if_pos rfl, show ((v.length : Int) == 0) = false from beq_eq_false_iff_ne.2 (by omega), thrumref10_Press.j0, if_neg (by decide), hM, Option.bind_some]
      by_cases cm : (mostV v).2 = 0
      · obtain ⟨m1, m2, m3⟩ := most_ok hv cm
        rw [if_pos cm, if_pos cm]
        have h := refp_l0 v n (mostV v).1 w seed m3 m2 cw hl hn v.length 0 k (by omega) (by omega)
        rw [List.take_zero, List.take_zero] at h
        exact h
      · rw [if_neg cm, if_neg cm]
/-! ### loosened -/
theorem mayQ {a1 S w : Int} {l2 l3 lev : List Int} {neg : List Bool} (h : MayP 2 a1 l2 l3 S w lev neg) (hu : U64L lev) : ¬ badW w ∧ 0 ≤ S ∧ (∀ y ∈ lev, 0 ≤ y ∧ y ≤ topF w) ∧ neg.length = lev.length ∧ lev.length ≠ 0 ∧ lev.length ≤ 4096 ∧ a1 = (lev.length : Int) ∧ l2 = [] ∧ l3 = [] := by
  obtain ⟨⟨h0, h1⟩, h⟩ := h
  rcases h with h | h | h | h
  · exact absurd h.1 (by decide)
  · exact absurd h.1 (by decide)
  · obtain ⟨-, ⟨w1, w2⟩, hl, hb, e2, e3, hS, hn⟩ := h
    refine ⟨by unfold badW; omega, hS, fun y hy => ?_, by omega, by omega, by omega, hl.symm, e2, e3⟩
    have hy0 := hu y hy
    unfold U64 at hy0
    have h2 := hb y hy
    have h3 := bl_lt y.toNat
    have h4 : 2 ^ bl y.toNat ≤ 2 ^ w.toNat := Nat.pow_le_pow_right (by decide) (by omega)
    have e : ((2 ^ w.toNat : Nat) : Int) = 2 ^ w.toNat := by push_cast; rfl
    unfold topF
    generalize 2 ^ bl y.toNat = p at h3 h4
    generalize (2 : Nat) ^ w.toNat = q at h4 e
    rw [← e]
    omega
  · exact absurd h.1 (by decide)
theorem loosen_any {a0 a1 S w : Int} {l2 l3 lev : List Int} {neg : List Bool} (hu : U64L lev) (hS : I64 S) (K : Nat) (hK : lev.length + 3 ≤ K) :
    quant_Loosen.f K a0 a1 l2 l3 S w lev neg = some (if MayP a0 a1 l2 l3 S w lev neg ∧ a0 = 2 then (looQ S w lev neg, 0) else ([], 1)) := by
  obtain ⟨k, rfl⟩ : ∃ k, K = k + 1 := ⟨K - 1, by omega⟩
  by_cases hm : MayP a0 a1 l2 l3 S w lev neg
  · by_cases h2 : a0 = 2
    · subst h2
      rw [if_pos ⟨hm, rfl⟩]
      obtain ⟨hw, hS0, hlev, hlen, h0, h1, rfl, rfl, rfl⟩ := mayQ hm hu
      exact loosen_is hw ⟨hS0, hS⟩ hlev hlen h0 h1 (k + 1) hK
    · rw [if_neg (fun h => h2 h.2)]
      unfold quant_Loosen.f
      rw [frame_May.of _ _ _ _ _ _ _ _ hu, decide_eq_true hm, Option.bind_some, if_pos rfl, show (a0 != 2) = true from bne_iff_ne.2 h2, quant_Loosen.j0, if_pos rfl]
  · rw [if_neg (fun h => hm h.1)]
    unfold quant_Loosen.f
    rw [frame_May.of _ _ _ _ _ _ _ _ hu, decide_eq_false hm, Option.bind_some, if_neg (by decide), quant_Loosen.j0, if_pos rfl]
theorem refl_l0 (S w : Int) (lev : List Int) (neg : List Bool) (hS : 0 ≤ S ∧ I64 S) (hw : ¬ badW w) (hlev : ∀ x ∈ lev, 0 ≤ x ∧ x ≤ topF w) (hlen : neg.length = lev.length) (hb : lev.length ≤ 8192) (a0 a1 : Int) (l2 l3 : List Int) : ∀ (d i : Nat) (K : Nat), d + i = lev.length → d + 1 ≤ K →
    thrumref10_Loosen.l0 K ((looQ S w lev neg).take i) lev (lev.length : Int) (i : Int) a0 a1 l2 l3 S w lev neg = some (looQ S w lev neg, 0) := by
  intro d
  induction d with
  | zero =>
    intro i K hd hK
    obtain ⟨k, rfl⟩ : ∃ k, K = k + 1 := ⟨K - 1, by omega⟩
    rw [thrumref10_Loosen.l0, if_neg (by omega), List.take_of_length_le (by rw [looQ_len hlen]; omega)]
  | succ d ih =>
    intro i K hd hK
    obtain ⟨k, rfl⟩ : ∃ k, K = k + 1 := ⟨K - 1, by omega⟩
    have hi : i < lev.length := by omega
    have p0 : (0 : Int) ≤ (i : Int) := Int.natCast_nonneg i
    have p1 : (i : Int) < (lev.length : Int) := Int.ofNat_lt.2 hi
    have p3 : (i : Int) < (neg.length : Int) := by rw [hlen]; exact p1
    have p4 : i < neg.length := by rw [hlen]; exact hi
    have q1 : ((looQ S w lev neg).take i).length < 17592186044416 := by rw [List.length_take]; omega
    have ew : wrap64 ((i : Int) + 1) = ((i + 1 : Nat) : Int) := by rw [wrap64_of (by unfold I64; omega)]; omega
    have hnext := ih (i + 1) k (by omega) (by omega)
    have hql : i < (looQ S w lev neg).length := by rw [looQ_len hlen]; exact hi
    obtain ⟨x0, x1⟩ := hlev _ (List.getElem_mem hi)
    obtain ⟨t1, t2⟩ := topF_pos hw
    have hSi := hS.2
    unfold I64 at hSi
    have hU : U64 lev[i] := by unfold U64; omega
    have hv : thrumref10_Value.f lev[i] S w = some (S * lev[i] / topF w, 0) := by
      have h1 : thrumref10_Value.f lev[i] S w = some (valueF lev[i] S w) := if_pos ⟨hU, hS.2⟩
      rw [h1]
      unfold valueF
      rw [if_neg (fun e => e.elim hw (fun e => by omega))]
    obtain ⟨y0, y1⟩ := value_bd (l := lev[i]) (t := topF w) (s := S) x0 x1 hS.1 (by omega)
    have hn : wrap64 (-(S * lev[i] / topF w)) = -(S * lev[i] / topF w) := wrap64_of (by
      generalize S * lev[i] / topF w = z at y0 y1
      clear hv hnext ih; unfold I64; omega)
    rw [thrumref10_Loosen.l0, if_pos p1, if_pos p0, if_pos p1, rd_nat hi, hv, Option.bind_some, if_pos p3, rdb_nat p4, ew]
    by_cases g : neg[i] = true
    · rw [if_pos g, if_pos q1, hn, take_next hql (by rw [looQ_get hlen hi, if_pos g])]
      exact hnext
    · rw [if_neg g, if_pos q1, take_next hql (by rw [looQ_get hlen hi, if_neg g])]
      exact hnext
theorem refl_any {a0 a1 S w : Int} {l2 l3 lev : List Int} {neg : List Bool} (hu : U64L lev) (hS : I64 S) (K : Nat) (hK : lev.length + 3 ≤ K) :
    thrumref10_Loosen.f K a0 a1 l2 l3 S w lev neg = some (if MayP a0 a1 l2 l3 S w lev neg ∧ a0 = 2 then (looQ S w lev neg, 0) else ([], 1)) := by
  obtain ⟨k, rfl⟩ : ∃ k, K = k + 1 := ⟨K - 1, by omega⟩
  have hM : thrumref07_May.f a0 a1 l2 l3 S w lev neg = some (decide (MayP a0 a1 l2 l3 S w lev neg)) := if_pos hu
  by_cases hm : MayP a0 a1 l2 l3 S w lev neg
  · rw [decide_eq_true hm] at hM
    by_cases h2 : a0 = 2
    · subst h2
      rw [if_pos ⟨hm, rfl⟩]
      obtain ⟨hw, hS0, hlev, hlen, h0, h1, rfl, rfl, rfl⟩ := mayQ hm hu
      unfold thrumref10_Loosen.f
      rw [hM, Option.bind_some, if_pos rfl, show ((2 : Int) != 2) = false from rfl, thrumref10_Loosen.j0, if_neg (by decide)]
      have h := refl_l0 S w lev neg ⟨hS0, hS⟩ hw hlev hlen (by omega) 2 (lev.length : Int) [] [] lev.length 0 k (by omega) (by omega)
      rw [List.take_zero] at h
      exact h
    · rw [if_neg (fun h => h2 h.2)]
      unfold thrumref10_Loosen.f
      rw [hM, Option.bind_some, if_pos rfl, show (a0 != 2) = true from bne_iff_ne.2 h2, thrumref10_Loosen.j0, if_pos rfl]
  · rw [decide_eq_false hm] at hM
    rw [if_neg (fun h => hm h.1)]
    unfold thrumref10_Loosen.f
    rw [hM, Option.bind_some, if_neg (by decide), thrumref10_Loosen.j0, if_pos rfl]
/-! ### near -/
theorem refn_l0 (v : List Int) (S w : Int) (lev : List Int) (neg : List Bool) (hv : ∀ x ∈ v, absN x ≤ S ∧ I64 x) (hS : I64 S) (hw : ¬ badW w) (hu : U64L lev) (hlev : lev.length = v.length) (hneg : neg.length = v.length) (hl : v.length ≤ 8192) (a0 a1 : Int) (l2 l3 : List Int) : ∀ (d i : Nat) (K : Nat), d + i = v.length → d + 1 ≤ K →
    thrumref10_Near.l0 K S v (v.length : Int) (i : Int) a0 a1 l2 l3 S w lev neg = some (nearGo S w v lev neg d i) := by
  intro d
  induction d with
  | zero =>
    intro i K hd hK
    obtain ⟨k, rfl⟩ : ∃ k, K = k + 1 := ⟨K - 1, by omega⟩
    rw [thrumref10_Near.l0, if_neg (by omega)]
    rfl
  | succ d ih =>
    intro i K hd hK
    obtain ⟨k, rfl⟩ : ∃ k, K = k + 1 := ⟨K - 1, by omega⟩
    have hi : i < v.length := by omega
    have p0 : (0 : Int) ≤ (i : Int) := Int.natCast_nonneg i
    have p1 : (i : Int) < (v.length : Int) := Int.ofNat_lt.2 hi
    have p2 : (i : Int) < (lev.length : Int) := by rw [hlev]; exact p1
    have p3 : (i : Int) < (neg.length : Int) := by rw [hneg]; exact p1
    have hi6 : i < lev.length := by rw [hlev]; exact hi
    have ew : wrap64 ((i : Int) + 1) = ((i + 1 : Nat) : Int) := by rw [wrap64_of (by unfold I64; omega)]; omega
    have hnext := ih (i + 1) k (by omega) (by omega)
    obtain ⟨hx, hxi⟩ := hv _ (List.getElem_mem hi)
    have L := lev_of hw hx
    have a0' := L.a0
    have a1' := L.a1
    obtain ⟨t1, t2⟩ := topF_pos hw
    have hu6 := hu _ (List.getElem_mem hi6)
    have hLv : thrumref10_Level.f v[i] S w = some (levelF v[i] S w) := if_pos ⟨hxi, hS⟩
    have herr := L.err
    rw [thrumref10_Near.l0, if_pos p1, if_pos p0, if_pos p1, rd_nat hi, hLv, Option.bind_some, if_pos p3, if_pos p2, rd_nat hi6, ew, nearGo, rd_nat hi, rd_nat hi6]
    unfold offN
    rw [herr, decide_eq_false (show ¬ ((0 : Int) ≠ 0) from fun h => h rfl), Bool.false_or]
    generalize rdOf false neg (i : Int) = ng
    generalize (levelF v[i] S w).1 = a at *
    generalize (levelF v[i] S w).2.1 = b at *
    generalize lev[i] = y at *
    generalize decide (v[i] < 0) = sg
    unfold U64 at hu6
    by_cases c1 : (ng != sg) = true
    · rw [if_pos c1, c1, Bool.true_or, Bool.true_or, if_pos rfl]
    · have c1f : (ng != sg) = false := Bool.eq_false_iff.2 c1
      rw [if_neg c1, c1f, Bool.false_or]
      have e1 : IntKind.u64.wrap (a + 1) = a + 1 := by rw [wu]; omega
      have e0 := wu (y - a)
      generalize IntKind.u64.wrap (y - a) = z at *
      rw [e1]
      by_cases c2 : y = a
      · have hz : z = 0 := by rw [e0, c2, Int.sub_self]; rfl
        rw [if_pos c2, hz, show decide ((0 : Int) > 1) = false from rfl, show ((0 : Int) == 1) = false from rfl, Bool.false_and, Bool.false_or, if_neg (by decide)]
        exact hnext
      · rw [if_neg c2]
        by_cases c3 : b = 0
        · rw [if_pos c3]
          have hz : z ≠ 0 := by rw [e0]; omega
          have hz0 : 0 ≤ z := by rw [e0]; omega
          rw [show (b == 0) = true from beq_iff_eq.2 c3, Bool.and_true]
          by_cases c4 : z > 1
          · rw [decide_eq_true c4, Bool.true_or, if_pos rfl]
          · have : z = 1 := by omega
            rw [this, show decide ((1 : Int) > 1) = false from rfl, Bool.false_or, show ((1 : Int) == 1) = true from rfl, if_pos rfl]
        · rw [if_neg c3, show (b == 0) = false from beq_eq_false_iff_ne.2 c3, Bool.and_false, Bool.or_false]
          by_cases c4 : y = a + 1
          · have hz : z = 1 := by rw [e0, c4]; omega
            rw [if_pos c4, hz, show decide ((1 : Int) > 1) = false from rfl, if_neg (by decide)]
            exact hnext
          · have hz : z > 1 := by rw [e0]; omega
            rw [if_neg c4, decide_eq_true hz, if_pos rfl]
theorem refn_any {v : List Int} {a0 a1 S w : Int} {l2 l3 lev : List Int} {neg : List Bool} (hv : V64 v) (hl : v.length ≤ 8192) (hu : U64L lev) (hS : I64 S) (K : Nat) (hK : v.length + 3 ≤ K) :
    thrumref10_Near.f K v a0 a1 l2 l3 S w lev neg = quant_Near.f v a0 a1 l2 l3 S w lev neg := by
  obtain ⟨k, rfl⟩ : ∃ k, K = k + 1 := ⟨K - 1, by omega⟩
  have hM : thrumref07_May.f a0 a1 l2 l3 S w lev neg = some (decide (MayP a0 a1 l2 l3 S w lev neg)) := if_pos hu
  have hMo : thrumref02_Most.f v = some (mostV v) := if_pos hv
  have hF : ∀ x : Bool, x = true → thrumref10_Near.j0 (k + 1) v (mostV v).1 x a0 a1 l2 l3 S w lev neg = some false := fun x hx => by rw [thrumref10_Near.j0, if_pos hx]
  unfold thrumref10_Near.f quant_Near.f
  rw [if_pos ⟨hv, hu⟩, hMo, Option.bind_some]
  by_cases c1 : (mostV v).2 = 0
  · rw [if_pos c1, hM, Option.bind_some]
    by_cases c2 : MayP a0 a1 l2 l3 S w lev neg
    · rw [decide_eq_true c2, if_pos rfl]
      by_cases c3 : a0 = 2
      · subst c3
        rw [if_pos rfl]
        by_cases c4 : a1 = (v.length : Int)
        · rw [if_pos c4]
          by_cases c5 : S = (mostV v).1
          · obtain ⟨m1, m2, m3⟩ := most_ok hv c1
            obtain ⟨hw, hS0, hlev, hlen, h0, h1, e1, e2, e3⟩ := mayQ c2 hu
            rw [if_pos ⟨c1, c2, rfl, c4, c5⟩, show (S != (mostV v).1) = false from bne_eq_false_iff_eq.2 c5, thrumref10_Near.j0, if_neg (by decide), ← c5]
            rw [← c5] at m3
            exact refn_l0 v S w lev neg m3 hS hw hu (by omega) (by omega) hl 2 a1 l2 l3 v.length 0 k (by omega) (by omega)
          · rw [if_neg (fun h => c5 h.2.2.2.2), hF _ (bne_iff_ne.2 c5)]
        · rw [if_neg c4, if_neg (fun h => c4 h.2.2.2.1), hF _ rfl]
      · rw [if_neg c3, if_neg (fun h => c3 h.2.2.1), hF _ rfl]
    · rw [decide_eq_false c2, if_neg (by decide), if_neg (fun h => c2 h.2.1), hF _ rfl]
  · rw [if_neg c1, if_neg (fun h => c1 h.1), hF _ rfl]
/-! ### the law -/
theorem same_self (a0 a1 a4 a5 : Int) (l2 l3 l6 : List Int) (l7 : List Bool) : thrumref07_SameSent.f a0 a1 l2 l3 a4 a5 l6 l7 a0 a1 l2 l3 a4 a5 l6 l7 = some true := by
  unfold thrumref07_SameSent.f thrumref06_Equal.f thrumref02_Same.f thrumref03_SameNumbers.f thrumref05_SameSigns.f
  simp
theorem same02 (l : List Int) : thrumref02_Same.f l l = some true := by unfold thrumref02_Same.f; simp
theorem pressQ_wf {v : List Int} {w seed : Int} {n : List Int} (hv : V64 v) : U64L (pressQ v w seed n).2.2.2.2.2.2.1 ∧ I64 (pressQ v w seed n).2.2.2.2.1 ∧ (pressQ v w seed n).2.2.2.2.2.2.1.length ≤ v.length := by
  have h0 : U64L [] ∧ I64 0 ∧ ([] : List Int).length ≤ v.length := ⟨(fun x hx => by cases hx), (by unfold I64; omega), Nat.zero_le _⟩
  by_cases ok : (pressQ v w seed n).2.2.2.2.2.2.2.2 = 0
  · obtain ⟨hw, hl, hm, e⟩ := pressQ_ok ok
    obtain ⟨m1, m2, m3⟩ := most_ok hv hm
    rw [e]
    exact ⟨lev_u64 hw (lev_mem hw m3), m2.2, by rw [levQ_len]; exact Nat.le_refl _⟩
  · unfold pressQ at ok ⊢
    by_cases c : badW w ∨ v.length = 0
    · rw [if_pos c]; exact h0
    · rw [if_neg c] at ok ⊢
      by_cases c2 : (mostV v).2 = 0
      · rw [if_pos c2] at ok; exact absurd rfl ok
      · rw [if_neg c2]; exact h0
theorem presses_j0 {v n lev l2 l3 : List Int} {w seed a0 a1 S sw : Int} {neg : List Bool} (hv : V64 v) (hl : v.length ≤ 5000) (hn : n.length ≤ 50) (hu : U64L lev) (hS : I64 S) (hlev : lev.length ≤ 500) (k : Nat) (hk : 7000 ≤ k) :
    thrumlaw10_QuantPresses.j0 (k + 1) v w seed n true false a0 a1 l2 l3 S sw lev neg = some true := by
  obtain ⟨pu, pS, pl⟩ := pressQ_wf (w := w) (seed := seed) (n := n) hv
  have n1 : ([] : List Int).length + v.length < 17592186044416 := by rw [List.length_nil]; omega
  have hP := press_is v n w seed hv (by omega) hn k (by omega)
  have hR := refp_is v n w seed hv (by omega) hn k (by omega)
  have hL := loosen_any (a0 := a0) (a1 := a1) (l2 := l2) (l3 := l3) (w := sw) (neg := neg) hu hS k (by omega)
  have hM := refl_any (a0 := a0) (a1 := a1) (l2 := l2) (l3 := l3) (w := sw) (neg := neg) hu hS k (by omega)
  have hN := refn_any (a0 := a0) (a1 := a1) (l2 := l2) (l3 := l3) (w := sw) (neg := neg) hv (by omega) hu hS k (by omega)
  have hNf : ∃ b, quant_Near.f v a0 a1 l2 l3 S sw lev neg = some b := ⟨_, if_pos ⟨hv, hu⟩⟩
  generalize pressQ v w seed n = P at *
  obtain ⟨P0, P1, P2, P3, P4, P5, P6, P7, P8⟩ := P
  dsimp only at pu pS pl
  have hLP := loosen_any (a0 := P0) (a1 := P1) (l2 := P2) (l3 := P3) (w := P5) (neg := P7) pu pS k (by omega)
  have hMP := refl_any (a0 := P0) (a1 := P1) (l2 := P2) (l3 := P3) (w := P5) (neg := P7) pu pS k (by omega)
  have hNP := refn_any (a0 := P0) (a1 := P1) (l2 := P2) (l3 := P3) (w := P5) (neg := P7) hv (by omega) pu pS k (by omega)
  have hNPf : ∃ b, quant_Near.f v P0 P1 P2 P3 P4 P5 P6 P7 = some b := ⟨_, if_pos ⟨hv, pu⟩⟩
  obtain ⟨b1, hb1⟩ := hNf
  obtain ⟨b2, hb2⟩ := hNPf
  rw [hb1] at hN
  rw [hb2] at hNP
  rw [thrumlaw10_QuantPresses.j0.eq_2, if_neg (by decide), if_pos n1, hP, Option.bind_some, hR, Option.bind_some, hL, Option.bind_some, hM, Option.bind_some]
  dsimp only
  rw [hLP, Option.bind_some, hMP, Option.bind_some, if_pos rfl, same_self, Option.bind_some, if_pos rfl, if_pos rfl, same02, Option.bind_some, if_pos rfl, if_pos rfl, same02, Option.bind_some, if_pos rfl, if_pos rfl, hb1, Option.bind_some, hN, Option.bind_some, if_pos (beq_self_eq_true _), hb2, Option.bind_some, hNP, Option.bind_some, if_pos (beq_self_eq_true _), List.nil_append, same02, Option.bind_some]
theorem QuantPresses : thrumlaw10_QuantPresses.Pure := by
  intro v w seed n a0 a1 l2 l3 S sw lev neg b1 b2 wv ww ws b3 b4 wn w0 w1 bl2 bl3 wS wsw blev bneg
  have hv := v64_of_wf wv
  have hS := i64_of_wf wS
  have hu : U64L lev := fun x hx => u64_of_wf (blev.2 x hx)
  refine Evt.get (F := fun k => thrumlaw10_QuantPresses.f k v w seed n a0 a1 l2 l3 S sw lev neg) ?_
  have hT : Evt (fun k => thrumlaw10_QuantPresses.j0 k v w seed n true true a0 a1 l2 l3 S sw lev neg) := Evt.done (fun k => by rw [thrumlaw10_QuantPresses.j0.eq_2, if_pos rfl])
  unfold thrumlaw10_QuantPresses.f
  rw [show thrumlaw10_live.f = some true from rfl]
  simp only [Option.bind_some, if_true]
  obtain ⟨fb, hf, hfl⟩ : ∃ fb, thrumlaw10_few.f v n = some fb ∧ (fb = true → v.length ≤ 5000 ∧ n.length ≤ 50) := by
    unfold thrumlaw10_few.f
    split
    · exact ⟨_, rfl, fun h => ⟨by omega, by have := of_decide_eq_true h; omega⟩⟩
    · split
      · split
        · exact ⟨_, rfl, fun h => ⟨by omega, by have := of_decide_eq_true h; omega⟩⟩
        · exact ⟨_, rfl, fun h => by cases h⟩
      · exact ⟨_, rfl, fun h => by cases h⟩
  obtain ⟨bb, hB, hBl⟩ : ∃ bb, thrumref07_Big.f a0 a1 l2 l3 S sw lev neg = some bb ∧ (bb = false → lev.length ≤ 500) := by
    unfold thrumref07_Big.f
    split
    · exact ⟨_, rfl, fun h => by cases h⟩
    · split
      · exact ⟨_, rfl, fun h => by cases h⟩
      · split
        · exact ⟨_, rfl, fun h => by cases h⟩
        · exact ⟨_, rfl, fun h => by omega⟩
  rw [hf, hB]
  simp only [Option.bind_some]
  cases fb with
  | false => simp only [if_neg (show ¬ (false = true) by decide)]; exact hT
  | true =>
    simp only [if_true]
    obtain ⟨hl, hn⟩ := hfl rfl
    cases bb with
    | true => exact hT
    | false => exact ⟨7001, fun k hk => by
        obtain ⟨m, rfl⟩ : ∃ m, k = m + 1 := ⟨k - 1, by omega⟩
        exact presses_j0 hv hl hn hu hS (hBl rfl) m (by omega)⟩
end Go.Proofs.Ytkfhdpnfcaghbaa.Pure
