/- QuantSure: the greatest number is itself, and its opposite its opposite; nothing is nothing; a number of a level, and no rest, is that level's whatever the seed. -/
import Derived.Test.YtkfhdpnfcaghbaaHQx17
import Derived.Test.YtkfhdpnfcaghbaaPVec
import Derived.Test.YtkfhdpnfcaghbaaPEv
namespace Go.Proofs.Ytkfhdpnfcaghbaa.Pure
open Go.RowKit Go.Proofs.Ytkfhdpnfcaghbaa.HQ Go.Proofs.YtkfhdpnfcaghbaaW.PrintWords Go.Proofs.YtkfhdpnfcaghbaaW.PrintLast Go.Proofs.YtkfhdpnfcaghbaaW.PrintMore Go.Proofs.Ytkfhdpnfcaghbaa.Sp
set_option linter.unusedVariables false
set_option linter.unusedSimpArgs false
/-! ### what is drawn -/
def withN (s n : Int) : Int := Go.bits .xor .u64 (IntKind.u64.wrap ((Go.bits .xor .u64 s (IntKind.u64.wrap n)) * 11400714819323198485)) ((IntKind.u64.wrap ((Go.bits .xor .u64 s (IntKind.u64.wrap n)) * 11400714819323198485)) / 536870912)
def endN (s : Int) : Int := Go.bits .xor .u64 (IntKind.u64.wrap (s * 13787848793156543929)) ((IntKind.u64.wrap (s * 13787848793156543929)) / 4294967296)
def atN (seed : Int) (n : List Int) : Int := endN (n.foldl withN seed)
theorem over_l0 (l : List Int) (hl : l.length ≤ 4611686018427387904) : ∀ (d i : Nat) (s : Int) (K : Nat), d + i = l.length → d + 1 ≤ K → draw_over.l0 K s l (l.length : Int) (i : Int) = some ((l.drop i).foldl withN s) := by
  intro d
  induction d with
  | zero =>
    intro i s K hd hK
    obtain ⟨k, rfl⟩ : ∃ k, K = k + 1 := ⟨K - 1, by omega⟩
    rw [draw_over.l0, if_neg (by omega), List.drop_eq_nil_of_le (by omega)]
    rfl
  | succ d ih =>
    intro i s K hd hK
    obtain ⟨k, rfl⟩ : ∃ k, K = k + 1 := ⟨K - 1, by omega⟩
    have hi : i < l.length := by omega
    rw [draw_over.l0, if_pos (by omega), if_pos (by omega), if_pos (by omega), rd_nat hi, show draw_stir_with.f s l[i] = some (withN s l[i]) from rfl, Option.bind_some, wrap64_of (by unfold I64; omega), show (i : Int) + 1 = ((i + 1 : Nat) : Int) by omega, ih (i + 1) _ k (by omega) (by omega), List.drop_eq_getElem_cons hi, List.foldl_cons]
theorem at_is (seed : Int) (l : List Int) (hl : l.length ≤ 4611686018427387904) (K : Nat) (hK : l.length + 1 ≤ K) : draw_At.f K seed l = some (atN seed l) := by
  unfold draw_At.f draw_over.f
  have h := over_l0 l hl l.length 0 seed K (by omega) hK
  rw [List.drop_zero, show ((0 : Nat) : Int) = 0 from rfl] at h
  rw [h, Option.bind_some, show draw_stir_end.f (l.foldl withN seed) = some (endN (l.foldl withN seed)) from rfl, Option.bind_some]
  rfl
def chN (b S seed : Int) (l : List Int) : Bool := decide (Int.tmod (atN seed l) S < b)
theorem chance_is (b S seed : Int) (l : List Int) (hb : b ≤ S) (hS : S ≠ 0) (hl : l.length ≤ 4611686018427387904) (K : Nat) (hK : l.length + 1 ≤ K) : draw_Chance.f K b S seed l = some (chN b S seed l, 0) := by
  unfold draw_Chance.f draw_Below.f
  rw [if_neg (by omega), if_neg hS, at_is seed l hl K hK, Option.bind_some, Option.bind_some, if_pos rfl]
  rfl
/-! ### what is pressed -/
def upQ (S w seed : Int) (n : List Int) (x : Int) (i : Nat) : Int :=
  if (levelF x S w).2.1 > 0 ∧ chN (levelF x S w).2.1 S seed (n ++ [(i : Int)]) = true then (levelF x S w).1 + 1 else (levelF x S w).1
def levQ (S w seed : Int) (n v : List Int) : List Int := v.mapIdx fun i x => upQ S w seed n x i
def negQ (v : List Int) : List Bool := v.map fun x => decide (x < 0)
theorem levQ_len (S w seed : Int) (n v : List Int) : (levQ S w seed n v).length = v.length := by simp [levQ]
theorem negQ_len (v : List Int) : (negQ v).length = v.length := by simp [negQ]
theorem levQ_get {S w seed : Int} {n v : List Int} {i : Nat} (h : i < v.length) : (levQ S w seed n v)[i]'(by rw [levQ_len]; exact h) = upQ S w seed n v[i] i := by simp [levQ]
theorem negQ_get {v : List Int} {i : Nat} (h : i < v.length) : (negQ v)[i]'(by rw [negQ_len]; exact h) = decide (v[i] < 0) := by simp [negQ]
theorem rdb_nat {l : List Bool} {i : Nat} (h : i < l.length) : rdOf false l (i : Int) = l[i] := by
  unfold rdOf; rw [Int.toNat_natCast, List.getD_eq_getElem?_getD, List.getElem?_eq_getElem h, Option.getD_some]
theorem rd_lev {S w seed : Int} {n v : List Int} {i : Nat} (h : i < v.length) : rd (levQ S w seed n v) (i : Int) = upQ S w seed n v[i] i := by
  rw [rd_nat (by rw [levQ_len]; exact h), levQ_get h]
theorem rd_neg {v : List Int} {i : Nat} (h : i < v.length) : rdOf false (negQ v) (i : Int) = decide (v[i] < 0) := by
  rw [rdb_nat (by rw [negQ_len]; exact h), negQ_get h]
/-- What is known of a level and its rest. -/
structure Lev (x S w : Int) : Prop where
  err : (levelF x S w).2.2 = 0
  a0 : 0 ≤ (levelF x S w).1
  a1 : (levelF x S w).1 ≤ topF w
  b0 : 0 ≤ (levelF x S w).2.1
  b1 : (levelF x S w).2.1 > 0 → (levelF x S w).1 + 1 ≤ topF w ∧ (levelF x S w).2.1 < S
  eq : S ≠ 0 → (levelF x S w).1 * S + (levelF x S w).2.1 = absN x * topF w ∧ (levelF x S w).2.1 < S
  nul : S = 0 → (levelF x S w).1 = 0 ∧ (levelF x S w).2.1 = 0
theorem lev_of {x S w : Int} (hw : ¬ badW w) (h : absN x ≤ S) : Lev x S w := by
  obtain ⟨t1, t2⟩ := topF_pos hw
  have ha : 0 ≤ absN x := by unfold absN; omega
  have hl : levelF x S w = if S = 0 then (0, 0, 0) else (absN x * topF w / S, absN x * topF w % S, 0) := by
    unfold levelF
    rw [if_neg (fun e => e.elim hw (fun e => by omega))]
  by_cases c : S = 0
  · rw [if_pos c] at hl
    constructor <;> rw [hl] <;> dsimp only <;> omega
  · rw [if_neg c] at hl
    have r0 := Int.emod_nonneg (absN x * topF w) c
    have r1 := Int.emod_lt_of_pos (absN x * topF w) (show 0 < S by omega)
    have p0 : 0 ≤ absN x * topF w := Int.mul_nonneg ha (by omega)
    have p2 := Int.emod_add_mul_ediv (absN x * topF w) S
    have p3 : 0 ≤ absN x * topF w / S := Int.ediv_nonneg p0 (by omega)
    obtain ⟨q0, q1⟩ := level_bd (a := absN x) (s := S) (t := topF w) ha h (by omega) (by omega)
    have p5 : absN x * topF w / S * S = S * (absN x * topF w / S) := Int.mul_comm _ _
    have hs : absN x * topF w ≤ S * topF w := Int.mul_le_mul_of_nonneg_right h (by omega)
    have hlt : absN x * topF w % S > 0 → absN x * topF w / S + 1 ≤ topF w := by
      intro hb
      apply Classical.byContradiction
      intro hc
      have e : absN x * topF w / S = topF w := by omega
      rw [e] at p2
      omega
    constructor <;> rw [hl] <;> dsimp only
    · exact p3
    · exact q1
    · exact r0
    · exact fun hb => ⟨hlt hb, r1⟩
    · exact fun _ => ⟨by omega, r1⟩
    · exact fun e => absurd e c
theorem upQ_bd {x S w : Int} (L : Lev x S w) (seed : Int) (n : List Int) (i : Nat) : 0 ≤ upQ S w seed n x i ∧ upQ S w seed n x i ≤ topF w := by
  have h0 := L.a0
  have h1 := L.a1
  unfold upQ
  split
  · rename_i c; have := (L.b1 c.1).1; omega
  · omega
theorem take_set_of {α : Type} {l Q : List α} {i : Nat} {u : α} (hl : l.length = Q.length) (hi : i < Q.length) (h : l.take i = Q.take i) (hu : Q[i] = u) : (l.set i u).take (i + 1) = Q.take (i + 1) := by
  rw [List.take_add_one, List.getElem?_set_self (by omega), List.take_set_of_le (Nat.le_refl _), h, List.take_add_one, List.getElem?_eq_getElem hi, hu]
theorem press_l0 (v n : List Int) (S w seed : Int) (hv : ∀ x ∈ v, absN x ≤ S ∧ I64 x) (hS : 0 ≤ S ∧ I64 S) (hw : ¬ badW w) (hl : v.length ≤ 8192) (hn : n.length ≤ 50) : ∀ (d i : Nat) (lev : List Int) (neg : List Bool) (K : Nat), d + i = v.length → d + n.length + 5 ≤ K → lev.length = v.length → neg.length = v.length → lev.take i = (levQ S w seed n v).take i → neg.take i = (negQ v).take i →
    quant_Press.l0 K w seed n S v (v.length : Int) (i : Int) 2 (v.length : Int) S w lev neg = some (2, (v.length : Int), [], [], S, w, levQ S w seed n v, negQ v, 0) := by
  intro d
  induction d with
  | zero =>
    intro i lev neg K hd hK h1 h2 h3 h4
    obtain ⟨k, rfl⟩ : ∃ k, K = k + 1 := ⟨K - 1, by omega⟩
    rw [List.take_of_length_le (by omega), List.take_of_length_le (by rw [levQ_len]; omega)] at h3
    rw [List.take_of_length_le (by omega), List.take_of_length_le (by rw [negQ_len]; omega)] at h4
    rw [quant_Press.l0, if_neg (by omega), h3, h4]
  | succ d ih =>
    intro i lev neg K hd hK h1 h2 h3 h4
    obtain ⟨k, rfl⟩ : ∃ k, K = k + 1 := ⟨K - 1, by omega⟩
    have hi : i < v.length := by omega
    obtain ⟨hx, hxi⟩ := hv _ (List.getElem_mem hi)
    have L := lev_of hw hx
    have hSi := hS.2
    unfold I64 at hSi
    have hu := upQ_bd L seed n i
    obtain ⟨t1, t2⟩ := topF_pos hw
    have hneg := take_set_of (l := neg) (Q := negQ v) (i := i) (u := decide (v[i] < 0)) (by rw [negQ_len]; exact h2) (by rw [negQ_len]; exact hi) h4 (negQ_get hi)
    have hlev := take_set_of (l := lev) (Q := levQ S w seed n v) (i := i) (u := upQ S w seed n v[i] i) (by rw [levQ_len]; exact h1) (by rw [levQ_len]; exact hi) h3 (levQ_get hi)
    have hgo : ∀ u, u = upQ S w seed n v[i] i → quant_Press.l0 k w seed n S v (v.length : Int) (wrap64 ((i : Int) + 1)) 2 (v.length : Int) S w (lev.set (i : Int).toNat u) (neg.set (i : Int).toNat (decide (v[i] < 0))) = some (2, (v.length : Int), [], [], S, w, levQ S w seed n v, negQ v, 0) := by
      rintro u rfl
      rw [wrap64_of (by unfold I64; omega), show (i : Int) + 1 = ((i + 1 : Nat) : Int) by omega, Int.toNat_natCast]
      exact ih (i + 1) _ _ k (by omega) (by omega) (by rw [List.length_set]; exact h1) (by rw [List.length_set]; exact h2) hlev hneg
    rw [quant_Press.l0, if_pos (by omega), if_pos (by omega), if_pos (by omega), rd_nat hi, quant_Level.of _ _ _ ⟨hxi, hS.2⟩, Option.bind_some, if_pos L.err]
    by_cases cb : (levelF v[i] S w).2.1 > 0
    · obtain ⟨q1, q2⟩ := L.b1 cb
      have hb0 := L.b0
      have ha0 := L.a0
      rw [if_pos cb, slices_Clone_int_int.of _ (by omega), Option.bind_some, if_pos (by omega), show IntKind.u64.wrap S = S from by rw [wu]; omega, chance_is _ _ _ _ (by omega) (by omega) (by rw [List.length_append, List.length_singleton]; omega) k (by rw [List.length_append, List.length_singleton]; omega), Option.bind_some, if_pos rfl]
      by_cases cc : chN (levelF v[i] S w).2.1 S seed (n ++ [(i : Int)]) = true
      · rw [if_pos cc, if_pos (by omega), if_pos (by omega)]
        exact hgo _ (by unfold upQ; rw [if_pos ⟨cb, cc⟩, wu]; omega)
      · rw [if_neg cc, if_pos (by omega), if_pos (by omega)]
        exact hgo _ (by unfold upQ; rw [if_neg (fun e => cc e.2)])
    · rw [if_neg cb, if_pos (by omega), if_pos (by omega)]
      exact hgo _ (by unfold upQ; rw [if_neg (fun e => cb e.1)])
theorem most_ok {v : List Int} (hv : V64 v) (h : (mostV v).2 = 0) : v.length ≤ 4096 ∧ (0 ≤ (mostV v).1 ∧ I64 (mostV v).1) ∧ (∀ x ∈ v, absN x ≤ (mostV v).1 ∧ I64 x) := by
  have hi := mostV_i64 hv
  unfold mostV at h hi ⊢
  by_cases c : checkE v = 0
  · rw [if_pos c] at h hi ⊢
    obtain ⟨-, h1, h2, -⟩ := mostGo_ok v 0 h
    refine ⟨?_, ⟨h1, hi⟩, fun x hx => ⟨h2 x hx, hv x hx⟩⟩
    unfold checkE at c
    split at c
    · cases c
    · omega
  · rw [if_neg c] at h; exact absurd h c
def pressQ (v : List Int) (w seed : Int) (n : List Int) : Int × Int × List Int × List Int × Int × Int × List Int × List Bool × Int :=
  if badW w ∨ v.length = 0 then (0, 0, [], [], 0, 0, [], [], 1) else if (mostV v).2 = 0 then (2, (v.length : Int), [], [], (mostV v).1, w, levQ (mostV v).1 w seed n v, negQ v, 0) else (0, 0, [], [], 0, 0, [], [], (mostV v).2)
theorem press_is (v n : List Int) (w seed : Int) (hv : V64 v) (hl : v.length ≤ 8192) (hn : n.length ≤ 50) (K : Nat) (hK : v.length + n.length + 10 ≤ K) : quant_Press.f K v w seed n = some (pressQ v w seed n) := by
  obtain ⟨k, rfl⟩ : ∃ k, K = k + 1 := ⟨K - 1, by omega⟩
  by_cases cw : badW w
  · have e : pressQ v w seed n = (0, 0, [], [], 0, 0, [], [], 1) := if_pos (.inl cw)
    have es : quant_Steps.f w = some (0, 1) := by unfold quant_Steps.f stepsF; rw [if_pos cw]
    rw [e]
    unfold quant_Press.f
    rw [es, Option.bind_some, if_neg (by decide), quant_Press.j0, if_pos rfl]
  · have es : quant_Steps.f w = some (topF w, 0) := by unfold quant_Steps.f stepsF; rw [if_neg cw]
    by_cases c0 : v.length = 0
    · have e : pressQ v w seed n = (0, 0, [], [], 0, 0, [], [], 1) := if_pos (.inr c0)
      rw [e]
      unfold quant_Press.f
      rw [es, Option.bind_some, if_pos rfl, show ((v.length : Int) == 0) = true from beq_iff_eq.2 (by omega), quant_Press.j0, if_pos rfl]
    · have e : pressQ v w seed n = if (mostV v).2 = 0 then (2, (v.length : Int), [], [], (mostV v).1, w, levQ (mostV v).1 w seed n v, negQ v, 0) else (0, 0, [], [], 0, 0, [], [], (mostV v).2) := if_neg (fun h => h.elim cw c0)
      rw [e]
      unfold quant_Press.f
      rw [es, Option.bind_some, if_pos rfl, show ((v.length : Int) == 0) = false from beq_eq_false_iff_ne.2 (by omega), quant_Press.j0, if_neg (by decide), vec_Most.of _ hv, Option.bind_some]
      by_cases cm : (mostV v).2 = 0
      · obtain ⟨m1, m2, m3⟩ := most_ok hv cm
        rw [if_pos cm, if_pos cm, if_pos (by omega), if_pos (by omega), if_pos (by omega), Int.toNat_natCast]
        have h := press_l0 v n (mostV v).1 w seed m3 m2 cw hl hn v.length 0 (List.replicate v.length 0) (List.replicate v.length false) k (by omega) (by omega) (by simp) (by simp) (by simp) (by simp)
        exact h
      · rw [if_neg cm, if_neg cm]
theorem pressQ_ok {v : List Int} {w seed : Int} {n : List Int} (h : (pressQ v w seed n).2.2.2.2.2.2.2.2 = 0) : ¬ badW w ∧ v.length ≠ 0 ∧ (mostV v).2 = 0 ∧ pressQ v w seed n = (2, (v.length : Int), [], [], (mostV v).1, w, levQ (mostV v).1 w seed n v, negQ v, 0) := by
  unfold pressQ at h ⊢
  by_cases c : badW w ∨ v.length = 0
  · rw [if_pos c] at h; cases h
  · rw [if_neg c] at h ⊢
    by_cases cm : (mostV v).2 = 0
    · exact ⟨fun e => c (.inl e), fun e => c (.inr e), cm, if_pos cm⟩
    · rw [if_neg cm] at h; exact absurd h cm
/-! ### loosened -/
def looQ (S w : Int) (lev : List Int) (neg : List Bool) : List Int := List.zipWith (fun l g => if g = true then -(S * l / topF w) else S * l / topF w) lev neg
theorem looQ_len {S w : Int} {lev : List Int} {neg : List Bool} (h : neg.length = lev.length) : (looQ S w lev neg).length = lev.length := by unfold looQ; rw [List.length_zipWith]; omega
theorem looQ_get {S w : Int} {lev : List Int} {neg : List Bool} (h : neg.length = lev.length) {i : Nat} (hi : i < lev.length) : (looQ S w lev neg)[i]'(by rw [looQ_len h]; exact hi) = if neg[i] = true then -(S * lev[i] / topF w) else S * lev[i] / topF w := by simp [looQ]
set_option maxHeartbeats 2000000 in
theorem loosen_l0 (S w : Int) (lev : List Int) (neg : List Bool) (hS : 0 ≤ S ∧ I64 S) (hw : ¬ badW w) (hlev : ∀ x ∈ lev, 0 ≤ x ∧ x ≤ topF w) (hlen : neg.length = lev.length) (hb : lev.length ≤ 8192) (a0 a1 : Int) (l2 l3 : List Int) : ∀ (d i : Nat) (out : List Int) (K : Nat), d + i = lev.length → d + 1 ≤ K → out.length = lev.length → out.take i = (looQ S w lev neg).take i →
    quant_Loosen.l0 K out lev (lev.length : Int) (i : Int) a0 a1 l2 l3 S w lev neg = some (looQ S w lev neg, 0) := by
  intro d
  induction d with
  | zero =>
    intro i out K hd hK h1 h2
    obtain ⟨k, rfl⟩ : ∃ k, K = k + 1 := ⟨K - 1, by omega⟩
    rw [List.take_of_length_le (by omega), List.take_of_length_le (by rw [looQ_len hlen]; omega)] at h2
    rw [quant_Loosen.l0, if_neg (by omega), h2]
  | succ d ih =>
    intro i out K hd hK h1 h2
    obtain ⟨k, rfl⟩ : ∃ k, K = k + 1 := ⟨K - 1, by omega⟩
    have hi : i < lev.length := by omega
    have e1 : d + (i + 1) = lev.length := by omega
    have e2 : d + 1 ≤ k := by omega
    have hql : i < (looQ S w lev neg).length := by rw [looQ_len hlen]; exact hi
    have p0 : (0 : Int) ≤ (i : Int) := Int.natCast_nonneg i
    have p1 : (i : Int) < (lev.length : Int) := Int.ofNat_lt.2 hi
    have p2 : (i : Int) < (out.length : Int) := by rw [h1]; exact p1
    have p3 : (i : Int) < (neg.length : Int) := by rw [hlen]; exact p1
    have p4 : i < neg.length := by rw [hlen]; exact hi
    have p5 : ∀ u : Int, (i : Int) < ((out.set i u).length : Int) := by intro u; rw [List.length_set, h1]; exact p1
    have ew : wrap64 ((i : Int) + 1) = ((i + 1 : Nat) : Int) := by rw [wrap64_of (by unfold I64; omega)]; omega
    obtain ⟨x0, x1⟩ := hlev _ (List.getElem_mem hi)
    obtain ⟨t1, t2⟩ := topF_pos hw
    have hSi := hS.2
    unfold I64 at hSi
    have hv : valueF lev[i] S w = (S * lev[i] / topF w, 0) := by
      unfold valueF
      rw [if_neg (fun e => e.elim hw (fun e => by omega))]
    obtain ⟨y0, y1⟩ := value_bd (l := lev[i]) (t := topF w) (s := S) x0 x1 hS.1 (by omega)
    have hgo : ∀ u : Int, u = (looQ S w lev neg)[i] → quant_Loosen.l0 k (out.set i u) lev (lev.length : Int) ((i + 1 : Nat) : Int) a0 a1 l2 l3 S w lev neg = some (looQ S w lev neg, 0) := by
      intro u hu
      exact ih (i + 1) (out.set i u) k e1 e2 (by rw [List.length_set]; exact h1) (take_set_of (by rw [looQ_len hlen]; exact h1) (by rw [looQ_len hlen]; exact hi) h2 hu.symm)
    have hU : U64 lev[i] := by unfold U64; clear y0 y1 hv; omega
    have hn : wrap64 (-(S * lev[i] / topF w)) = -(S * lev[i] / topF w) := wrap64_of (by
      generalize S * lev[i] / topF w = z at y0 y1
      clear hv hgo ih; unfold I64; omega)
    rw [quant_Loosen.l0, if_pos p1, if_pos p0, if_pos p1, rd_nat hi, quant_Value.of _ _ _ ⟨hU, hS.2⟩, Option.bind_some, hv, if_pos rfl, if_pos p2, Option.bind_some, if_pos p3, rdb_nat p4, Int.toNat_natCast, ew]
    by_cases g : neg[i] = true
    · rw [if_pos g, List.set_set]
      exact hgo _ (by rw [looQ_get hlen hi, if_pos g]; exact hn)
    · rw [if_neg g]
      exact hgo _ (by rw [looQ_get hlen hi, if_neg g])
theorem lev_mem {S w seed : Int} {n v : List Int} (hw : ¬ badW w) (hv : ∀ x ∈ v, absN x ≤ S ∧ I64 x) : ∀ y ∈ levQ S w seed n v, 0 ≤ y ∧ y ≤ topF w := by
  intro y hy
  obtain ⟨i, hi, rfl⟩ := List.mem_iff_getElem.1 hy
  rw [levQ_len] at hi
  rw [levQ_get hi]
  exact upQ_bd (lev_of hw (hv _ (List.getElem_mem hi)).1) seed n i
theorem lev_u64 {w : Int} (hw : ¬ badW w) {l : List Int} (h : ∀ y ∈ l, 0 ≤ y ∧ y ≤ topF w) : U64L l := by
  intro y hy
  have h1 := h y hy
  have h2 := (topF_pos hw).2
  unfold U64; omega
theorem may_pressed {S w : Int} {lev : List Int} {neg : List Bool} (hw : ¬ badW w) (hS : 0 ≤ S) (hlev : ∀ y ∈ lev, 0 ≤ y ∧ y ≤ topF w) (hlen : neg.length = lev.length) (h0 : lev.length ≠ 0) (h1 : lev.length ≤ 4096) : MayP 2 (lev.length : Int) [] [] S w lev neg := by
  have hw2 := hw
  unfold badW at hw2
  refine ⟨⟨by omega, by omega⟩, .inr (.inr (.inl ⟨rfl, ⟨by omega, by omega⟩, rfl, fun y hy => ?_, rfl, rfl, hS, by omega⟩))⟩
  have h2 := hlev y hy
  unfold topF at h2
  have e : ((2 ^ w.toNat : Nat) : Int) = 2 ^ w.toNat := by push_cast; rfl
  have := bl_le (x := y.toNat) (k := w.toNat) (by omega)
  omega
theorem loosen_is {S w : Int} {lev : List Int} {neg : List Bool} (hw : ¬ badW w) (hS : 0 ≤ S ∧ I64 S) (hlev : ∀ y ∈ lev, 0 ≤ y ∧ y ≤ topF w) (hlen : neg.length = lev.length) (h0 : lev.length ≠ 0) (h1 : lev.length ≤ 4096) (K : Nat) (hK : lev.length + 3 ≤ K) :
    quant_Loosen.f K 2 (lev.length : Int) [] [] S w lev neg = some (looQ S w lev neg, 0) := by
  obtain ⟨k, rfl⟩ : ∃ k, K = k + 1 := ⟨K - 1, by omega⟩
  unfold quant_Loosen.f
  rw [frame_May.of _ _ _ _ _ _ _ _ (lev_u64 hw hlev), decide_eq_true (may_pressed hw hS.1 hlev hlen h0 h1), Option.bind_some, if_pos rfl, show ((2 : Int) != 2) = false from rfl, quant_Loosen.j0, if_neg (by decide), if_pos (by omega), if_pos (by omega), Int.toNat_natCast]
  exact loosen_l0 S w lev neg hS hw hlev hlen (by omega) 2 (lev.length : Int) [] [] lev.length 0 (List.replicate lev.length 0) k (by omega) (by omega) (by simp) (by simp)
/-! ### the greatest number, its opposite, and nothing -/
theorem sure_val {x S w : Int} (hw : ¬ badW w) (L : Lev x S w) (seed : Int) (n : List Int) (i : Nat) (hx : absN x ≤ S) (h : absN x = S ∨ x = 0) : S * upQ S w seed n x i / topF w = absN x := by
  obtain ⟨t1, t2⟩ := topF_pos hw
  have hA : 0 ≤ absN x := by unfold absN; omega
  have a0 := L.a0
  have a1 := L.a1
  have b0 := L.b0
  by_cases c : S = 0
  · obtain ⟨n1, n2⟩ := L.nul c
    have hu : upQ S w seed n x i = 0 := by unfold upQ; rw [if_neg (fun e => by have := e.1; omega), n1]
    rw [hu, Int.mul_zero, Int.zero_ediv]; omega
  · obtain ⟨e1, e2⟩ := L.eq c
    have hb : (levelF x S w).2.1 = 0 ∧ S * (levelF x S w).1 / topF w = absN x := by
      generalize (levelF x S w).1 = a at *
      generalize (levelF x S w).2.1 = b at *
      rcases h with h | h
      · rw [h] at e1
        have ea : a = topF w := by
          apply Classical.byContradiction
          intro hne
          have : a * S ≤ (topF w - 1) * S := Int.mul_le_mul_of_nonneg_right (by omega) (by omega)
          rw [Int.sub_mul, Int.one_mul, Int.mul_comm (topF w)] at this
          omega
        rw [ea] at e1 ⊢
        rw [Int.mul_comm (topF w)] at e1
        exact ⟨by omega, by rw [Int.mul_ediv_cancel _ (by omega)]; exact h.symm⟩
      · have hz : absN x = 0 := by rw [h]; rfl
        rw [hz, Int.zero_mul] at e1
        have h0 : 0 ≤ a * S := Int.mul_nonneg a0 (by omega)
        have hm : a * S = 0 := by omega
        rw [Int.mul_comm S a, hm, Int.zero_ediv]
        exact ⟨by omega, hz.symm⟩
    have hu : upQ S w seed n x i = (levelF x S w).1 := by unfold upQ; rw [if_neg (fun e => by have := e.1; omega)]
    rw [hu]; exact hb.2
theorem sure_a {x S : Int} (hS : 0 ≤ S ∧ I64 S) (h : x = S ∨ x = wrap64 (-S) ∨ x = 0) : absN x = S ∨ x = 0 := by
  obtain ⟨h0, h1⟩ := hS
  unfold I64 at h1
  rw [wrap64_of (show I64 (-S) by unfold I64; omega)] at h
  unfold absN
  omega
theorem sure_o {x y o : Int} (ho : o = if x < 0 then -y else y) (hy : y = absN x) : o = x := by
  rw [ho, hy]
  unfold absN
  split <;> omega
set_option maxHeartbeats 2000000 in
theorem sure_l0 (v : List Int) (S w a b : Int) (hv : ∀ x ∈ v, absN x ≤ S ∧ I64 x) (hS : 0 ≤ S ∧ I64 S) (hw : ¬ badW w) (hl : v.length ≤ 8192) (a1 a2 : Int) : ∀ (d i : Nat), d + i = v.length →
    Evt (fun k => thrumlaw10_QuantSure.l0 k w true (looQ S w (levQ S w a [] v) (negQ v)) v (v.length : Int) (i : Int) 2 a1 [] [] S w (levQ S w a [] v) (negQ v) 2 a2 [] [] S w (levQ S w b [] v) (negQ v)) := by
  have hlen : (negQ v).length = (levQ S w a [] v).length := by rw [negQ_len, levQ_len]
  intro d
  induction d with
  | zero =>
    intro i hd
    have hd2 : ¬ (i : Int) < (v.length : Int) := by omega
    exact Evt.done (fun k => by rw [thrumlaw10_QuantSure.l0.eq_2, if_neg hd2, if_pos rfl, beq_self_eq_true])
  | succ d ih =>
    intro i hd
    have hi : i < v.length := by omega
    have hdi : d + (i + 1) = v.length := by omega
    have p0 : (0 : Int) ≤ (i : Int) := Int.natCast_nonneg i
    have p1 : (i : Int) < (v.length : Int) := Int.ofNat_lt.2 hi
    have qa : (i : Int) < ((levQ S w a [] v).length : Int) := by rw [levQ_len]; exact p1
    have qb : (i : Int) < ((levQ S w b [] v).length : Int) := by rw [levQ_len]; exact p1
    have qn : (i : Int) < ((negQ v).length : Int) := by rw [negQ_len]; exact p1
    have hlo : (i : Int) < ((looQ S w (levQ S w a [] v) (negQ v)).length : Int) := by rw [looQ_len hlen]; exact qa
    have ew : wrap64 ((i : Int) + 1) = ((i + 1 : Nat) : Int) := by rw [wrap64_of (by unfold I64; omega)]; omega
    obtain ⟨hx, hxi⟩ := hv _ (List.getElem_mem hi)
    have L := lev_of hw hx
    have hil : i < (levQ S w a [] v).length := by rw [levQ_len]; exact hi
    have ho : rd (looQ S w (levQ S w a [] v) (negQ v)) (i : Int) = if v[i] < 0 then -(S * upQ S w a [] v[i] i / topF w) else S * upQ S w a [] v[i] i / topF w := by
      rw [rd_nat (by rw [looQ_len hlen]; exact hil), looQ_get hlen hil, levQ_get hi, negQ_get hi]
      by_cases c : v[i] < 0
      · rw [decide_eq_true c, if_pos rfl, if_pos c]
      · rw [decide_eq_false c, if_neg (by decide), if_neg c]
    have hval := sure_val hw L a [] i hx
    have hov : (v[i] = S ∨ v[i] = wrap64 (-S) ∨ v[i] = 0) → rd (looQ S w (levQ S w a [] v) (negQ v)) (i : Int) = v[i] := fun h => sure_o ho (hval (sure_a hS h))
    have hj3 : Evt (fun k => thrumlaw10_QuantSure.j3 k w true (looQ S w (levQ S w a [] v) (negQ v)) (i : Int) v[i] v (v.length : Int) (i : Int) false 2 a1 [] [] S w (levQ S w a [] v) (negQ v) 2 a2 [] [] S w (levQ S w b [] v) (negQ v)) := by
      refine Evt.step (ih (i + 1) hdi) (fun k => ?_)
      rw [thrumlaw10_QuantSure.j3.eq_2, if_neg (by decide), ew]
      by_cases c1 : v[i] = S
      · rw [if_pos c1, if_pos p0, if_pos hlo, if_pos (hov (.inl c1))]
      · rw [if_neg c1]
        by_cases c2 : v[i] = wrap64 (-S)
        · rw [if_pos c2, if_pos p0, if_pos hlo, if_pos (hov (.inr (.inl c2)))]
        · rw [if_neg c2]
          by_cases c3 : v[i] = 0
          · rw [if_pos c3, if_pos p0, if_pos hlo, if_pos (hov (.inr (.inr c3)))]
          · rw [if_neg c3]
    refine Evt.step hj3 (fun k => ?_)
    rw [thrumlaw10_QuantSure.l0.eq_2, if_pos p1, if_pos p0, if_pos p1, rd_nat hi, quant_Level.of _ _ _ ⟨hxi, hS.2⟩, Option.bind_some, if_pos L.err]
    by_cases cb : (levelF v[i] S w).2.1 = 0
    · have cn : ¬ (levelF v[i] S w).2.1 > 0 := by rw [cb]; decide
      have e1 : rd (levQ S w a [] v) (i : Int) = rd (levQ S w b [] v) (i : Int) := by
        rw [rd_lev hi, rd_lev hi]
        unfold upQ
        rw [if_neg (fun e => cn e.1), if_neg (fun e => cn e.1)]
      rw [if_pos cb, if_pos qa, if_pos qb, if_pos e1, if_pos qn, if_pos qn, bne_self_eq_false]
    · rw [if_neg cb, if_pos qn, if_pos qn, bne_self_eq_false]
theorem pressQ_same (v : List Int) (w a b : Int) (n : List Int) : (pressQ v w a n).2.2.2.2.2.2.2.2 = (pressQ v w b n).2.2.2.2.2.2.2.2 := by
  unfold pressQ
  split
  · rfl
  · split <;> rfl
set_option maxHeartbeats 2000000 in
theorem QuantSure : thrumlaw10_QuantSure.Pure := by
  intro v w a b b1 b2 wv ww wa wb
  have hv := v64_of_wf wv
  refine Evt.get (F := fun k => thrumlaw10_QuantSure.f k v w a b) ?_
  unfold thrumlaw10_QuantSure.f
  rw [show thrumlaw10_live.f = some true from rfl]
  simp only [Option.bind_some, if_true]
  obtain ⟨fb, hf, hfl⟩ : ∃ fb, thrumlaw10_few.f v [] = some fb ∧ (fb = true → v.length ≤ 5000) := by
    unfold thrumlaw10_few.f
    split
    · exact ⟨_, rfl, fun _ => by omega⟩
    · split
      · split
        · exact ⟨_, rfl, fun _ => by omega⟩
        · exact ⟨_, rfl, fun h => by cases h⟩
      · exact ⟨_, rfl, fun h => by cases h⟩
  rw [hf]
  simp only [Option.bind_some]
  by_cases cf : fb = true
  · simp only [if_pos cf]
    have hl := hfl cf
    have hs := pressQ_same v w a b []
    by_cases ok : (pressQ v w a []).2.2.2.2.2.2.2.2 = 0
    · obtain ⟨hw, h0, hm, eP⟩ := pressQ_ok ok
      obtain ⟨-, -, -, eQ⟩ := pressQ_ok (hs.symm.trans ok)
      obtain ⟨m1, m2, m3⟩ := most_ok hv hm
      have hlevA := lev_mem (seed := a) (n := []) hw m3
      have hlevB := lev_mem (seed := b) (n := []) hw m3
      have hlA : (negQ v).length = (levQ (mostV v).1 w a [] v).length := by rw [negQ_len, levQ_len]
      have hlB : (negQ v).length = (levQ (mostV v).1 w b [] v).length := by rw [negQ_len, levQ_len]
      have mA := may_pressed hw m2.1 hlevA hlA (by rw [levQ_len]; exact h0) (by rw [levQ_len]; exact m1)
      have mB := may_pressed hw m2.1 hlevB hlB (by rw [levQ_len]; exact h0) (by rw [levQ_len]; exact m1)
      have hl0 := sure_l0 v (mostV v).1 w a b m3 m2 hw (by omega) (v.length : Int) (v.length : Int) v.length 0 (by omega)
      have hj1 : Evt (fun k => thrumlaw10_QuantSure.j1 k v w true (looQ (mostV v).1 w (levQ (mostV v).1 w a [] v) (negQ v)) false 2 (v.length : Int) [] [] (mostV v).1 w (levQ (mostV v).1 w a [] v) (negQ v) 2 (v.length : Int) [] [] (mostV v).1 w (levQ (mostV v).1 w b [] v) (negQ v)) := Evt.step hl0 (fun k => by rw [thrumlaw10_QuantSure.j1.eq_2, if_neg (by decide)]; rfl)
      have hj0 : Evt (fun k => thrumlaw10_QuantSure.j0 k v w true 0 0 false 2 (v.length : Int) [] [] (mostV v).1 w (levQ (mostV v).1 w a [] v) (negQ v) 2 (v.length : Int) [] [] (mostV v).1 w (levQ (mostV v).1 w b [] v) (negQ v)) := by
        refine Evt.stepN 6000 hj1 (fun k hk => ?_)
        have hlo := loosen_is hw m2 hlevA hlA (by rw [levQ_len]; exact h0) (by rw [levQ_len]; exact m1) k (by rw [levQ_len]; omega)
        rw [levQ_len] at hlo mA mB
        rw [thrumlaw10_QuantSure.j0.eq_2, if_neg (by decide), hlo, Option.bind_some, if_pos rfl, if_pos (by rw [looQ_len hlA, levQ_len]), frame_May.of _ _ _ _ _ _ _ _ (lev_u64 hw hlevA), decide_eq_true mA, Option.bind_some, if_pos rfl, frame_May.of _ _ _ _ _ _ _ _ (lev_u64 hw hlevB), decide_eq_true mB, Option.bind_some, if_pos rfl, if_pos rfl, if_pos rfl, if_pos (by rw [levQ_len, levQ_len]), if_pos (by rw [negQ_len]), if_pos (by rw [negQ_len]), show (((levQ (mostV v).1 w a [] v).length : Int) != (v.length : Int)) = false from bne_eq_false_iff_eq.2 (by rw [levQ_len])]
      refine Evt.sameN 6000 hj0 (fun k hk => ?_)
      rw [press_is v [] w a hv (by omega) (by simp) k (by simp only [List.length_nil]; omega), press_is v [] w b hv (by omega) (by simp) k (by simp only [List.length_nil]; omega), Option.bind_some, Option.bind_some, eP, eQ]
      rfl
    · have hj : ∀ x1 x2 x3 x4 x5 x6 x7 x8 y1 y2 y3 y4 y5 y6 y7 y8, Evt (fun k => thrumlaw10_QuantSure.j0 k v w true (pressQ v w a []).2.2.2.2.2.2.2.2 (pressQ v w b []).2.2.2.2.2.2.2.2 true x1 x2 x3 x4 x5 x6 x7 x8 y1 y2 y3 y4 y5 y6 y7 y8) := fun _ _ _ _ _ _ _ _ _ _ _ _ _ _ _ _ => Evt.done (fun k => by rw [thrumlaw10_QuantSure.j0.eq_2, if_pos rfl, if_pos rfl, hs, beq_self_eq_true])
      refine Evt.sameN 6000 (hj (pressQ v w a []).1 (pressQ v w a []).2.1 (pressQ v w a []).2.2.1 (pressQ v w a []).2.2.2.1 (pressQ v w a []).2.2.2.2.1 (pressQ v w a []).2.2.2.2.2.1 (pressQ v w a []).2.2.2.2.2.2.1 (pressQ v w a []).2.2.2.2.2.2.2.1 (pressQ v w b []).1 (pressQ v w b []).2.1 (pressQ v w b []).2.2.1 (pressQ v w b []).2.2.2.1 (pressQ v w b []).2.2.2.2.1 (pressQ v w b []).2.2.2.2.2.1 (pressQ v w b []).2.2.2.2.2.2.1 (pressQ v w b []).2.2.2.2.2.2.2.1) (fun k hk => ?_)
      rw [press_is v [] w a hv (by omega) (by simp) k (by simp only [List.length_nil]; omega), press_is v [] w b hv (by omega) (by simp) k (by simp only [List.length_nil]; omega), Option.bind_some, Option.bind_some, if_neg ok]
  · simp only [if_neg cf]
    exact Evt.true
end Go.Proofs.Ytkfhdpnfcaghbaa.Pure
