/- QuantTurned: with all signs turned a vector is pressed to the same levels, by the same seed, and the signs turned; in twice as many numbers, one behind the other, the first ones are pressed the same. -/
import Derived.Test.YtkfhdpnfcaghbaaHQx17
import Derived.Test.YtkfhdpnfcaghbaaPVec
import Derived.Test.YtkfhdpnfcaghbaaPEv
namespace Go.Proofs.Ytkfhdpnfcaghbaa.Pure
open Go.RowKit Go.Proofs.Ytkfhdpnfcaghbaa.HQ Go.Proofs.YtkfhdpnfcaghbaaW.PrintWords Go.Proofs.YtkfhdpnfcaghbaaW.PrintLast Go.Proofs.YtkfhdpnfcaghbaaW.PrintMore Go.Proofs.Ytkfhdpnfcaghbaa.Sp
set_option linter.unusedVariables false
set_option linter.unusedSimpArgs false
/-! ### what is drawn -/
def withN (s n : Int) : Int := Go.bits .xor .u64 (IntKind.u64.wrap ((Go.bits .xor .u64 s (IntKind.u64.wrap n)) * 11400714819323198485)) ((IntKind.u64.wrap ((Go.bits .xor .u64 s (IntKind.u64.wrap n)) * 11400714819323198485)) / 536870912)
def endN (s : Int) : Int := Go.bits .xor .u64 (IntKind.u64.wrap (s * 13787848793156543929)) ((IntKind.u64.wrap (s * 13787848793156543929)) / 4294967296)
def atN (seed : Int) (n : List Int) : Int := endN (n.foldl withN seed)
theorem over_l0 (l : List Int) (hl : l.length ≤ 4611686018427387904) : ∀ (d i : Nat) (s : Int) (K : Nat), d + i = l.length → d + 1 ≤ K → draw_over.l0 K s l (l.length : Int) (i : Int) = some ((l.drop i).foldl withN s) := by
  intro d
  induction d with
  | zero =>
    intro i s K hd hK
    obtain ⟨k, rfl⟩ : ∃ k, K = k + 1 := ⟨K - 1, by omega⟩
    rw [draw_over.l0, if_neg (by omega), List.drop_eq_nil_of_le (by omega)]
    rfl
  | succ d ih =>
    intro i s K hd hK
    obtain ⟨k, rfl⟩ : ∃ k, K = k + 1 := ⟨K - 1, by omega⟩
    have hi : i < l.length := by omega
    rw [draw_over.l0, if_pos (by omega), if_pos (by omega), if_pos (by omega), rd_nat hi, show draw_stir_with.f s l[i] = some (withN s l[i]) from rfl, Option.bind_some, wrap64_of (by unfold I64; omega), show (i : Int) + 1 = ((i + 1 : Nat) : Int) by omega, ih (i + 1) _ k (by omega) (by omega), List.drop_eq_getElem_cons hi, List.foldl_cons]
theorem at_is (seed : Int) (l : List Int) (hl : l.length ≤ 4611686018427387904) (K : Nat) (hK : l.length + 1 ≤ K) : draw_At.f K seed l = some (atN seed l) := by
  unfold draw_At.f draw_over.f
  have h := over_l0 l hl l.length 0 seed K (by omega) hK
  rw [List.drop_zero, show ((0 : Nat) : Int) = 0 from rfl] at h
  rw [h, Option.bind_some, show draw_stir_end.f (l.foldl withN seed) = some (endN (l.foldl withN seed)) from rfl, Option.bind_some]
  rfl
def chN (b S seed : Int) (l : List Int) : Bool := decide (Int.tmod (atN seed l) S < b)
theorem chance_is (b S seed : Int) (l : List Int) (hb : b ≤ S) (hS : S ≠ 0) (hl : l.length ≤ 4611686018427387904) (K : Nat) (hK : l.length + 1 ≤ K) : draw_Chance.f K b S seed l = some (chN b S seed l, 0) := by
  unfold draw_Chance.f draw_Below.f
  rw [if_neg (by omega), if_neg hS, at_is seed l hl K hK, Option.bind_some, Option.bind_some, if_pos rfl]
  rfl
/-! ### what is pressed -/
def upQ (S w seed : Int) (n : List Int) (x : Int) (i : Nat) : Int :=
  if (levelF x S w).2.1 > 0 ∧ chN (levelF x S w).2.1 S seed (n ++ [(i : Int)]) = true then (levelF x S w).1 + 1 else (levelF x S w).1
def levQ (S w seed : Int) (n v : List Int) : List Int := v.mapIdx fun i x => upQ S w seed n x i
def negQ (v : List Int) : List Bool := v.map fun x => decide (x < 0)
theorem levQ_len (S w seed : Int) (n v : List Int) : (levQ S w seed n v).length = v.length := by simp [levQ]
theorem negQ_len (v : List Int) : (negQ v).length = v.length := by simp [negQ]
theorem levQ_get {S w seed : Int} {n v : List Int} {i : Nat} (h : i < v.length) : (levQ S w seed n v)[i]'(by rw [levQ_len]; exact h) = upQ S w seed n v[i] i := by simp [levQ]
theorem negQ_get {v : List Int} {i : Nat} (h : i < v.length) : (negQ v)[i]'(by rw [negQ_len]; exact h) = decide (v[i] < 0) := by simp [negQ]
theorem rdb_nat {l : List Bool} {i : Nat} (h : i < l.length) : rdOf false l (i : Int) = l[i] := by
  unfold rdOf; rw [Int.toNat_natCast, List.getD_eq_getElem?_getD, List.getElem?_eq_getElem h, Option.getD_some]
theorem rd_lev {S w seed : Int} {n v : List Int} {i : Nat} (h : i < v.length) : rd (levQ S w seed n v) (i : Int) = upQ S w seed n v[i] i := by
  rw [rd_nat (by rw [levQ_len]; exact h), levQ_get h]
theorem rd_neg {v : List Int} {i : Nat} (h : i < v.length) : rdOf false (negQ v) (i : Int) = decide (v[i] < 0) := by
  rw [rdb_nat (by rw [negQ_len]; exact h), negQ_get h]
/-- What is known of a level and its rest. -/
structure Lev (x S w : Int) : Prop where
  err : (levelF x S w).2.2 = 0
  a0 : 0 ≤ (levelF x S w).1
  a1 : (levelF x S w).1 ≤ topF w
  b0 : 0 ≤ (levelF x S w).2.1
  b1 : (levelF x S w).2.1 > 0 → (levelF x S w).1 + 1 ≤ topF w ∧ (levelF x S w).2.1 < S
  eq : S ≠ 0 → (levelF x S w).1 * S + (levelF x S w).2.1 = absN x * topF w ∧ (levelF x S w).2.1 < S
  nul : S = 0 → (levelF x S w).1 = 0 ∧ (levelF x S w).2.1 = 0
theorem lev_of {x S w : Int} (hw : ¬ badW w) (h : absN x ≤ S) : Lev x S w := by
  obtain ⟨t1, t2⟩ := topF_pos hw
  have ha : 0 ≤ absN x := by unfold absN; omega
  have hl : levelF x S w = if S = 0 then (0, 0, 0) else (absN x * topF w / S, absN x * topF w % S, 0) := by
    unfold levelF
    rw [if_neg (fun e => e.elim hw (fun e => by omega))]
  by_cases c : S = 0
  · rw [if_pos c] at hl
    constructor <;> rw [hl] <;> dsimp only <;> omega
  · rw [if_neg c] at hl
    have r0 := Int.emod_nonneg (absN x * topF w) c
    have r1 := Int.emod_lt_of_pos (absN x * topF w) (show 0 < S by omega)
    have p0 : 0 ≤ absN x * topF w := Int.mul_nonneg ha (by omega)
    have p2 := Int.emod_add_mul_ediv (absN x * topF w) S
    have p3 : 0 ≤ absN x * topF w / S := Int.ediv_nonneg p0 (by omega)
    obtain ⟨q0, q1⟩ := level_bd (a := absN x) (s := S) (t := topF w) ha h (by omega) (by omega)
    have p5 : absN x * topF w / S * S = S * (absN x * topF w / S) := Int.mul_comm _ _
    have hs : absN x * topF w ≤ S * topF w := Int.mul_le_mul_of_nonneg_right h (by omega)
    have hlt : absN x * topF w % S > 0 → absN x * topF w / S + 1 ≤ topF w := by
      intro hb
      apply Classical.byContradiction
      intro hc
      have e : absN x * topF w / S = topF w := by omega
      rw [e] at p2
      omega
    constructor <;> rw [hl] <;> dsimp only
    · exact p3
    · exact q1
    · exact r0
    · exact fun hb => ⟨hlt hb, r1⟩
    · exact fun _ => ⟨by omega, r1⟩
    · exact fun e => absurd e c
theorem upQ_bd {x S w : Int} (L : Lev x S w) (seed : Int) (n : List Int) (i : Nat) : 0 ≤ upQ S w seed n x i ∧ upQ S w seed n x i ≤ topF w := by
  have h0 := L.a0
  have h1 := L.a1
  unfold upQ
  split
  · rename_i c; have := (L.b1 c.1).1; omega
  · omega
theorem take_set_of {α : Type} {l Q : List α} {i : Nat} {u : α} (hl : l.length = Q.length) (hi : i < Q.length) (h : l.take i = Q.take i) (hu : Q[i] = u) : (l.set i u).take (i + 1) = Q.take (i + 1) := by
  rw [List.take_add_one, List.getElem?_set_self (by omega), List.take_set_of_le (Nat.le_refl _), h, List.take_add_one, List.getElem?_eq_getElem hi, hu]
theorem press_l0 (v n : List Int) (S w seed : Int) (hv : ∀ x ∈ v, absN x ≤ S ∧ I64 x) (hS : 0 ≤ S ∧ I64 S) (hw : ¬ badW w) (hl : v.length ≤ 8192) (hn : n.length ≤ 50) : ∀ (d i : Nat) (lev : List Int) (neg : List Bool) (K : Nat), d + i = v.length → d + n.length + 5 ≤ K → lev.length = v.length → neg.length = v.length → lev.take i = (levQ S w seed n v).take i → neg.take i = (negQ v).take i →
    quant_Press.l0 K w seed n S v (v.length : Int) (i : Int) 2 (v.length : Int) S w lev neg = some (2, (v.length : Int), [], [], S, w, levQ S w seed n v, negQ v, 0) := by
  intro d
  induction d with
  | zero =>
    intro i lev neg K hd hK h1 h2 h3 h4
    obtain ⟨k, rfl⟩ : ∃ k, K = k + 1 := ⟨K - 1, by omega⟩
    rw [List.take_of_length_le (by omega), List.take_of_length_le (by rw [levQ_len]; omega)] at h3
    rw [List.take_of_length_le (by omega), List.take_of_length_le (by rw [negQ_len]; omega)] at h4
    rw [quant_Press.l0, if_neg (by omega), h3, h4]
  | succ d ih =>
    intro i lev neg K hd hK h1 h2 h3 h4
    obtain ⟨k, rfl⟩ : ∃ k, K = k + 1 := ⟨K - 1, by omega⟩
    have hi : i < v.length := by omega
    obtain ⟨hx, hxi⟩ := hv _ (List.getElem_mem hi)
    have L := lev_of hw hx
    have hSi := hS.2
    unfold I64 at hSi
    have hu := upQ_bd L seed n i
    obtain ⟨t1, t2⟩ := topF_pos hw
    have hneg := take_set_of (l := neg) (Q := negQ v) (i := i) (u := decide (v[i] < 0)) (by rw [negQ_len]; exact h2) (by rw [negQ_len]; exact hi) h4 (negQ_get hi)
    have hlev := take_set_of (l := lev) (Q := levQ S w seed n v) (i := i) (u := upQ S w seed n v[i] i) (by rw [levQ_len]; exact h1) (by rw [levQ_len]; exact hi) h3 (levQ_get hi)
    have hgo : ∀ u, u = upQ S w seed n v[i] i → quant_Press.l0 k w seed n S v (v.length : Int) (wrap64 ((i : Int) + 1)) 2 (v.length : Int) S w (lev.set (i : Int).toNat u) (neg.set (i : Int).toNat (decide (v[i] < 0))) = some (2, (v.length : Int), [], [], S, w, levQ S w seed n v, negQ v, 0) := by
      rintro u rfl
      rw [wrap64_of (by unfold I64; omega), show (i : Int) + 1 = ((i + 1 : Nat) : Int) by omega, Int.toNat_natCast]
      exact ih (i + 1) _ _ k (by omega) (by omega) (by rw [List.length_set]; exact h1) (by rw [List.length_set]; exact h2) hlev hneg
    rw [quant_Press.l0, if_pos (by omega), if_pos (by omega), if_pos (by omega), rd_nat hi, quant_Level.of _ _ _ ⟨hxi, hS.2⟩, Option.bind_some, if_pos L.err]
    by_cases cb : (levelF v[i] S w).2.1 > 0
    · obtain ⟨q1, q2⟩ := L.b1 cb
      have hb0 := L.b0
      have ha0 := L.a0
      rw [if_pos cb, slices_Clone_int_int.of _ (by omega), Option.bind_some, if_pos (by omega), show IntKind.u64.wrap S = S from by rw [wu]; omega, chance_is _ _ _ _ (by omega) (by omega) (by rw [List.length_append, List.length_singleton]; omega) k (by rw [List.length_append, List.length_singleton]; omega), Option.bind_some, if_pos rfl]
      by_cases cc : chN (levelF v[i] S w).2.1 S seed (n ++ [(i : Int)]) = true
      · rw [if_pos cc, if_pos (by omega), if_pos (by omega)]
        exact hgo _ (by unfold upQ; rw [if_pos ⟨cb, cc⟩, wu]; omega)
      · rw [if_neg cc, if_pos (by omega), if_pos (by omega)]
        exact hgo _ (by unfold upQ; rw [if_neg (fun e => cc e.2)])
    · rw [if_neg cb, if_pos (by omega), if_pos (by omega)]
      exact hgo _ (by unfold upQ; rw [if_neg (fun e => cb e.1)])
theorem most_ok {v : List Int} (hv : V64 v) (h : (mostV v).2 = 0) : v.length ≤ 4096 ∧ (0 ≤ (mostV v).1 ∧ I64 (mostV v).1) ∧ (∀ x ∈ v, absN x ≤ (mostV v).1 ∧ I64 x) := by
  have hi := mostV_i64 hv
  unfold mostV at h hi ⊢
  by_cases c : checkE v = 0
  · rw [if_pos c] at h hi ⊢
    obtain ⟨-, h1, h2, -⟩ := mostGo_ok v 0 h
    refine ⟨?_, ⟨h1, hi⟩, fun x hx => ⟨h2 x hx, hv x hx⟩⟩
    unfold checkE at c
    split at c
    · cases c
    · omega
  · rw [if_neg c] at h; exact absurd h c
def pressQ (v : List Int) (w seed : Int) (n : List Int) : Int × Int × List Int × List Int × Int × Int × List Int × List Bool × Int :=
  if badW w ∨ v.length = 0 then (0, 0, [], [], 0, 0, [], [], 1) else if (mostV v).2 = 0 then (2, (v.length : Int), [], [], (mostV v).1, w, levQ (mostV v).1 w seed n v, negQ v, 0) else (0, 0, [], [], 0, 0, [], [], (mostV v).2)
theorem press_is (v n : List Int) (w seed : Int) (hv : V64 v) (hl : v.length ≤ 8192) (hn : n.length ≤ 50) (K : Nat) (hK : v.length + n.length + 10 ≤ K) : quant_Press.f K v w seed n = some (pressQ v w seed n) := by
  obtain ⟨k, rfl⟩ : ∃ k, K = k + 1 := ⟨K - 1, by omega⟩
  by_cases cw : badW w
  · have e : pressQ v w seed n = (0, 0, [], [], 0, 0, [], [], 1) := if_pos (.inl cw)
    have es : quant_Steps.f w = some (0, 1) := by unfold quant_Steps.f stepsF; rw [if_pos cw]
    rw [e]
    unfold quant_Press.f
    rw [es, Option.bind_some, if_neg (by decide), quant_Press.j0, if_pos rfl]
  · have es : quant_Steps.f w = some (topF w, 0) := by unfold quant_Steps.f stepsF; rw [if_neg cw]
    by_cases c0 : v.length = 0
    · have e : pressQ v w seed n = (0, 0, [], [], 0, 0, [], [], 1) := if_pos (.inr c0)
      rw [e]
      unfold quant_Press.f
      rw [es, Option.bind_some, if_pos rfl, show ((v.length : Int) == 0) = true from beq_iff_eq.2 (by omega), quant_Press.j0, if_pos rfl]
    · have e : pressQ v w seed n = if (mostV v).2 = 0 then (2, (v.length : Int), [], [], (mostV v).1, w, levQ (mostV v).1 w seed n v, negQ v, 0) else (0, 0, [], [], 0, 0, [], [], (mostV v).2) := if_neg (fun h => h.elim cw c0)
      rw [e]
      unfold quant_Press.f
      rw [es, Option.bind_some, if_pos rfl, show ((v.length : Int) == 0) = false from beq_eq_false_iff_ne.2 (by omega), quant_Press.j0, if_neg (by decide), vec_Most.of _ hv, Option.bind_some]
      by_cases cm : (mostV v).2 = 0
      · obtain ⟨m1, m2, m3⟩ := most_ok hv cm
        rw [if_pos cm, if_pos cm, if_pos (by omega), if_pos (by omega), if_pos (by omega), Int.toNat_natCast]
        have h := press_l0 v n (mostV v).1 w seed m3 m2 cw hl hn v.length 0 (List.replicate v.length 0) (List.replicate v.length false) k (by omega) (by omega) (by simp) (by simp) (by simp) (by simp)
        exact h
      · rw [if_neg cm, if_neg cm]
theorem pressQ_ok {v : List Int} {w seed : Int} {n : List Int} (h : (pressQ v w seed n).2.2.2.2.2.2.2.2 = 0) : ¬ badW w ∧ v.length ≠ 0 ∧ (mostV v).2 = 0 ∧ pressQ v w seed n = (2, (v.length : Int), [], [], (mostV v).1, w, levQ (mostV v).1 w seed n v, negQ v, 0) := by
  unfold pressQ at h ⊢
  by_cases c : badW w ∨ v.length = 0
  · rw [if_pos c] at h; cases h
  · rw [if_neg c] at h ⊢
    by_cases cm : (mostV v).2 = 0
    · exact ⟨fun e => c (.inl e), fun e => c (.inr e), cm, if_pos cm⟩
    · rw [if_neg cm] at h; exact absurd h cm
/-! ### with all signs turned -/
def turn (v : List Int) : List Int := v.map fun x => wrap64 (-x)
theorem turn_len (v : List Int) : (turn v).length = v.length := by simp [turn]
theorem turn_v64 (v : List Int) : V64 (turn v) := by
  intro x hx
  obtain ⟨y, -, rfl⟩ := List.mem_map.1 hx
  exact wrap64_i64 _
theorem abs_turn {x : Int} (h : I64 x) : absF (wrap64 (-x)) = absF x := by
  unfold I64 at h
  by_cases c : x = -9223372036854775808
  · subst c; decide +kernel
  · rw [wrap64_of (by unfold I64; omega)]; unfold absF; rw [Int.natAbs_neg]
theorem map_turn {v : List Int} (hv : V64 v) : (turn v).map absF = v.map absF := by
  unfold turn; rw [List.map_map]; exact List.map_congr_left (fun x hx => abs_turn (hv x hx))
theorem most_turn {v : List Int} (hv : V64 v) : mostV (turn v) = mostV v := by unfold mostV checkE; rw [map_turn hv, turn_len]
theorem mostGo_app : ∀ (a b : List (Int × Int)) (m : Int), mostGo (a ++ b) m = if (mostGo a m).2 = 0 then mostGo b (mostGo a m).1 else mostGo a m
  | [], b, m => by rw [List.nil_append, mostGo, if_pos rfl]
  | p :: a, b, m => by
    rw [List.cons_append, mostGo, mostGo]
    by_cases c : p.2 = 0
    · rw [if_pos c, if_pos c, mostGo_app a b]
    · rw [if_neg c, if_neg c, if_neg c]
theorem mostGo_same : ∀ (l : List Int) (m : Int), (∀ x ∈ l, (absF x).2 = 0 ∧ (x.natAbs : Int) ≤ m) → mostGo (l.map absF) m = (m, 0)
  | [], m, _ => rfl
  | x :: l, m, h => by
    obtain ⟨h1, h2⟩ := h x (by simp)
    rw [List.map_cons, mostGo, if_pos h1, absF_fst h1, if_neg (by omega), mostGo_same l m (fun y hy => h y (by simp [hy]))]
theorem most_both {v : List Int} (hv : V64 v) (hl : v.length ≤ 2048) : mostV (v ++ turn v) = mostV v := by
  have e1 : checkE (v ++ turn v) = 0 := by unfold checkE; rw [List.length_append, turn_len, if_neg (by omega)]
  have e2 : checkE v = 0 := by unfold checkE; rw [if_neg (by omega)]
  unfold mostV
  rw [if_pos e1, if_pos e2, List.map_append, map_turn hv, mostGo_app]
  by_cases c : (mostGo (v.map absF) 0).2 = 0
  · obtain ⟨a, -, b, -⟩ := mostGo_ok v 0 c
    rw [if_pos c, mostGo_same v _ (fun x hx => ⟨a x hx, b x hx⟩)]
    exact Prod.ext rfl c.symm
  · rw [if_neg c]
theorem up_turn {S w seed x : Int} (n : List Int) (i : Nat) (h : absN x ≤ S) (hS : I64 S) : upQ S w seed n (wrap64 (-x)) i = upQ S w seed n x i := by
  have e : absN (wrap64 (-x)) = absN x := by
    unfold I64 at hS
    unfold absN at h ⊢
    rw [wrap64_of (by unfold I64; omega), Int.natAbs_neg]
  have e2 : levelF (wrap64 (-x)) S w = levelF x S w := by unfold levelF; rw [e]
  unfold upQ
  rw [e2]
theorem pressQ_err {v v' : List Int} (w seed : Int) (n : List Int) (hl : v'.length = 0 ↔ v.length = 0) (hm : mostV v' = mostV v) : (pressQ v' w seed n).2.2.2.2.2.2.2.2 = (pressQ v w seed n).2.2.2.2.2.2.2.2 := by
  unfold pressQ
  by_cases c : badW w ∨ v.length = 0
  · rw [if_pos c, if_pos (c.imp id hl.2)]
  · rw [if_neg c, if_neg (fun e => c (e.imp id hl.1)), hm]
    split <;> rfl
set_option maxHeartbeats 2000000 in
theorem turned_l1 (v n : List Int) (S w seed : Int) (hv : ∀ x ∈ v, absN x ≤ S ∧ I64 x) (hS : I64 S) (hl : v.length ≤ 200) (a1 a2 a3 : Int) : ∀ (d i : Nat), d + i = v.length →
    Evt (fun k => thrumlaw10_QuantTurned.l1 k true v (v.length : Int) (i : Int) 2 a1 [] [] S w (levQ S w seed n v) (negQ v) 2 a2 [] [] S w (levQ S w seed n (turn v)) (negQ (turn v)) 2 a3 [] [] S w (levQ S w seed n (v ++ turn v)) (negQ (v ++ turn v))) := by
  intro d
  induction d with
  | zero =>
    intro i hd
    exact Evt.done (fun k => by rw [thrumlaw10_QuantTurned.l1.eq_2, if_neg (by omega)])
  | succ d ih =>
    intro i hd
    have hi : i < v.length := by omega
    have hit : i < (turn v).length := by rw [turn_len]; exact hi
    have hia : i < (v ++ turn v).length := by rw [List.length_append]; omega
    obtain ⟨hx, hxi⟩ := hv _ (List.getElem_mem hi)
    have gt : (turn v)[i] = wrap64 (-v[i]) := by simp [turn]
    have ga : (v ++ turn v)[i] = v[i] := List.getElem_append_left hi
    have e1 : rd (levQ S w seed n v) (i : Int) = rd (levQ S w seed n (turn v)) (i : Int) := by rw [rd_lev hi, rd_lev hit, gt, up_turn n i hx hS]
    have e2 : rd (levQ S w seed n v) (i : Int) = rd (levQ S w seed n (v ++ turn v)) (i : Int) := by rw [rd_lev hi, rd_lev hia, ga]
    have e3 : rdOf false (negQ v) (i : Int) = rdOf false (negQ (v ++ turn v)) (i : Int) := by rw [rd_neg hi, rd_neg hia, ga]
    have e4 : v[i] ≠ 0 → (rdOf false (negQ v) (i : Int) == rdOf false (negQ (turn v)) (i : Int)) = false := by
      intro h0
      rw [rd_neg hi, rd_neg hit, gt]
      unfold I64 at hS
      unfold absN at hx
      rw [wrap64_of (by unfold I64; omega)]
      by_cases c : v[i] < 0
      · rw [decide_eq_true c, decide_eq_false (by omega)]; rfl
      · rw [decide_eq_false c, decide_eq_true (by omega)]; rfl
    have ew : wrap64 ((i : Int) + 1) = ((i + 1 : Nat) : Int) := by rw [wrap64_of (by unfold I64; omega)]; omega
    refine Evt.step (ih (i + 1) (by omega)) (fun k => ?_)
    have p0 : (0 : Int) ≤ (i : Int) := Int.natCast_nonneg i
    have p1 : (i : Int) < (v.length : Int) := Int.ofNat_lt.2 hi
    have p2 : (i : Int) < ((levQ S w seed n v).length : Int) := by rw [levQ_len]; exact p1
    have p3 : (i : Int) < ((levQ S w seed n (turn v)).length : Int) := by rw [levQ_len]; exact Int.ofNat_lt.2 hit
    have p4 : (i : Int) < ((levQ S w seed n (v ++ turn v)).length : Int) := by rw [levQ_len]; exact Int.ofNat_lt.2 hia
    have p5 : (i : Int) < ((negQ v).length : Int) := by rw [negQ_len]; exact p1
    have p6 : (i : Int) < ((negQ (v ++ turn v)).length : Int) := by rw [negQ_len]; exact Int.ofNat_lt.2 hia
    rw [thrumlaw10_QuantTurned.l1.eq_2, if_pos p1, if_pos p0, if_pos p1, if_pos p2, if_pos p3, if_pos e1, if_pos p4, if_pos e2, if_pos p5, if_pos p6, e3, bne_self_eq_false, if_neg (by decide), ew, rd_nat hi]
    by_cases c : v[i] = 0
    · rw [if_pos c]
    · have p7 : (i : Int) < ((negQ (turn v)).length : Int) := by rw [negQ_len]; exact Int.ofNat_lt.2 hit
      rw [if_neg c, if_pos p7, ← e3, e4 c, if_neg (by decide)]
set_option maxHeartbeats 2000000 in
theorem turned_end (v n : List Int) (w seed : Int) (hv : V64 v) (hl : v.length ≤ 200) (hn : n.length ≤ 50) :
    Evt (fun k => thrumlaw10_QuantTurned.l0 k v w seed n true (pressQ v w seed n).2.2.2.2.2.2.2.2 (turn v) v (v.length : Int) (v.length : Int) (pressQ v w seed n).1 (pressQ v w seed n).2.1 (pressQ v w seed n).2.2.1 (pressQ v w seed n).2.2.2.1 (pressQ v w seed n).2.2.2.2.1 (pressQ v w seed n).2.2.2.2.2.1 (pressQ v w seed n).2.2.2.2.2.2.1 (pressQ v w seed n).2.2.2.2.2.2.2.1) := by
  have hvb : V64 (v ++ turn v) := hv.append (turn_v64 v)
  have q1 := pressQ_err (v := v) (v' := turn v) w seed n (by rw [turn_len]) (most_turn hv)
  have q2 := pressQ_err (v := v) (v' := v ++ turn v) w seed n (by rw [List.length_append, turn_len]; omega) (most_both hv (by omega))
  have hst : ∀ k, 600 ≤ k → thrumlaw10_QuantTurned.l0 (k + 1) v w seed n true (pressQ v w seed n).2.2.2.2.2.2.2.2 (turn v) v (v.length : Int) (v.length : Int) (pressQ v w seed n).1 (pressQ v w seed n).2.1 (pressQ v w seed n).2.2.1 (pressQ v w seed n).2.2.2.1 (pressQ v w seed n).2.2.2.2.1 (pressQ v w seed n).2.2.2.2.2.1 (pressQ v w seed n).2.2.2.2.2.2.1 (pressQ v w seed n).2.2.2.2.2.2.2.1 = thrumlaw10_QuantTurned.j2 k v true (pressQ v w seed n).2.2.2.2.2.2.2.2 false (pressQ v w seed n).1 (pressQ v w seed n).2.1 (pressQ v w seed n).2.2.1 (pressQ v w seed n).2.2.2.1 (pressQ v w seed n).2.2.2.2.1 (pressQ v w seed n).2.2.2.2.2.1 (pressQ v w seed n).2.2.2.2.2.2.1 (pressQ v w seed n).2.2.2.2.2.2.2.1 (pressQ (turn v) w seed n).1 (pressQ (turn v) w seed n).2.1 (pressQ (turn v) w seed n).2.2.1 (pressQ (turn v) w seed n).2.2.2.1 (pressQ (turn v) w seed n).2.2.2.2.1 (pressQ (turn v) w seed n).2.2.2.2.2.1 (pressQ (turn v) w seed n).2.2.2.2.2.2.1 (pressQ (turn v) w seed n).2.2.2.2.2.2.2.1 (pressQ (v ++ turn v) w seed n).1 (pressQ (v ++ turn v) w seed n).2.1 (pressQ (v ++ turn v) w seed n).2.2.1 (pressQ (v ++ turn v) w seed n).2.2.2.1 (pressQ (v ++ turn v) w seed n).2.2.2.2.1 (pressQ (v ++ turn v) w seed n).2.2.2.2.2.1 (pressQ (v ++ turn v) w seed n).2.2.2.2.2.2.1 (pressQ (v ++ turn v) w seed n).2.2.2.2.2.2.2.1 := by
    intro k hk
    rw [thrumlaw10_QuantTurned.l0.eq_2, if_neg (by omega), press_is (turn v) n w seed (turn_v64 v) (by rw [turn_len]; omega) hn k (by rw [turn_len]; omega), Option.bind_some, if_pos (by simp only [List.length_nil]; omega), List.nil_append, Option.bind_some, if_pos (by rw [turn_len]; omega), press_is (v ++ turn v) n w seed hvb (by rw [List.length_append, turn_len]; omega) hn k (by rw [List.length_append, turn_len]; omega), Option.bind_some, q1, q2, if_pos rfl, bne_self_eq_false]
  refine Evt.stepN 600 ?_ hst
  by_cases ok : (pressQ v w seed n).2.2.2.2.2.2.2.2 = 0
  · obtain ⟨hw, h0, hm, eP⟩ := pressQ_ok ok
    obtain ⟨-, -, -, eQ⟩ := pressQ_ok (q1.trans ok)
    obtain ⟨-, -, -, eR⟩ := pressQ_ok (q2.trans ok)
    obtain ⟨m1, m2, m3⟩ := most_ok hv hm
    rw [most_turn hv] at eQ
    rw [most_both hv (by omega)] at eR
    rw [eP, eQ, eR]
    dsimp only
    have e2 : wrap64 (2 * (v.length : Int)) = 2 * (v.length : Int) := wrap64_of (by unfold I64; omega)
    have h1 := turned_l1 v n (mostV v).1 w seed m3 m2.2 hl (v.length : Int) ((turn v).length : Int) ((v ++ turn v).length : Int) v.length 0 (by omega)
    have h3 : Evt (fun k => thrumlaw10_QuantTurned.j3 k v true false 2 (v.length : Int) [] [] (mostV v).1 w (levQ (mostV v).1 w seed n v) (negQ v) 2 ((turn v).length : Int) [] [] (mostV v).1 w (levQ (mostV v).1 w seed n (turn v)) (negQ (turn v)) 2 ((v ++ turn v).length : Int) [] [] (mostV v).1 w (levQ (mostV v).1 w seed n (v ++ turn v)) (negQ (v ++ turn v))) :=
      Evt.step h1 (fun k => by rw [thrumlaw10_QuantTurned.j3.eq_2, if_neg (by decide)]; rfl)
    refine Evt.step h3 (fun k => ?_)
    rw [thrumlaw10_QuantTurned.j2.eq_2, if_neg (by decide), if_pos rfl, if_pos rfl, if_pos rfl, if_pos (by rw [levQ_len]), if_pos (by rw [levQ_len, turn_len]), if_pos (by rw [levQ_len, List.length_append, turn_len, e2]; omega), if_pos (by rw [negQ_len]), if_pos (by rw [negQ_len, turn_len]),
      show (((negQ (v ++ turn v)).length : Int) != wrap64 (2 * (v.length : Int))) = false from bne_eq_false_iff_eq.2 (by rw [negQ_len, List.length_append, turn_len, e2]; omega)]
  · refine Evt.done (fun k => ?_)
    rw [thrumlaw10_QuantTurned.j2.eq_2, if_neg (by decide), if_neg ok]
set_option maxHeartbeats 2000000 in
theorem turned_l0 (v n : List Int) (w seed : Int) (hv : V64 v) (hl : v.length ≤ 200) (hn : n.length ≤ 50) : ∀ (d i : Nat), d + i = v.length →
    Evt (fun k => thrumlaw10_QuantTurned.l0 k v w seed n true (pressQ v w seed n).2.2.2.2.2.2.2.2 ((turn v).take i) v (v.length : Int) (i : Int) (pressQ v w seed n).1 (pressQ v w seed n).2.1 (pressQ v w seed n).2.2.1 (pressQ v w seed n).2.2.2.1 (pressQ v w seed n).2.2.2.2.1 (pressQ v w seed n).2.2.2.2.2.1 (pressQ v w seed n).2.2.2.2.2.2.1 (pressQ v w seed n).2.2.2.2.2.2.2.1) := by
  intro d
  induction d with
  | zero =>
    intro i hd
    have hi : i = v.length := by omega
    subst hi
    rw [List.take_of_length_le (by rw [turn_len]; omega)]
    exact turned_end v n w seed hv hl hn
  | succ d ih =>
    intro i hd
    have hi : i < v.length := by omega
    have hit : i < (turn v).length := by rw [turn_len]; exact hi
    refine Evt.step (ih (i + 1) (by omega)) (fun k => ?_)
    have e : (turn v).take (i + 1) = (turn v).take i ++ [wrap64 (-v[i])] := by
      rw [List.take_add_one, List.getElem?_eq_getElem hit]
      simp [turn]
    rw [thrumlaw10_QuantTurned.l0.eq_2, if_pos (by omega), if_pos (by omega), if_pos (by omega), if_pos (by rw [List.length_take]; omega), rd_nat hi, ← e, wrap64_of (x := (i : Int) + 1) (by unfold I64; omega)]
    rfl
set_option maxHeartbeats 2000000 in
theorem QuantTurned : thrumlaw10_QuantTurned.Pure := by
  intro v w seed n b1 b2 wv ww ws b3 b4 wn
  have hv := v64_of_wf wv
  refine Evt.get (F := fun k => thrumlaw10_QuantTurned.f k v w seed n) ?_
  unfold thrumlaw10_QuantTurned.f
  rw [show thrumlaw10_live.f = some true from rfl]
  simp only [Option.bind_some, if_true]
  have hj : Evt (fun k => thrumlaw10_QuantTurned.j0 k v w seed n true true) := Evt.done (fun k => by rw [thrumlaw10_QuantTurned.j0.eq_2, if_pos rfl])
  by_cases c : (v.length : Int) ≤ 200
  · by_cases cn : (n.length : Int) ≤ 50
    · have hf : thrumlaw10_few.f v n = some true := by unfold thrumlaw10_few.f; rw [if_pos c, decide_eq_true cn]
      rw [hf]
      simp only [Option.bind_some, if_true]
      rw [decide_eq_false (by omega)]
      have h0 := turned_l0 v n w seed hv (by omega) (by omega) v.length 0 (by omega)
      rw [List.take_zero] at h0
      refine Evt.stepN 600 h0 (fun k hk => ?_)
      rw [thrumlaw10_QuantTurned.j0.eq_2, if_neg (by decide), press_is v n w seed hv (by omega) (by omega) k (by omega), Option.bind_some]
      rfl
    · have hf : thrumlaw10_few.f v n = some false := by unfold thrumlaw10_few.f; rw [if_pos c, decide_eq_false cn]
      rw [hf]
      simp only [Option.bind_some]
      exact hj
  · obtain ⟨b, hf⟩ : ∃ b, thrumlaw10_few.f v n = some b := by
      unfold thrumlaw10_few.f
      rw [if_neg c]
      split
      · split
        · exact ⟨_, rfl⟩
        · exact ⟨_, rfl⟩
      · exact ⟨_, rfl⟩
    rw [hf]
    simp only [Option.bind_some]
    rw [decide_eq_true (by omega)]
    cases b <;> exact hj
end Go.Proofs.Ytkfhdpnfcaghbaa.Pure
