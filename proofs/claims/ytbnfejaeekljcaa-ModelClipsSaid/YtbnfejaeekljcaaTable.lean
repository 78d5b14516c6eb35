/- Roots, powers of two and shares, as plain numbers and lists. No program in sight. -/
import Derived.Test.YtbnfejaeekljcaaVec
import Derived.Test.YtbnfejaeekljcaaWMore
import Derived.Laws.Cover2
import Derived.Laws.Externs
import Derived.Deep.WholeRow
namespace Go.Proofs.Ytbnfejaeekljcaa.Sp
open Go.RowKit Go.Proofs.YtbnfejaeekljcaaW.PrintWords

theorem run_float_u64 {P : Program} (src dst : TypeId) (b : Nat) (hs : (P.underlying src).isSome = true) (hd : P.underlying dst = some (.int .u64)) (w : World) :
    ∃ (y : Int) (m : Nat), (0 ≤ y ∧ y ≤ 18446744073709551615) ∧ (convert src dst (.float .f64 b)).run P w = .ok (.int .u64 y) (w.drewN m) := by
  obtain ⟨s, hs'⟩ := Option.isSome_iff_exists.1 hs
  have any : ∃ (y : Int) (m : Nat), (0 ≤ y ∧ y ≤ 18446744073709551615) ∧ (do pure (Value.int .u64 (IntKind.u64.wrap (← choose (.floatToInt .f64 b .u64)))) : Sem Value).run P w = .ok (.int .u64 y) (w.drewN m) := by
    refine ⟨IntKind.u64.wrap ((Question.floatToInt .f64 b .u64).cut (w.tape w.drawn (.floatToInt .f64 b .u64)) : Nat), 1, ?_, ?_⟩
    · simp only [IntKind.wrap, IntKind.bits, IntKind.signed]; simp; omega
    · simp [Question.forced]; rfl
  have e : (convert src dst (.float .f64 b)).run P w = (Conv.floatToInt .f64 b .u64).run P w := by
    cases s <;> simp [convert, run_underlying hs', run_underlying hd]
  rw [e]
  unfold Conv.floatToInt
  cases h : (FloatKind.f64.decode b).toInt .zero with
  | none => exact any
  | some n =>
    simp only []
    by_cases c : IntKind.u64.min ≤ n ∧ n ≤ IntKind.u64.max
    · rw [if_pos c]
      have hmin : IntKind.u64.min = 0 := rfl
      have hmax : IntKind.u64.max = 18446744073709551615 := rfl
      exact ⟨n, 0, by omega, rfl⟩
    · rw [if_neg c]; exact any
theorem run_sqrt {P : Program} {f : FuncId} {fn : Func} (hf : P.funcs[f]? = some fn) (hname : (fn.name == "runtime.NumGoroutine") = false) (hb : fn.body.isNone = true) (hn : Extern.findNext fn = none) (he : Extern.find fn = some Extern.MathSqrt.sqrt) (x : Nat) (w : World) :
    ∃ (r m : Nat), (callFunc f #[.float .f64 x]).run P w = .ok (.value (.float .f64 r)) (w.drewN m) := by
  rw [run_callFunc_extern hf hname hb hn he]
  have e : Extern.MathSqrt.sqrt #[.float .f64 x] = (match FloatKind.f64.format.sqrt x with | some r => pure (.float .f64 r) | none => do pure (.float .f64 (← choose (.nanBits .f64 x x)))) := rfl
  rw [e]
  cases h : FloatKind.f64.format.sqrt x with
  | some r => exact ⟨r, 0, by simp; rfl⟩
  | none => exact ⟨_, 1, by simp [Question.forced]; exact ⟨rfl, rfl⟩⟩
theorem arr_R (w : World) (e : TypeId) (C : Array Value) (L : List Int) (hL : L.length = 17) (hC : C = (encs (Value.int .u64) L).toArray) :
    Kd.R (Kd.int .u64) e (w.alloc (.cells C e)) w.heap.size (fun _ => True) (.slice (some ⟨w.heap.size, 0, none⟩) 17 17) L := by
  have hs : (encs (Value.int .u64) L).length = 17 := by simpa [encs] using hL
  refine Kd.R_of_own (enc := Value.int .u64) (h1 := fun _ => rfl) ?_ (fun _ _ => trivial)
  rw [hL]
  exact ⟨by rw [hs], .inr ⟨w.heap.size, 17, C, rfl, Nat.le_refl _, heap_alloc_new w _, Nat.le_refl _, by decide, by rw [hC]; simpa using hs, by rw [hC]; simp [← hs]⟩⟩
theorem arr_heap {W : World} {e g : Nat} {L : List Int} {base : Nat} (h : Kd.R (Kd.int .u64) e W base (fun _ => True) (.slice (some ⟨g, 0, none⟩) 17 17) L) : W.heap[g]? = some (.cells (encs (Value.int .u64) L).toArray e (0, 0)) := by
  obtain ⟨h1, h2⟩ := Kd.own_of_R (enc := Value.int .u64) (h1 := fun _ => rfl) h
  rcases h2 with ⟨h2, _⟩ | ⟨g', cap, cur, hv, _, hh, _, _, hs, ht⟩
  · cases h2
  · injection hv with a1 a2 a3
    injection a1 with a1
    injection a1 with a1
    subst a1; subst a3
    rw [hh, ← ht, ← a2]
    congr 2
    rw [List.take_of_length_le (by simp [hs])]
theorem below_setRow {w W : World} {g : Nat} {cs : Array Value} (h : Below w.heap.size w W) (hg : w.heap.size ≤ g) : Below w.heap.size w (W.setRow g cs) := by
  refine ⟨h.os, h.tape, h.output, ?_, fun k hk => ?_⟩
  · show w.heap.size ≤ (W.heap.modify g _).size
    rw [Array.size_modify]; exact h.size
  · show (W.heap.modify g _)[k]? = _
    rw [Array.getElem?_modify, if_neg (by omega)]; exact h.block k hk
theorem cell_set_ne {W : World} {g i j : Nat} {v x : Value} (h : W.cell? ⟨g, i, none⟩ = some x) (hne : j ≠ i) : (W.setCell ⟨g, j, none⟩ v).cell? ⟨g, i, none⟩ = some x := by
  have : (W.setCell ⟨g, j, none⟩ v).cell? ⟨g, i, none⟩ = W.cell? ⟨g, i, none⟩ := World.cell?_setCell_other W _ _ _ (by intro e; injection e with e1 e2; exact hne e2)
  rw [this, h]
theorem run_storeCells_same {P : Program} (W : World) (g t : Nat) (L : List Int) (hg : W.heap[g]? = some (.cells (encs (Value.int .u64) L).toArray t (0, 0))) :
    (storeCells ⟨g, 0, none⟩ (encs (Value.int .u64) L)).run P W = .ok () (W.setRow g (encs (Value.int .u64) L).toArray) := by
  have := run_storeCells_from (P := P) g t (encs (Value.int .u64) L) 0 (encs (Value.int .u64) L).toArray W hg (by simp) (fun v hv => by
    obtain ⟨x, _, rfl⟩ := List.mem_map.1 (show v ∈ L.map (Value.int .u64) from hv); rfl)
  simpa using this
theorem store_arr {P : Program} (W : World) (t : Nat) (C : Array Value) (L : List Int) (h : C.size = L.length) :
    (storeCells ⟨W.heap.size, 0, none⟩ (encs (Value.int .u64) L)).run P (W.alloc (.cells C t)) = .ok () (W.alloc (.cells (encs (Value.int .u64) L).toArray t)) := by
  have hl : (encs (Value.int .u64) L).length = L.length := by simp [encs]
  have := run_storeCells_from (P := P) W.heap.size t (encs (Value.int .u64) L) 0 C (W.alloc (.cells C t)) (heap_alloc_new W _) (by omega) (fun v hv => by
    obtain ⟨x, _, rfl⟩ := List.mem_map.1 (show v ∈ L.map (Value.int .u64) from hv); rfl)
  rw [World.setRow_alloc_new] at this
  simpa using this
theorem arr_at (W : World) (t : Nat) (L : List Int) (i : Int) (h0 : 0 ≤ i) (h1 : i < L.length) : (W.alloc (.cells (encs (Value.int .u64) L).toArray t)).cell? ⟨W.heap.size, i.toNat, none⟩ = some (.int .u64 (rd L i)) := by
  rw [cell_of_row _ _ _ _ t (0, 0) (heap_alloc_new W _)]
  have hi : i.toNat < L.length := by omega
  simp [encs, rd, List.getD_eq_getElem?_getD, List.getElem?_eq_getElem hi]
theorem cell_set_blk {W : World} {g b i j n : Nat} {v x : Value} (h : W.cell? ⟨b, i, none⟩ = some x) (hne : g ≠ b) : ((W.drewN n).setCell ⟨g, j, none⟩ v).cell? ⟨b, i, none⟩ = some x := by
  have : ((W.drewN n).setCell ⟨g, j, none⟩ v).cell? ⟨b, i, none⟩ = (W.drewN n).cell? ⟨b, i, none⟩ := World.cell?_setCell_other _ _ _ _ (by intro e; injection e with e1 e2; exact hne e1)
  rw [this]; exact h
/-- r is the root of n, down. -/
def IsRoot (n r : Int) : Prop := 0 ≤ r ∧ r * r ≤ n ∧ n < (r + 1) * (r + 1)
theorem IsRoot.unique {n a b : Int} (ha : IsRoot n a) (hb : IsRoot n b) : a = b := by
  obtain ⟨a0, a1, a2⟩ := ha
  obtain ⟨b0, b1, b2⟩ := hb
  rcases Int.lt_trichotomy a b with h | h | h
  · have := Int.mul_le_mul (show a + 1 ≤ b by omega) (show a + 1 ≤ b by omega) (by omega) (by omega); omega
  · exact h
  · have := Int.mul_le_mul (show b + 1 ≤ a by omega) (show b + 1 ≤ a by omega) (by omega) (by omega); omega
theorem IsRoot.lt {n r : Int} (h : IsRoot n r) (hn : U64 n) : r ≤ 4294967295 := by
  obtain ⟨h0, h1, h2⟩ := h
  unfold U64 at hn
  apply Classical.byContradiction
  intro c
  have := Int.mul_le_mul (show (4294967296 : Int) ≤ r by omega) (show (4294967296 : Int) ≤ r by omega) (by omega) (by omega)
  omega
/-- Bit by bit. -/
def rootGo (n : Int) : Nat → Int → Int
  | 0, out => out
  | k + 1, out => rootGo n k (if (out + 2 ^ k) * (out + 2 ^ k) ≤ n then out + 2 ^ k else out)
def rootF (n : Int) : Int := rootGo n 32 0
theorem rootGo_is (n : Int) : ∀ (k : Nat) (out : Int), 0 ≤ out → out * out ≤ n → n < (out + 2 ^ k) * (out + 2 ^ k) → IsRoot n (rootGo n k out)
  | 0, out, h0, h1, h2 => ⟨h0, h1, by simpa [rootGo] using h2⟩
  | k + 1, out, h0, h1, h2 => by
    have hp : (2 : Int) ^ (k + 1) = 2 ^ k + 2 ^ k := by rw [Int.pow_succ]; omega
    have hq : (0 : Int) < 2 ^ k := Int.pow_pos (by decide)
    unfold rootGo
    split
    · rename_i c
      refine rootGo_is n k _ (by omega) c ?_
      rw [show out + 2 ^ k + 2 ^ k = out + 2 ^ (k + 1) by omega]; exact h2
    · rename_i c
      exact rootGo_is n k _ h0 h1 (by omega)
theorem rootF_is {n : Int} (h : U64 n) : IsRoot n (rootF n) := by
  unfold U64 at h
  exact rootGo_is n 32 0 (by omega) (by omega) (by simp only [Int.reducePow, Int.zero_add, Int.reduceMul]; omega)
theorem rootF_u64 {n : Int} (h : U64 n) : 0 ≤ rootF n ∧ rootF n ≤ 4294967295 := ⟨(rootF_is h).1, (rootF_is h).lt h⟩

/-- The table. -/
def tabL : List Int := [1073741824, 1028218692, 984625593, 942880698, 902905650, 864625412, 827968131, 792864998, 759250124, 727060409, 696235433, 666717334, 638450707, 611382491, 585461880, 560640217, 536870912]
/-- A power: of a number that is not above 0. -/
def expF (x f : Int) : Int × Int :=
  if f < 0 ∨ f > 30 ∨ x > 0 then (0, 1) else if I64 (-x) then (rd tabL ((-x) % 2 ^ f.toNat * 16 / 2 ^ f.toNat) / 2 ^ ((-x) / 2 ^ f.toNat + (30 - f)).toNat, 0) else (0, 2)
/-- The place of the greatest one, the first: from at on. -/
def bestGo : List Int → Int → Int → Int → Int
  | [], _, at_, _ => at_
  | x :: l, i, at_, m => if m < x then bestGo l (i + 1) i x else bestGo l (i + 1) at_ m
def bestF (z : List Int) : Int × Int := if z.length = 0 then (0, 1) else if z.length > 4096 then (0, 3) else (bestGo z 0 0 (rd z 0), 0)
/-- A number's power, as far below the greatest one. -/
def powF (m f x : Int) : Int × Int := if I64 (x - m) then expF (x - m) f else (0, 2)
/-- The greatest one, from m on. -/
def maxGo : List Int → Int → Int
  | [], m => m
  | x :: l, m => maxGo l (Go.Proofs.YtbnfejaeekljcaaW.PrintWords.mx m x)
/-- The first place of v, from i on, or -1. -/
def idxGo : List Int → Int → Nat → Int
  | [], _, _ => -1
  | x :: l, v, i => if v = x then (i : Int) else idxGo l v (i + 1)
theorem maxGo_ge : ∀ (l : List Int) (m : Int), m ≤ maxGo l m ∧ (∀ x ∈ l, x ≤ maxGo l m) ∧ (maxGo l m = m ∨ maxGo l m ∈ l) := by
  intro l
  induction l with
  | nil => intro m; exact ⟨Int.le_refl _, (fun x hx => by cases hx), .inl rfl⟩
  | cons y l ih =>
    intro m
    have hm : Go.Proofs.YtbnfejaeekljcaaW.PrintWords.mx m y = if m < y then y else m := rfl
    unfold maxGo
    rw [hm]
    by_cases c : m < y
    · rw [if_pos c]
      obtain ⟨h1, h2, h3⟩ := ih y
      refine ⟨by omega, fun x hx => ?_, ?_⟩
      · rcases List.mem_cons.1 hx with e | e
        · rw [e]; exact h1
        · exact h2 x e
      · rcases h3 with e | e
        · exact .inr (by rw [e]; simp)
        · exact .inr (List.mem_cons.2 (.inr e))
    · rw [if_neg c]
      obtain ⟨h1, h2, h3⟩ := ih m
      refine ⟨h1, fun x hx => ?_, ?_⟩
      · rcases List.mem_cons.1 hx with e | e
        · rw [e]; omega
        · exact h2 x e
      · rcases h3 with e | e
        · exact .inl e
        · exact .inr (List.mem_cons.2 (.inr e))
/-- The place of the first greatest one: as found by the greatest. -/
theorem bestGo_idx : ∀ (l : List Int) (i : Nat) (a : Int) (m : Int), bestGo l i a m = if maxGo l m = m then a else idxGo l (maxGo l m) i
  | [], i, a, m => by simp [bestGo, maxGo]
  | x :: l, i, a, m => by
    have ih := fun a m => bestGo_idx l (i + 1) a m
    have hm : Go.Proofs.YtbnfejaeekljcaaW.PrintWords.mx m x = if m < x then x else m := rfl
    unfold bestGo maxGo idxGo
    rw [show (i : Int) + 1 = ((i + 1 : Nat) : Int) by omega]
    by_cases c : m < x
    · rw [if_pos c, ih, hm, if_pos c]
      have := (maxGo_ge l x).1
      rw [if_neg (show ¬ maxGo l x = m by omega)]
    · rw [if_neg c, ih, hm, if_neg c]
      by_cases d : maxGo l m = m
      · rw [if_pos d, if_pos d]
      · rw [if_neg d, if_neg d]
        have := (maxGo_ge l m).1
        rw [if_neg (show ¬ maxGo l m = x by omega)]
theorem idx_max (l : List Int) (h : 0 < l.length) : idxGo l (maxGo (l.drop 1) (rd l 0)) 0 = bestGo l 0 0 (rd l 0) := by
  cases l with
  | nil => cases h
  | cons x l =>
    have e : rd (x :: l) 0 = x := rfl
    rw [e, List.drop_one, List.tail_cons]
    show (if maxGo l x = x then ((0 : Nat) : Int) else idxGo l (maxGo l x) (0 + 1)) = (if x < x then bestGo l (0 + 1) 0 x else bestGo l (0 + 1) 0 x)
    rw [if_neg (show ¬ x < x by omega), show (0 : Int) + 1 = ((1 : Nat) : Int) from rfl, bestGo_idx]
    rfl
theorem iwrap (x : Int) : IntKind.i64.wrap x = wrap64 x := by rw [IntKind.wrap_i64]; first | rfl | rw [wrap64_def]
theorem pow_pos_ (n : Nat) : (0 : Int) < 2 ^ n := Int.pow_pos (by decide)
theorem pow_le30_ {f : Int} (hf : 0 ≤ f ∧ f ≤ 30) : (2 : Int) ^ f.toNat ≤ 1073741824 := by
  have h := Nat.pow_le_pow_right (n := 2) (by decide) (show f.toNat ≤ 30 by omega)
  have e : (2 : Int) ^ f.toNat = ((2 ^ f.toNat : Nat) : Int) := by simp
  rw [e]; omega
theorem row_lt_ (y : Int) {f : Int} : 0 ≤ y % 2 ^ f.toNat * 16 / 2 ^ f.toNat ∧ y % 2 ^ f.toNat * 16 / 2 ^ f.toNat < 16 := by
  have hp := pow_pos_ f.toNat
  generalize (2 : Int) ^ f.toNat = p at *
  have h1 := Int.emod_nonneg y (show p ≠ 0 by omega)
  have h2 := Int.emod_lt_of_pos y hp
  refine ⟨Int.ediv_nonneg (by omega) (by omega), ?_⟩
  rw [Int.ediv_lt_iff_lt_mul hp]
  omega
theorem and_mask {y : Int} (h0 : 0 ≤ y) (h : I64 y) (n : Nat) (hn : n ≤ 30) : Go.bits .and .i64 y (2 ^ n - 1) = y % 2 ^ n := by
  show IntKind.i64.wrap ((BitVec.ofInt 64 y &&& BitVec.ofInt 64 (2 ^ n - 1)).toNat : Int) = _
  unfold I64 at h
  obtain ⟨m, rfl⟩ := Int.eq_ofNat_of_zero_le h0
  have hp : 2 ^ n ≤ 1073741824 := Nat.pow_le_pow_right (n := 2) (by decide) hn
  have hp0 : 0 < 2 ^ n := Nat.two_pow_pos n
  have e : (2 : Int) ^ n - 1 = ((2 ^ n - 1 : Nat) : Int) := by rw [Int.natCast_sub (by omega)]; simp
  rw [e, BitVec.ofInt_natCast, BitVec.ofInt_natCast, BitVec.toNat_and, BitVec.toNat_ofNat, BitVec.toNat_ofNat, Nat.mod_eq_of_lt (by omega), Nat.mod_eq_of_lt (by omega), Nat.and_two_pow_sub_one_eq_mod]
  rw [iwrap]
  have hm : m % 2 ^ n < 2 ^ n := Nat.mod_lt _ hp0
  rw [wrap64_of (by unfold I64; omega)]
  simp
/-- How the machine spells the row, and how far down. -/
theorem row_spell {y f : Int} (h0 : 0 ≤ y) (h : I64 y) (hf : 0 ≤ f ∧ f ≤ 30) : wrap64 (Go.bits .and .i64 y (wrap64 (wrap64 (2 ^ min f.toNat 64) - 1)) * 16) / 2 ^ min f.toNat 64 = y % 2 ^ f.toNat * 16 / 2 ^ f.toNat := by
  have hp := pow_pos_ f.toNat
  have hp30 := pow_le30_ hf
  rw [show min f.toNat 64 = f.toNat by omega, wrap64_of (x := 2 ^ f.toNat) (by unfold I64; omega), wrap64_of (x := 2 ^ f.toNat - 1) (by unfold I64; omega), and_mask h0 h _ (by omega)]
  have h1 := Int.emod_nonneg y (show (2 : Int) ^ f.toNat ≠ 0 by omega)
  have h2 := Int.emod_lt_of_pos y hp
  rw [wrap64_of (by unfold I64; omega)]
theorem cnt_spell {y f : Int} (h0 : 0 ≤ y) (h : I64 y) (hf : 0 ≤ f ∧ f ≤ 30) : IntKind.u64.wrap (IntKind.u64.wrap (y / 2 ^ min f.toNat 64) + IntKind.u64.wrap (IntKind.i64.wrap (30 - f))) = y / 2 ^ f.toNat + (30 - f) := by
  have hp := pow_pos_ f.toNat
  unfold I64 at h
  have q0 : 0 ≤ y / 2 ^ f.toNat := Int.ediv_nonneg h0 (by omega)
  have q1 : y / 2 ^ f.toNat ≤ y := Int.ediv_le_self _ h0
  rw [show min f.toNat 64 = f.toNat by omega, show IntKind.i64.wrap (30 - f) = 30 - f from (iwrap _).trans (wrap64_of (by unfold I64; omega)), wu, wu, wu, Int.emod_eq_of_lt (a := y / 2 ^ f.toNat) (by omega) (by omega), Int.emod_eq_of_lt (a := 30 - f) (by omega) (by omega), Int.emod_eq_of_lt (by omega) (by omega)]
theorem far_zero {t c : Int} (h0 : 0 ≤ t) (h1 : t ≤ 1073741824) (hc : 63 ≤ c) : t / 2 ^ c.toNat = 0 := by
  have : (1073741824 : Int) < 2 ^ c.toNat := by
    have := Nat.pow_lt_pow_right (a := 2) (by decide) (show 30 < c.toNat by omega)
    have e : (2 : Int) ^ c.toNat = ((2 ^ c.toNat : Nat) : Int) := by simp
    rw [e]; omega
  exact Int.ediv_eq_zero_of_lt h0 (by omega)
theorem tabL_len : (tabL.length : Int) = 17 := rfl
theorem tab_bd_ (i : Int) (h : 0 ≤ i ∧ i < 16) : 0 ≤ rd tabL i ∧ rd tabL i ≤ 1073741824 := by
  have : ∀ n : Nat, n < 16 → 0 ≤ tabL.getD n 0 ∧ tabL.getD n 0 ≤ 1073741824 := by decide
  exact this i.toNat (by omega)
/-- More rounds tell the same. -/
theorem leO_mono {α : Type} {F : Nat → Option α} (h : ∀ k, LeO (F k) (F (k + 1))) {a b : Nat} (hab : a ≤ b) {x : α} (hx : F a = some x) : F b = some x := by
  obtain ⟨d, rfl⟩ := Nat.le.dest hab
  clear hab
  induction d with
  | zero => exact hx
  | succ d ih => exact h (a + d) x ih
/-- All of them behind acc, or the first error. -/
def seqFrom (g : Int → Int × Int) (l acc : List Int) : List Int × Int := if (seqV (l.map g)).2 = 0 then (acc ++ (seqV (l.map g)).1, 0) else ([], (seqV (l.map g)).2)
theorem seqFrom_nil (g : Int → Int × Int) (acc : List Int) : seqFrom g [] acc = (acc, 0) := by simp [seqFrom, seqV]
theorem seqFrom_ok {g : Int → Int × Int} {x : Int} {l acc : List Int} (h : (g x).2 = 0) : seqFrom g (x :: l) acc = seqFrom g l (acc ++ [(g x).1]) := by
  unfold seqFrom
  simp only [List.map_cons, seqV, h, if_true]
  by_cases c : (seqV (l.map g)).2 = 0
  · simp [c]
  · simp [c]
theorem seqFrom_bad {g : Int → Int × Int} {x : Int} {l acc : List Int} (h : (g x).2 ≠ 0) : seqFrom g (x :: l) acc = ([], (g x).2) := by
  unfold seqFrom
  simp only [List.map_cons, seqV, if_neg h]
theorem seqFrom_start (g : Int → Int × Int) (l : List Int) : seqFrom g l [] = seqV (l.map g) := by
  unfold seqFrom
  split
  · rename_i h; exact Prod.ext (by simp) h.symm
  · rename_i h
    have e : ∀ ps : List (Int × Int), (seqV ps).2 ≠ 0 → (seqV ps).1 = [] := by
      intro ps hp
      cases ps with
      | nil => rfl
      | cons p ps =>
        unfold seqV at hp ⊢
        split
        · split
          · rename_i c1 c2; rw [if_pos c1, if_pos c2] at hp; exact absurd rfl hp
          · rfl
        · rfl
    exact Prod.ext (e _ h).symm rfl
/-- A sum. -/
def sumI : List Int → Int
  | [] => 0
  | x :: l => x + sumI l
theorem sumI_app (a : List Int) (x : Int) : sumI (a ++ [x]) = sumI a + x := by
  induction a with
  | nil => simp [sumI]
  | cons y a ih => simp only [List.cons_append, sumI, ih]; omega
theorem sumI_nn : ∀ (l : List Int), (∀ x ∈ l, 0 ≤ x) → 0 ≤ sumI l
  | [], _ => Int.le_refl _
  | x :: l, h => by have h1 := h x (by simp); have h2 := sumI_nn l (fun y hy => h y (by simp [hy])); simp only [sumI]; omega
theorem sumI_ub : ∀ (l : List Int) (m : Int), (∀ x ∈ l, x ≤ m) → sumI l ≤ l.length * m
  | [], m, _ => by simp [sumI]
  | x :: l, m, h => by
    have h1 := h x (by simp)
    have h2 := sumI_ub l m (fun y hy => h y (by simp [hy]))
    simp only [sumI, List.length_cons]
    have : ((l.length + 1 : Nat) : Int) * m = l.length * m + m := by rw [Int.natCast_add, Int.add_mul]; simp
    omega
def softV (f : Int) (z : List Int) : List Int × Int :=
  if (bestF z).2 ≠ 0 then ([], (bestF z).2) else if f < 0 ∨ f > 30 then ([], 1) else
  if (seqV (z.map (powF (rd z (bestF z).1) f))).2 ≠ 0 then ([], (seqV (z.map (powF (rd z (bestF z).1) f))).2) else
  seqV ((seqV (z.map (powF (rd z (bestF z).1) f))).1.map fun p => divF p (sumI (seqV (z.map (powF (rd z (bestF z).1) f))).1) f)
end Go.Proofs.Ytbnfejaeekljcaa.Sp
