/- Plain words that all texts of this seat share: whole numbers of 64 bits, and how a result is told. No program in sight. -/
import Derived.WalkKit
import Derived.Laws.BitsAllLaws
import Derived.Laws.BitsLemmas
import Derived.Lib.Mul64
namespace Go.Proofs.Ytbnfejaeekljcaa.Sp
open Go.RowKit

/-- x is a number of 64 bits with a sign. -/
def I64 (x : Int) : Prop := -9223372036854775808 ≤ x ∧ x ≤ 9223372036854775807
instance (x : Int) : Decidable (I64 x) := by unfold I64; infer_instance
/-- x is a number of 64 bits without a sign. -/
def U64 (x : Int) : Prop := 0 ≤ x ∧ x ≤ 18446744073709551615
instance (x : Int) : Decidable (U64 x) := by unfold U64; infer_instance
/-- A number, or the error that it goes over. -/
def res (x : Int) : Int × Int := if I64 x then (x, 0) else (0, 2)

theorem res_of {x : Int} (h : I64 x) : res x = (x, 0) := if_pos h
theorem res_not {x : Int} (h : ¬ I64 x) : res x = (0, 2) := if_neg h
theorem i64_of_wf {x : Int} (h : (Lit.int .i64 x).wf = true) : I64 x := by
  have hmin : IntKind.i64.min = -9223372036854775808 := rfl
  have hmax : IntKind.i64.max = 9223372036854775807 := rfl
  simp only [Lit.wf, Bool.and_eq_true, decide_eq_true_eq] at h
  unfold I64; omega
theorem i32_of_wf {x : Int} (h : (Lit.int .i32 x).wf = true) : -2147483648 ≤ x ∧ x ≤ 2147483647 := by
  have hmin : IntKind.i32.min = -2147483648 := rfl
  have hmax : IntKind.i32.max = 2147483647 := rfl
  simp only [Lit.wf, Bool.and_eq_true, decide_eq_true_eq] at h
  omega
theorem u64_of_wf {x : Int} (h : (Lit.int .u64 x).wf = true) : U64 x := by
  have hmin : IntKind.u64.min = 0 := rfl
  have hmax : IntKind.u64.max = 18446744073709551615 := rfl
  simp only [Lit.wf, Bool.and_eq_true, decide_eq_true_eq] at h
  unfold U64; omega
theorem res_i64 (x : Int) : I64 (res x).1 := by unfold res; split <;> simp_all [I64]
theorem i64_zero : I64 0 := by unfold I64; omega

/-- Clipped. -/
def clipF (a m : Int) : Int × Int := if m < 0 then (0, 1) else (if a < -m then -m else if m < a then m else a, 0)
/-- a by b, down. -/
def divQ (a b : Int) : Int := if 0 < b then a / b else (-a) / (-b)
/-- A quotient with f bits behind the point. -/
def divF (a b f : Int) : Int × Int := if f < 0 ∨ f > 30 ∨ b = 0 then (0, 1) else res (divQ (a * 2 ^ f.toNat) b)
/-- A product with f bits behind the point. -/
def mulF (a b f : Int) : Int × Int := if 0 ≤ f ∧ f ≤ 30 then res (a * b / 2 ^ f.toNat) else (0, 1)
/-- Shifted. -/
def shiftF (a n : Int) : Int × Int := if n < 0 ∨ n > 62 then (0, 1) else (a / 2 ^ n.toNat, 0)

theorem wrap64_def (x : Int) : wrap64 x = (x + 9223372036854775808) % 18446744073709551616 - 9223372036854775808 := by unfold wrap64; rfl
theorem wrap64_of {x : Int} (h : I64 x) : wrap64 x = x := by unfold I64 at h; rw [wrap64_def]; omega
theorem wrap64_i64 (x : Int) : I64 (wrap64 x) := by rw [wrap64_def]; unfold I64; omega
theorem wu (x : Int) : IntKind.u64.wrap x = x % 18446744073709551616 := by simp [IntKind.wrap, IntKind.bits, IntKind.signed]

/-- How the walk spells all bits of an unsigned number turned. -/
theorem u64_not : (if IntKind.u64.signed = true then (-1 : Int) else IntKind.u64.max) = IntKind.u64.max := rfl

theorem ofInt_lt (x : Int) : ((BitVec.ofInt 64 x).toNat : Int) = x % 18446744073709551616 := by
  rw [BitVec.toNat_ofInt]; omega
theorem bits_i64 (op : BitVec 64 → BitVec 64 → BitVec 64) (x y : Int) (b : BinOp) (h : Go.bits b .i64 x y = IntKind.i64.wrap ((op (BitVec.ofInt 64 x) (BitVec.ofInt 64 y)).toNat : Int)) :
    Go.bits b .i64 x y = (op (BitVec.ofInt 64 x) (BitVec.ofInt 64 y)).toInt := by
  rw [h, IntKind.wrap_i64, BitVec.toInt_eq_toNat_bmod]
  generalize (op (BitVec.ofInt 64 x) (BitVec.ofInt 64 y)).toNat = n
  unfold Int.bmod
  simp only []
  split <;> omega
theorem toInt_of {x : Int} (h : I64 x) : (BitVec.ofInt 64 x).toInt = x := by
  unfold I64 at h
  rw [BitVec.toInt_ofInt, Int.bmod_def]
  split <;> omega
theorem and_i64 (x y : Int) : Go.bits .and .i64 x y = (BitVec.ofInt 64 x &&& BitVec.ofInt 64 y).toInt := bits_i64 (· &&& ·) x y .and rfl
theorem xor_i64 (x y : Int) : Go.bits .xor .i64 x y = (BitVec.ofInt 64 x ^^^ BitVec.ofInt 64 y).toInt := bits_i64 (· ^^^ ·) x y .xor rfl
theorem ofInt_toInt (b : BitVec 64) : BitVec.ofInt 64 b.toInt = b := BitVec.ofInt_toInt
theorem neg_iff (b : BitVec 64) : b.toInt < 0 ↔ b.msb = true := by rw [BitVec.msb_eq_toInt]; simp
theorem msb_of {x : Int} (h : I64 x) : (BitVec.ofInt 64 x).msb = decide (x < 0) := by rw [BitVec.msb_eq_toInt, toInt_of h]
theorem xor_i64_i64 (x y : Int) : I64 (Go.bits .xor .i64 x y) := by
  rw [xor_i64]; have := BitVec.toInt_lt (x := BitVec.ofInt 64 x ^^^ BitVec.ofInt 64 y); have := BitVec.le_toInt (x := BitVec.ofInt 64 x ^^^ BitVec.ofInt 64 y)
  unfold I64; omega
/-- Two numbers' and is below 0, if both are. -/
theorem and_neg {x y : Int} (hx : I64 x) (hy : I64 y) : Go.bits .and .i64 x y < 0 ↔ x < 0 ∧ y < 0 := by
  rw [and_i64, neg_iff, BitVec.msb_and, msb_of hx, msb_of hy]; simp
/-- Two numbers' xor is below 0, if one of them is. -/
theorem xor_neg {x y : Int} (hx : I64 x) (hy : I64 y) : Go.bits .xor .i64 x y < 0 ↔ ¬ (x < 0 ↔ y < 0) := by
  rw [xor_i64, neg_iff, BitVec.msb_xor, msb_of hx, msb_of hy]
  by_cases h1 : x < 0 <;> by_cases h2 : y < 0 <;> simp [h1, h2]

/-! ### how wide a number is -/
def bl (x : Nat) : Nat := if x = 0 then 0 else x.log2 + 1
theorem bl_lt (x : Nat) : x < 2 ^ bl x := by
  unfold bl; split
  · omega
  · exact Nat.lt_log2_self
theorem bl_ge {x : Nat} (h : x ≠ 0) : 2 ^ (bl x - 1) ≤ x := by
  unfold bl; rw [if_neg h]; simpa using Nat.log2_self_le h
theorem bl_le {x k : Nat} (h : x < 2 ^ k) : bl x ≤ k := by
  unfold bl; split
  · omega
  · rename_i h0; exact (Nat.log2_lt h0).2 h
theorem bl_pos {x : Nat} (h : x ≠ 0) : 1 ≤ bl x := by unfold bl; rw [if_neg h]; omega
theorem bl_shift {k x : Nat} (h : 2 ^ k ≤ x) : bl x = k + bl (x / 2 ^ k) := by
  have hp : 0 < 2 ^ k := Nat.two_pow_pos k
  have hx : x ≠ 0 := by omega
  have hd : x / 2 ^ k ≠ 0 := by have := Nat.div_pos h hp; omega
  have h1 := Nat.log2_self_le hd
  have h2 : x / 2 ^ k < 2 ^ ((x / 2 ^ k).log2 + 1) := Nat.lt_log2_self
  have e : x.log2 = (x / 2 ^ k).log2 + k := (Nat.log2_eq_iff hx).2
    ⟨by rw [Nat.pow_add]; exact (Nat.le_div_iff_mul_le hp).1 h1, by rw [show (x / 2 ^ k).log2 + k + 1 = ((x / 2 ^ k).log2 + 1) + k by omega, Nat.pow_add]; exact (Nat.div_lt_iff_lt_mul hp).1 h2⟩
  unfold bl; rw [if_neg hx, if_neg hd, e]; omega

/-! ### without signs -/
theorem and32 {x : Int} (h : U64 x) : Go.bits .and .u64 x 4294967295 = x % 4294967296 := by
  unfold U64 at h
  obtain ⟨n, rfl⟩ := Int.eq_ofNat_of_zero_le h.1
  have := u64_and_nat n 4294967295 (by omega) (by omega)
  have e : n &&& 4294967295 = n % 4294967296 := Nat.and_two_pow_sub_one_eq_mod n 32
  rw [e] at this
  rw [show (4294967295 : Int) = ((4294967295 : Nat) : Int) from rfl, this]; omega
theorem and32m (x : Int) : Go.bits .and .u64 (x % 18446744073709551616) 4294967295 = x % 18446744073709551616 % 4294967296 := and32 (by unfold U64; omega)
theorem or_join {x y : Int} (i : Nat) (hx : U64 x) (hm : x % 2 ^ i = 0) (hy0 : 0 ≤ y) (hy : y < 2 ^ i) (hy2 : U64 y) : Go.bits .or .u64 x y = x + y := by
  unfold U64 at hx hy2
  obtain ⟨n, rfl⟩ := Int.eq_ofNat_of_zero_le hx.1
  obtain ⟨m, rfl⟩ := Int.eq_ofNat_of_zero_le hy0
  have := u64_or_nat n m (by omega) (by omega)
  rw [this, nat_join i n m (by exact_mod_cast hm) (by exact_mod_cast hy)]
  simp
theorem or_join' {x y : Int} (i : Nat) (hx : U64 x) (hm : x % 2 ^ i = 0) (hy0 : 0 ≤ y) (hy : y < 2 ^ i) (hy2 : U64 y) : Go.bits .or .u64 y x = y + x := by
  have h := or_join i hx hm hy0 hy hy2
  unfold U64 at hx hy2
  obtain ⟨n, rfl⟩ := Int.eq_ofNat_of_zero_le hx.1
  obtain ⟨m, rfl⟩ := Int.eq_ofNat_of_zero_le hy0
  rw [u64_or_nat m n (by omega) (by omega), Nat.or_comm, ← u64_or_nat n m (by omega) (by omega), h]
  omega
theorem and1_i64 (x : Int) : Go.bits .and .i64 x 1 = x % 2 := by
  show IntKind.i64.wrap ((BitVec.ofInt 64 x &&& BitVec.ofInt 64 1).toNat : Int) = _
  have e1 : (BitVec.ofInt 64 (1 : Int)).toNat = 1 := by decide
  have e2 := ofInt_lt x
  rw [BitVec.toNat_and, e1, Nat.and_one_is_mod, IntKind.wrap_i64]
  generalize (BitVec.ofInt 64 x).toNat = n at *
  omega
theorem not_u64 {x : Int} (h : U64 x) : Go.bits .xor .u64 IntKind.u64.max x = 18446744073709551615 - x := by
  unfold U64 at h
  obtain ⟨n, rfl⟩ := Int.eq_ofNat_of_zero_le h.1
  have h64 : n < 2 ^ 64 := by omega
  show IntKind.u64.wrap ((BitVec.ofInt 64 (18446744073709551615 : Int) ^^^ BitVec.ofInt 64 (n : Int)).toNat : Int) = _
  have e1 : BitVec.ofInt 64 (18446744073709551615 : Int) = BitVec.allOnes 64 := by decide
  rw [e1, BitVec.allOnes_xor, BitVec.toNat_not, BitVec.ofInt_natCast, BitVec.toNat_ofNat, Nat.mod_eq_of_lt h64, wu]
  omega

/-! ### a product as two numbers -/
theorem prod_bd {a b : Int} (ha : I64 a) (hb : I64 b) : -170141183460469231731687303715884105728 ≤ a * b ∧ a * b < 170141183460469231731687303715884105728 := by
  unfold I64 at ha hb
  have hn : a.natAbs * b.natAbs ≤ 9223372036854775808 * 9223372036854775808 := Nat.mul_le_mul (by omega) (by omega)
  rw [← Int.natAbs_mul] at hn
  generalize a * b = p at *
  omega
theorem div_bd (p : Int) (m : Nat) (hm : 0 < m) (h0 : -170141183460469231731687303715884105728 ≤ p) (h1 : p < 170141183460469231731687303715884105728) : -170141183460469231731687303715884105728 ≤ p / ((m : Nat) : Int) ∧ p / ((m : Nat) : Int) < 170141183460469231731687303715884105728 := by
  have hm' : (0 : Int) < m := by omega
  constructor
  · rw [Int.le_ediv_iff_mul_le hm']
    have : (170141183460469231731687303715884105728 : Int) * 1 ≤ 170141183460469231731687303715884105728 * m := Int.mul_le_mul_of_nonneg_left (by omega) (by omega)
    omega
  · rw [Int.ediv_lt_iff_lt_mul hm']
    have : (170141183460469231731687303715884105728 : Int) * 1 ≤ 170141183460469231731687303715884105728 * m := Int.mul_le_mul_of_nonneg_left (by omega) (by omega)
    omega
theorem narrow_yes {p : Int} (h : I64 p) : p / 18446744073709551616 % 18446744073709551616 = IntKind.u64.wrap (wrap64 (p % 18446744073709551616) / 9223372036854775808) ∧ wrap64 (p % 18446744073709551616) = p := by
  unfold I64 at h; simp only [wu, wrap64_def]; omega
theorem narrow_no {p : Int} (h0 : -170141183460469231731687303715884105728 ≤ p) (h1 : p < 170141183460469231731687303715884105728) (h : ¬ I64 p) : ¬ (p / 18446744073709551616 % 18446744073709551616 = IntKind.u64.wrap (wrap64 (p % 18446744073709551616) / 9223372036854775808)) := by
  obtain ⟨a, ha⟩ : ∃ a, a = p / 18446744073709551616 := ⟨_, rfl⟩
  obtain ⟨l, hl⟩ : ∃ l, l = p % 18446744073709551616 := ⟨_, rfl⟩
  have e : p = 18446744073709551616 * a + l := by omega
  have hl0 : 0 ≤ l ∧ l < 18446744073709551616 := by omega
  have ha0 : -9223372036854775808 ≤ a ∧ a < 9223372036854775808 := by omega
  unfold I64 at h
  rw [← ha, ← hl, wu, wrap64_def]
  clear ha hl h0 h1
  subst e
  by_cases c : l < 9223372036854775808
  · have e1 : (l + 9223372036854775808) % 18446744073709551616 - 9223372036854775808 = l := by omega
    rw [e1]
    have e2 : l / 9223372036854775808 = 0 := by omega
    rw [e2]
    omega
  · have e1 : (l + 9223372036854775808) % 18446744073709551616 - 9223372036854775808 = l - 18446744073709551616 := by omega
    rw [e1]
    have e2 : (l - 18446744073709551616) / 9223372036854775808 = -1 := by omega
    rw [e2]
    omega
theorem down_spec {p f : Int} (h0 : -170141183460469231731687303715884105728 ≤ p) (h1 : p < 170141183460469231731687303715884105728) (hf0 : 0 < f) (hf : f ≤ 30) :
    IntKind.u64.wrap (wrap64 (p / 18446744073709551616 % 18446744073709551616) / 2 ^ f.toNat) = p / 2 ^ f.toNat / 18446744073709551616 % 18446744073709551616 ∧
    Go.bits .or .u64 (IntKind.u64.wrap (p / 18446744073709551616 % 18446744073709551616 * 2 ^ (64 - f).toNat)) (p % 18446744073709551616 / 2 ^ f.toNat) = p / 2 ^ f.toNat % 18446744073709551616 := by
  have hc : f = 1 ∨ f = 2 ∨ f = 3 ∨ f = 4 ∨ f = 5 ∨ f = 6 ∨ f = 7 ∨ f = 8 ∨ f = 9 ∨ f = 10 ∨ f = 11 ∨ f = 12 ∨ f = 13 ∨ f = 14 ∨ f = 15 ∨ f = 16 ∨ f = 17 ∨ f = 18 ∨ f = 19 ∨ f = 20 ∨ f = 21 ∨ f = 22 ∨ f = 23 ∨ f = 24 ∨ f = 25 ∨ f = 26 ∨ f = 27 ∨ f = 28 ∨ f = 29 ∨ f = 30 := by omega
  rcases hc with rfl | rfl | rfl | rfl | rfl | rfl | rfl | rfl | rfl | rfl | rfl | rfl | rfl | rfl | rfl | rfl | rfl | rfl | rfl | rfl | rfl | rfl | rfl | rfl | rfl | rfl | rfl | rfl | rfl | rfl
  · simp only [Int.reduceToNat, Int.reduceSub, Int.reducePow, wu, wrap64_def]
    refine ⟨by omega, ?_⟩
    rw [or_join 63 (by unfold U64; omega) (by simp only [Int.reducePow]; omega) (by omega) (by simp only [Int.reducePow]; omega) (by unfold U64; omega)]
    omega
  · simp only [Int.reduceToNat, Int.reduceSub, Int.reducePow, wu, wrap64_def]
    refine ⟨by omega, ?_⟩
    rw [or_join 62 (by unfold U64; omega) (by simp only [Int.reducePow]; omega) (by omega) (by simp only [Int.reducePow]; omega) (by unfold U64; omega)]
    omega
  · simp only [Int.reduceToNat, Int.reduceSub, Int.reducePow, wu, wrap64_def]
    refine ⟨by omega, ?_⟩
    rw [or_join 61 (by unfold U64; omega) (by simp only [Int.reducePow]; omega) (by omega) (by simp only [Int.reducePow]; omega) (by unfold U64; omega)]
    omega
  · simp only [Int.reduceToNat, Int.reduceSub, Int.reducePow, wu, wrap64_def]
    refine ⟨by omega, ?_⟩
    rw [or_join 60 (by unfold U64; omega) (by simp only [Int.reducePow]; omega) (by omega) (by simp only [Int.reducePow]; omega) (by unfold U64; omega)]
    omega
  · simp only [Int.reduceToNat, Int.reduceSub, Int.reducePow, wu, wrap64_def]
    refine ⟨by omega, ?_⟩
    rw [or_join 59 (by unfold U64; omega) (by simp only [Int.reducePow]; omega) (by omega) (by simp only [Int.reducePow]; omega) (by unfold U64; omega)]
    omega
  · simp only [Int.reduceToNat, Int.reduceSub, Int.reducePow, wu, wrap64_def]
    refine ⟨by omega, ?_⟩
    rw [or_join 58 (by unfold U64; omega) (by simp only [Int.reducePow]; omega) (by omega) (by simp only [Int.reducePow]; omega) (by unfold U64; omega)]
    omega
  · simp only [Int.reduceToNat, Int.reduceSub, Int.reducePow, wu, wrap64_def]
    refine ⟨by omega, ?_⟩
    rw [or_join 57 (by unfold U64; omega) (by simp only [Int.reducePow]; omega) (by omega) (by simp only [Int.reducePow]; omega) (by unfold U64; omega)]
    omega
  · simp only [Int.reduceToNat, Int.reduceSub, Int.reducePow, wu, wrap64_def]
    refine ⟨by omega, ?_⟩
    rw [or_join 56 (by unfold U64; omega) (by simp only [Int.reducePow]; omega) (by omega) (by simp only [Int.reducePow]; omega) (by unfold U64; omega)]
    omega
  · simp only [Int.reduceToNat, Int.reduceSub, Int.reducePow, wu, wrap64_def]
    refine ⟨by omega, ?_⟩
    rw [or_join 55 (by unfold U64; omega) (by simp only [Int.reducePow]; omega) (by omega) (by simp only [Int.reducePow]; omega) (by unfold U64; omega)]
    omega
  · simp only [Int.reduceToNat, Int.reduceSub, Int.reducePow, wu, wrap64_def]
    refine ⟨by omega, ?_⟩
    rw [or_join 54 (by unfold U64; omega) (by simp only [Int.reducePow]; omega) (by omega) (by simp only [Int.reducePow]; omega) (by unfold U64; omega)]
    omega
  · simp only [Int.reduceToNat, Int.reduceSub, Int.reducePow, wu, wrap64_def]
    refine ⟨by omega, ?_⟩
    rw [or_join 53 (by unfold U64; omega) (by simp only [Int.reducePow]; omega) (by omega) (by simp only [Int.reducePow]; omega) (by unfold U64; omega)]
    omega
  · simp only [Int.reduceToNat, Int.reduceSub, Int.reducePow, wu, wrap64_def]
    refine ⟨by omega, ?_⟩
    rw [or_join 52 (by unfold U64; omega) (by simp only [Int.reducePow]; omega) (by omega) (by simp only [Int.reducePow]; omega) (by unfold U64; omega)]
    omega
  · simp only [Int.reduceToNat, Int.reduceSub, Int.reducePow, wu, wrap64_def]
    refine ⟨by omega, ?_⟩
    rw [or_join 51 (by unfold U64; omega) (by simp only [Int.reducePow]; omega) (by omega) (by simp only [Int.reducePow]; omega) (by unfold U64; omega)]
    omega
  · simp only [Int.reduceToNat, Int.reduceSub, Int.reducePow, wu, wrap64_def]
    refine ⟨by omega, ?_⟩
    rw [or_join 50 (by unfold U64; omega) (by simp only [Int.reducePow]; omega) (by omega) (by simp only [Int.reducePow]; omega) (by unfold U64; omega)]
    omega
  · simp only [Int.reduceToNat, Int.reduceSub, Int.reducePow, wu, wrap64_def]
    refine ⟨by omega, ?_⟩
    rw [or_join 49 (by unfold U64; omega) (by simp only [Int.reducePow]; omega) (by omega) (by simp only [Int.reducePow]; omega) (by unfold U64; omega)]
    omega
  · simp only [Int.reduceToNat, Int.reduceSub, Int.reducePow, wu, wrap64_def]
    refine ⟨by omega, ?_⟩
    rw [or_join 48 (by unfold U64; omega) (by simp only [Int.reducePow]; omega) (by omega) (by simp only [Int.reducePow]; omega) (by unfold U64; omega)]
    omega
  · simp only [Int.reduceToNat, Int.reduceSub, Int.reducePow, wu, wrap64_def]
    refine ⟨by omega, ?_⟩
    rw [or_join 47 (by unfold U64; omega) (by simp only [Int.reducePow]; omega) (by omega) (by simp only [Int.reducePow]; omega) (by unfold U64; omega)]
    omega
  · simp only [Int.reduceToNat, Int.reduceSub, Int.reducePow, wu, wrap64_def]
    refine ⟨by omega, ?_⟩
    rw [or_join 46 (by unfold U64; omega) (by simp only [Int.reducePow]; omega) (by omega) (by simp only [Int.reducePow]; omega) (by unfold U64; omega)]
    omega
  · simp only [Int.reduceToNat, Int.reduceSub, Int.reducePow, wu, wrap64_def]
    refine ⟨by omega, ?_⟩
    rw [or_join 45 (by unfold U64; omega) (by simp only [Int.reducePow]; omega) (by omega) (by simp only [Int.reducePow]; omega) (by unfold U64; omega)]
    omega
  · simp only [Int.reduceToNat, Int.reduceSub, Int.reducePow, wu, wrap64_def]
    refine ⟨by omega, ?_⟩
    rw [or_join 44 (by unfold U64; omega) (by simp only [Int.reducePow]; omega) (by omega) (by simp only [Int.reducePow]; omega) (by unfold U64; omega)]
    omega
  · simp only [Int.reduceToNat, Int.reduceSub, Int.reducePow, wu, wrap64_def]
    refine ⟨by omega, ?_⟩
    rw [or_join 43 (by unfold U64; omega) (by simp only [Int.reducePow]; omega) (by omega) (by simp only [Int.reducePow]; omega) (by unfold U64; omega)]
    omega
  · simp only [Int.reduceToNat, Int.reduceSub, Int.reducePow, wu, wrap64_def]
    refine ⟨by omega, ?_⟩
    rw [or_join 42 (by unfold U64; omega) (by simp only [Int.reducePow]; omega) (by omega) (by simp only [Int.reducePow]; omega) (by unfold U64; omega)]
    omega
  · simp only [Int.reduceToNat, Int.reduceSub, Int.reducePow, wu, wrap64_def]
    refine ⟨by omega, ?_⟩
    rw [or_join 41 (by unfold U64; omega) (by simp only [Int.reducePow]; omega) (by omega) (by simp only [Int.reducePow]; omega) (by unfold U64; omega)]
    omega
  · simp only [Int.reduceToNat, Int.reduceSub, Int.reducePow, wu, wrap64_def]
    refine ⟨by omega, ?_⟩
    rw [or_join 40 (by unfold U64; omega) (by simp only [Int.reducePow]; omega) (by omega) (by simp only [Int.reducePow]; omega) (by unfold U64; omega)]
    omega
  · simp only [Int.reduceToNat, Int.reduceSub, Int.reducePow, wu, wrap64_def]
    refine ⟨by omega, ?_⟩
    rw [or_join 39 (by unfold U64; omega) (by simp only [Int.reducePow]; omega) (by omega) (by simp only [Int.reducePow]; omega) (by unfold U64; omega)]
    omega
  · simp only [Int.reduceToNat, Int.reduceSub, Int.reducePow, wu, wrap64_def]
    refine ⟨by omega, ?_⟩
    rw [or_join 38 (by unfold U64; omega) (by simp only [Int.reducePow]; omega) (by omega) (by simp only [Int.reducePow]; omega) (by unfold U64; omega)]
    omega
  · simp only [Int.reduceToNat, Int.reduceSub, Int.reducePow, wu, wrap64_def]
    refine ⟨by omega, ?_⟩
    rw [or_join 37 (by unfold U64; omega) (by simp only [Int.reducePow]; omega) (by omega) (by simp only [Int.reducePow]; omega) (by unfold U64; omega)]
    omega
  · simp only [Int.reduceToNat, Int.reduceSub, Int.reducePow, wu, wrap64_def]
    refine ⟨by omega, ?_⟩
    rw [or_join 36 (by unfold U64; omega) (by simp only [Int.reducePow]; omega) (by omega) (by simp only [Int.reducePow]; omega) (by unfold U64; omega)]
    omega
  · simp only [Int.reduceToNat, Int.reduceSub, Int.reducePow, wu, wrap64_def]
    refine ⟨by omega, ?_⟩
    rw [or_join 35 (by unfold U64; omega) (by simp only [Int.reducePow]; omega) (by omega) (by simp only [Int.reducePow]; omega) (by unfold U64; omega)]
    omega
  · simp only [Int.reduceToNat, Int.reduceSub, Int.reducePow, wu, wrap64_def]
    refine ⟨by omega, ?_⟩
    rw [or_join 34 (by unfold U64; omega) (by simp only [Int.reducePow]; omega) (by omega) (by simp only [Int.reducePow]; omega) (by unfold U64; omega)]
    omega

theorem neg_div (X : Int) {b : Int} (hb : 0 < b) : (-X) / b = if X % b > 0 then -(X / b) - 1 else -(X / b) := by
  have hdm := Int.emod_add_mul_ediv X b
  have hm0 := Int.emod_nonneg X (show b ≠ 0 by omega)
  have hm1 := Int.emod_lt_of_pos X hb
  have hdm2 := Int.emod_add_mul_ediv (-X) b
  have hn0 := Int.emod_nonneg (-X) (show b ≠ 0 by omega)
  have hn1 := Int.emod_lt_of_pos (-X) hb
  generalize (-X) / b = u at *
  generalize (-X) % b = m at *
  generalize X / b = v at *
  generalize X % b = l at *
  have e : b * (u + v) = -m - l := by rw [Int.mul_add]; omega
  rcases Int.lt_trichotomy (u + v) (-1) with k | k | k
  · have := Int.mul_le_mul_of_nonneg_left (show u + v ≤ -2 by omega) (show 0 ≤ b by omega)
    omega
  · rw [k] at e
    rw [if_pos (by omega)]; omega
  · rcases Int.lt_trichotomy (u + v) 0 with k2 | k2 | k2
    · omega
    · rw [k2] at e
      rw [if_neg (by omega)]; omega
    · have := Int.mul_le_mul_of_nonneg_left (show 1 ≤ u + v by omega) (show 0 ≤ b by omega)
      omega

/-! ### a division by digits -/
/-- What a digit's guess, the rest, and the digit have to do with one another. -/
structure Guess (y y1 y0 U u q r Q : Int) : Prop where
  hy : y = y1 * 4294967296 + y0
  y1l : 2147483648 ≤ y1
  y1u : y1 < 4294967296
  y0l : 0 ≤ y0
  y0u : y0 < 4294967296
  Ul : 0 ≤ U
  Uu : U < y
  ul : 0 ≤ u
  uu : u < 4294967296
  e : q * y1 + r = U
  r0 : 0 ≤ r
  ru : r < 4294967296
  q0 : 0 ≤ q
  qu : q ≤ 4294967297
  Qd : Q = (U * 4294967296 + u) / y
  Qq : Q ≤ q
namespace Guess
variable {y y1 y0 U u q r Q : Int}
theorem ypos (g : Guess y y1 y0 U u q r Q) : 0 < y := by have := g.hy; have := g.y1l; have := g.y0l; omega
theorem Q0 (g : Guess y y1 y0 U u q r Q) : 0 ≤ Q := by
  rw [g.Qd]; exact Int.ediv_nonneg (by have := g.Ul; have := g.ul; omega) (Int.le_of_lt g.ypos)
theorem Qlt (g : Guess y y1 y0 U u q r Q) : Q < 4294967296 := by
  rw [g.Qd, Int.ediv_lt_iff_lt_mul g.ypos]
  have := g.Uu; have := g.uu; omega
/-- A number is above the digit just where its product is above. -/
theorem test (g : Guess y y1 y0 U u q r Q) (x : Int) : Q < x ↔ U * 4294967296 + u < x * y := by
  rw [g.Qd]; exact Int.ediv_lt_iff_lt_mul g.ypos
theorem prod (g : Guess y y1 y0 U u q r Q) : q * y = (U - r) * 4294967296 + q * y0 := by
  rw [g.hy, ← g.e]; grind
theorem above (g : Guess y y1 y0 U u q r Q) : Q < q ↔ 4294967296 * r + u < q * y0 := by
  rw [g.test q, g.prod]; omega
theorem small (g : Guess y y1 y0 U u q r Q) (h : q < 4294967296) : 0 ≤ q * y0 ∧ q * y0 ≤ 18446744065119617025 := by
  refine ⟨Int.mul_nonneg g.q0 g.y0l, ?_⟩
  exact Int.mul_le_mul (show q ≤ 4294967295 by omega) (show y0 ≤ 4294967295 by have := g.y0u; omega) g.y0l (by omega)
/-- One less. -/
theorem less (g : Guess y y1 y0 U u q r Q) : (q - 1) * y1 + (r + y1) = U := by
  have := g.e
  have e2 : (q - 1) * y1 = q * y1 - y1 := by grind
  omega
theorem stop (g : Guess y y1 y0 U u q r Q) (h : Q < q) (hr : 4294967296 ≤ r + y1) : q - 1 = Q := by
  have hl := g.less
  have hp : (q - 1) * y = (U - (r + y1)) * 4294967296 + (q - 1) * y0 := by rw [g.hy, ← hl]; grind
  have hb : (q - 1) * y0 ≤ 4294967296 * 4294967295 := by
    have := g.qu; have := g.y0u; have := g.Q0
    exact Int.mul_le_mul (by omega) (by omega) g.y0l (by omega)
  have hn : ¬ Q < q - 1 := by
    rw [g.test, hp]
    have := g.ul
    omega
  omega
theorem next (g : Guess y y1 y0 U u q r Q) (h : Q < q) (hr : r + y1 < 4294967296) : Guess y y1 y0 U u (q - 1) (r + y1) Q :=
  { g with e := g.less, r0 := by have := g.r0; have := g.y1l; omega, ru := hr, q0 := by have := g.Q0; omega, qu := by have := g.qu; omega, Qq := by omega }
/-- The first guess. -/
theorem first (hy : y = y1 * 4294967296 + y0) (y1l : 2147483648 ≤ y1) (y1u : y1 < 4294967296) (y0l : 0 ≤ y0) (y0u : y0 < 4294967296) (Ul : 0 ≤ U) (Uu : U < y) (ul : 0 ≤ u) (uu : u < 4294967296) :
    Guess y y1 y0 U u (U / y1) (U - U / y1 * y1) ((U * 4294967296 + u) / y) := by
  have hp : 0 < y1 := by omega
  have hm := Int.emod_add_mul_ediv U y1
  have hm0 := Int.emod_nonneg U (show y1 ≠ 0 by omega)
  have hm1 := Int.emod_lt_of_pos U hp
  have hc : y1 * (U / y1) = U / y1 * y1 := Int.mul_comm _ _
  refine ⟨hy, y1l, y1u, y0l, y0u, Ul, Uu, ul, uu, by omega, by omega, by omega, Int.ediv_nonneg Ul (by omega), ?_, rfl, ?_⟩
  · have : U / y1 < 4294967298 := by
      rw [Int.ediv_lt_iff_lt_mul hp]; omega
    omega
  · have hyp : 0 < y := by omega
    rw [Int.le_ediv_iff_mul_le hp]
    generalize hQ : (U * 4294967296 + u) / y = Q
    have h1 : Q * y ≤ U * 4294967296 + u := by rw [← hQ]; exact Int.ediv_mul_le _ (by omega)
    have hQ0 : 0 ≤ Q := by rw [← hQ]; exact Int.ediv_nonneg (by omega) (by omega)
    have h2 : Q * y = Q * y1 * 4294967296 + Q * y0 := by rw [hy]; grind
    have h3 : 0 ≤ Q * y0 := Int.mul_nonneg hQ0 y0l
    omega
end Guess

end Go.Proofs.Ytbnfejaeekljcaa.Sp
