/- What Go functions do, each as a plain Lean function with the same answers, and the proof of it, in every world: printed by the session's driver over the kit's print, with texts by hand. -/
import Derived.Test.YtfbdalnjijdknaaHTx0
import Derived.Test.YtfbdalnjijdknaaHTx4
import Derived.Test.YtfbdalnjijdknaaHTx5
namespace Go.Proofs.Ytfbdalnjijdknaa.HT
open Go.RowKit Go.Proofs.YtfbdalnjijdknaaW.PrintWords Go.Proofs.YtfbdalnjijdknaaW.PrintLast Go.Proofs.YtfbdalnjijdknaaW.PrintMore
attribute [local go_sem] max2_int min2_int max_two min_two max_three min_three max_four min_four   -- for this text's walks alone
open Go.Proofs.Ytfbdalnjijdknaa.Sp
attribute [local go_sem] Go.Proofs.Ytfbdalnjijdknaa.Sp.u64_not
set_option linter.unusedVariables false
set_option linter.unusedSimpArgs false

/-! ### table_Exp: function 55 -/
def table_Exp.f (a0 a1 : Int) : Option (Int × Int) := if I64 a0 ∧ I64 a1 then some (expF a0 a1) else none
theorem table_Exp.of (a0 a1 : Int)  (h_ : I64 a0 ∧ I64 a1) : table_Exp.f a0 a1 = some (expF a0 a1) := if_pos h_
set_option maxHeartbeats 4000000 in
set_option maxRecDepth 100000 in
theorem table_Exp.ok (a0 a1 : Int) (w : World) (h00 : I64 a0) (h0 : 0 ≤ a1) (h1 : a1 ≤ 30) (h2 : a0 ≤ 0) (h3 : I64 (-a0)) :
    Calls Try.prog 55 #[.int .i64 a0, .int .i64 a1] w fun e w' => e = .returned (.tuple #[.int .i64 ((expF a0 a1).1), .int .i64 0]) ∧ Below w.heap.size w w' := by
  have k1 : decide (a1 < 0) = false := decide_eq_false (by omega)
  have k2 : decide (30 < a1) = false := decide_eq_false (by omega)
  have k3 : decide (0 < a0) = false := decide_eq_false (by omega)
  have HNEG : Aside0 (fix_Neg.f a0 = some (-a0, 0)) := ⟨by rw [fix_Neg.of a0 h00, res_of h3]⟩
  have HROW := Aside0.mk (row_spell (y := -a0) (f := a1) (by omega) h3 ⟨h0, h1⟩)
  have HCNT := Aside0.mk (cnt_spell (y := -a0) (f := a1) (by omega) h3 ⟨h0, h1⟩)
  have hrow := row_lt_ (-a0) (f := a1)
  have HE : Aside0 ((expF a0 a1).1 = rd tabL (-a0 % 2 ^ a1.toNat * 16 / 2 ^ a1.toNat) / 2 ^ (-a0 / 2 ^ a1.toNat + (30 - a1)).toNat) := ⟨by unfold expF; rw [if_neg (by omega), if_pos h3]⟩
  have hcnt0 : 0 ≤ -a0 / 2 ^ a1.toNat + (30 - a1) := by have := Int.ediv_nonneg (show 0 ≤ -a0 by omega) (Int.le_of_lt (pow_pos_ a1.toNat)); omega
  generalize hy : -a0 = y at *
  generalize hq : y % 2 ^ a1.toNat * 16 / 2 ^ a1.toNat = row at *
  generalize hc_ : y / 2 ^ a1.toNat + (30 - a1) = cnt at *
  have tb := tab_bd_ row hrow
  have hr0 : 0 ≤ row := hrow.1
  have hr1 : row < 17 := by omega
  have H := Aside0.mk (show 0 ≤ a1 ∧ a1 ≤ 30 from ⟨h0, h1⟩)
  clear h1 h2 h3 h00 hy hq hc_ hrow
  go_enter Try.func55, Try.ntmps55
  go_wp2_with (go_at_call 118; (with_reducible refine (fix_Neg.calls a0 y 0 _ HNEG.out).mono ?_); rintro ed W1 ⟨rfl, ⟨nd, rfl⟩⟩)
  simp only [HROW.out]
  go_wp2_with (go_at_call 119; (with_reducible refine (table_rows.gen _).mono ?_); rintro ed W1 ⟨rfl, hb⟩; have HB := Aside0.mk hb; clear hb; have hst := store_arr (P := Try.prog) W1 114 #[.int .u64 0, .int .u64 0, .int .u64 0, .int .u64 0, .int .u64 0, .int .u64 0, .int .u64 0, .int .u64 0, .int .u64 0, .int .u64 0, .int .u64 0, .int .u64 0, .int .u64 0, .int .u64 0, .int .u64 0, .int .u64 0, .int .u64 0] tabL rfl)
  have hx := arr_at W1 114 tabL row hr0 (by show row < 17; omega)
  obtain ⟨t0, ht0⟩ : ∃ t0, rd tabL row = t0 := ⟨_, rfl⟩
  rw [ht0] at hx tb
  have HE2 := HE.out
  rw [ht0] at HE2
  have HE3 := Aside0.mk HE2
  have hr2 : (row.toNat : Int) < 17 := by omega
  have hcnt := HCNT.out
  have TB := Aside0.mk tb
  clear HE HE2 tb ht0
  rcases Int.lt_or_le 63 cnt with hc | hc
  · have hd : decide (63 < cnt) = true := decide_eq_true hc
    go_region_held3 (fun w' => w'.cell? ⟨W1.heap.size, row.toNat, none⟩ = some (.int .u64 t0)) (go_keep) (fail)
    go_wp2
    go_ret2
    refine ⟨?_, below_drew (below_alloc (below_then (pw_below_drewN (Below.refl _ _) nd) (Nat.le_refl _) HB.out) _)⟩
    rw [HE3.out, far_zero TB.out.1 TB.out.2 (by omega)]
    have := TB.out
    rw [show t0 / 9223372036854775808 = 0 by omega]; rfl
  · have hd : decide (63 < cnt) = false := decide_eq_false (by omega)
    go_region_held3 (fun w' => w'.cell? ⟨W1.heap.size, row.toNat, none⟩ = some (.int .u64 t0)) (go_keep) (fail)
    go_wp2
    go_ret2
    refine ⟨?_, below_drew (below_alloc (below_then (pw_below_drewN (Below.refl _ _) nd) (Nat.le_refl _) HB.out) _)⟩
    have hpp := pow_pos_ cnt.toNat
    have q0 := Int.ediv_nonneg TB.out.1 (Int.le_of_lt hpp)
    have q1 := Int.ediv_le_self (2 ^ cnt.toNat) TB.out.1
    have := TB.out
    rw [HE3.out]
    have hw : IntKind.i64.wrap (t0 / 2 ^ cnt.toNat) = t0 / 2 ^ cnt.toNat := (iwrap _).trans (wrap64_of (by unfold I64; omega))
    simp only [show min cnt.toNat 64 = cnt.toNat by omega, hw]
    rfl
set_option maxHeartbeats 4000000 in
set_option maxRecDepth 100000 in
theorem table_Exp.calls (a0 : Int) (a1 : Int) (r1 : Int) (r2 : Int) (w : World) (h : table_Exp.f a0 a1 = some (r1, r2)) :
    Calls Try.prog 55 #[.int .i64 a0, .int .i64 a1] w fun e w' => e = .returned (.tuple #[.int .i64 r1, .int .i64 r2]) ∧ Below w.heap.size w w' := by
  unfold table_Exp.f at h
  split at h
  case isFalse => cases h
  rename_i hv
  have h := Option.some.inj h
  have hI := hv.1
  have bad : ∀ (w : World), a1 < 0 ∨ a1 > 30 ∨ a0 > 0 → Calls Try.prog 55 #[.int .i64 a0, .int .i64 a1] w fun e w' => e = .returned (.tuple #[.int .i64 0, .int .i64 1]) ∧ Below w.heap.size w w' := by
    intro w hh
    clear h hv hI
    rcases Bool.eq_false_or_eq_true (decide (a1 < 0)) with k1 | k1
    · clear hh
      go_enter Try.func55, Try.ntmps55
      go_wp2
      go_ret2
      exact ⟨rfl, Below.refl _ _⟩
    · rcases Bool.eq_false_or_eq_true (decide (30 < a1)) with k2 | k2
      · clear hh
        go_enter Try.func55, Try.ntmps55
        go_wp2
        go_ret2
        exact ⟨rfl, Below.refl _ _⟩
      · have k3 : decide (0 < a0) = true := decide_eq_true (by simp only [decide_eq_false_iff_not] at k1 k2; omega)
        clear hh
        go_enter Try.func55, Try.ntmps55
        go_wp2
        go_ret2
        exact ⟨rfl, Below.refl _ _⟩
  by_cases hb : a1 < 0 ∨ a1 > 30 ∨ a0 > 0
  · unfold expF at h
    rw [if_pos hb] at h
    cases h
    exact bad w hb
  · by_cases h3 : I64 (-a0)
    · have e := table_Exp.ok a0 a1 w hI (by omega) (by omega) (by omega) h3
      rw [h] at e
      have e2 : r2 = 0 := by unfold expF at h; rw [if_neg hb, if_pos h3] at h; exact (congrArg Prod.snd h).symm
      subst e2
      exact e
    · unfold expF at h
      rw [if_neg hb, if_neg h3] at h
      cases h
      have k1 : decide (a1 < 0) = false := decide_eq_false (by omega)
      have k2 : decide (30 < a1) = false := decide_eq_false (by omega)
      have k3 : decide (0 < a0) = false := decide_eq_false (by omega)
      have HNEG : Aside0 (fix_Neg.f a0 = some (0, 2)) := ⟨by rw [fix_Neg.of a0 hI, res_not h3]⟩
      clear bad hv hI hb h3
      go_enter Try.func55, Try.ntmps55
      go_wp2_with (go_at_call 118; (with_reducible refine (fix_Neg.calls a0 0 2 _ HNEG.out).mono ?_); rintro ed W1 ⟨rfl, ⟨nd, rfl⟩⟩)
      go_ret2
      exact ⟨rfl, pw_below_drewN (Below.refl _ _) _⟩


/-! ### fix_behindP: function 154 -/
def fix_behindP.f (a0 : Int) : Option (Bool) := if a0 ≥ 0 then (some (decide (a0 ≤ 30))) else (some false)
set_option maxHeartbeats 8000000 in
set_option maxRecDepth 100000 in
theorem fix_behindP.calls (a0 : Int) (r : Bool) (w : World) (h : fix_behindP.f a0 = some r) :
    Calls Try.prog 154 #[.int .i64 a0] w fun e w' => e = .returned (.bool r) ∧ Drawn0 w w' := by
  have H : (if a0 ≥ 0 then (some (decide (a0 ≤ 30))) else (some false)) = some r := h
  clear h
  by_cases c2 : a0 ≥ 0
  · rw [if_pos c2] at H
    have c2b0 : decide (0 ≤ a0) = true := decide_eq_true c2
    clear c2
    obtain rfl := Option.some.inj H
    go_enter Try.func154, Try.ntmps154
    go_wp2
    go_ret
    exact ⟨by first | rfl | (simp; done) | (simp [*]; done), by repeat (first | exact Drawn0.refl _ | apply Drawn0.step)⟩
  · rw [if_neg c2] at H
    have c2b0 : decide (0 ≤ a0) = false := decide_eq_false c2
    clear c2
    obtain rfl := Option.some.inj H
    go_enter Try.func154, Try.ntmps154
    go_wp2
    go_ret
    exact ⟨by first | rfl | (simp; done) | (simp [*]; done), by repeat (first | exact Drawn0.refl _ | apply Drawn0.step)⟩

def fix_behind.f (a0 : Int) : Option Bool := some (decide (0 ≤ a0 ∧ a0 ≤ 30))
theorem fix_behind.calls (a0 : Int) (r : Bool) (w : World) (h : fix_behind.f a0 = some r) :
    Calls Try.prog 154 #[.int .i64 a0] w fun e w' => e = .returned (.bool r) ∧ Drawn0 w w' := by
  refine fix_behindP.calls a0 r w ?_
  rw [← h]; unfold fix_behindP.f fix_behind.f
  by_cases c : a0 ≥ 0
  · rw [if_pos c]; simp [c]
  · rw [if_neg c]; simp [c]


/-! ### bits_Mul64P: function 155 -/
def bits_Mul64P.f (a0 : Int) (a1 : Int) : Option (Int × Int) := some (IntKind.u64.wrap ((IntKind.u64.wrap ((IntKind.u64.wrap ((a0 / 4294967296) * (a1 / 4294967296))) + ((IntKind.u64.wrap ((IntKind.u64.wrap ((a0 / 4294967296) * (Go.bits .and .u64 a1 4294967295))) + ((IntKind.u64.wrap ((Go.bits .and .u64 a0 4294967295) * (Go.bits .and .u64 a1 4294967295))) / 4294967296))) / 4294967296))) + ((IntKind.u64.wrap ((Go.bits .and .u64 (IntKind.u64.wrap ((IntKind.u64.wrap ((a0 / 4294967296) * (Go.bits .and .u64 a1 4294967295))) + ((IntKind.u64.wrap ((Go.bits .and .u64 a0 4294967295) * (Go.bits .and .u64 a1 4294967295))) / 4294967296))) 4294967295) + (IntKind.u64.wrap ((Go.bits .and .u64 a0 4294967295) * (a1 / 4294967296))))) / 4294967296)), IntKind.u64.wrap (a0 * a1))
set_option maxHeartbeats 8000000 in
set_option maxRecDepth 100000 in
theorem bits_Mul64P.calls (a0 : Int) (a1 : Int) (r1 : Int) (r2 : Int) (w : World) (h : bits_Mul64P.f a0 a1 = some (r1, r2)) :
    Calls Try.prog 155 #[.int .u64 a0, .int .u64 a1] w fun e w' => e = .returned (.tuple #[.int .u64 r1, .int .u64 r2]) ∧ Drawn0 w w' := by
  have H : (some (IntKind.u64.wrap ((IntKind.u64.wrap ((IntKind.u64.wrap ((a0 / 4294967296) * (a1 / 4294967296))) + ((IntKind.u64.wrap ((IntKind.u64.wrap ((a0 / 4294967296) * (Go.bits .and .u64 a1 4294967295))) + ((IntKind.u64.wrap ((Go.bits .and .u64 a0 4294967295) * (Go.bits .and .u64 a1 4294967295))) / 4294967296))) / 4294967296))) + ((IntKind.u64.wrap ((Go.bits .and .u64 (IntKind.u64.wrap ((IntKind.u64.wrap ((a0 / 4294967296) * (Go.bits .and .u64 a1 4294967295))) + ((IntKind.u64.wrap ((Go.bits .and .u64 a0 4294967295) * (Go.bits .and .u64 a1 4294967295))) / 4294967296))) 4294967295) + (IntKind.u64.wrap ((Go.bits .and .u64 a0 4294967295) * (a1 / 4294967296))))) / 4294967296)), IntKind.u64.wrap (a0 * a1))) = some (r1, r2) := h
  clear h
  simp only [Option.some.injEq, Prod.mk.injEq] at H
  obtain ⟨rfl, rfl⟩ := H
  go_enter Try.func155, Try.ntmps155
  go_wp2
  go_ret2
  exact ⟨by first | rfl | (simp; done) | (simp [*]; done), by repeat (first | exact Drawn0.refl _ | apply Drawn0.step)⟩

def bits_Mul64.f (a0 a1 : Int) : Option (Int × Int) := if U64 a0 ∧ U64 a1 then some (a0 * a1 / 18446744073709551616, a0 * a1 % 18446744073709551616) else none
theorem bits_Mul64.of (a0 a1 : Int)  (h_ : U64 a0 ∧ U64 a1) : bits_Mul64.f a0 a1 = some (a0 * a1 / 18446744073709551616, a0 * a1 % 18446744073709551616) := if_pos h_
theorem bits_Mul64P.spec {a0 a1 : Int} (h0 : U64 a0) (h1 : U64 a1) : bits_Mul64P.f a0 a1 = some (a0 * a1 / 18446744073709551616, a0 * a1 % 18446744073709551616) := by
  unfold bits_Mul64P.f
  rw [and32 h0, and32 h1]
  unfold U64 at h0 h1
  obtain ⟨x, rfl⟩ := Int.eq_ofNat_of_zero_le h0.1
  obtain ⟨y, rfl⟩ := Int.eq_ofNat_of_zero_le h1.1
  have hx : x < 18446744073709551616 := by omega
  have hy : y < 18446744073709551616 := by omega
  have hm : ((x * y / 18446744073709551616 : Nat) : Int) = (x : Int) * y / 18446744073709551616 := by simp
  obtain ⟨k1, k2, k3, k4⟩ := Lib.mul64_hi x y hx hy
  have e1 : (x : Int) / 4294967296 * ((y : Int) / 4294967296) = ((x / 4294967296 * (y / 4294967296) : Nat) : Int) := by simp
  have e2 : (x : Int) / 4294967296 * ((y : Int) % 4294967296) = ((x / 4294967296 * (y % 4294967296) : Nat) : Int) := by simp
  have e3 : (x : Int) % 4294967296 * ((y : Int) % 4294967296) = ((x % 4294967296 * (y % 4294967296) : Nat) : Int) := by simp
  have e4 : (x : Int) % 4294967296 * ((y : Int) / 4294967296) = ((x % 4294967296 * (y / 4294967296) : Nat) : Int) := by simp
  have ha := Lib.half_mul_le (a := x / 4294967296) (b := y / 4294967296) (by omega) (by omega)
  have hb := Lib.half_mul_le (a := x / 4294967296) (b := y % 4294967296) (by omega) (by omega)
  have hc := Lib.half_mul_le (a := x % 4294967296) (b := y / 4294967296) (by omega) (by omega)
  have hd := Lib.half_mul_le (a := x % 4294967296) (b := y % 4294967296) (by omega) (by omega)
  have hxy : x * y < 18446744073709551616 * 18446744073709551616 := by
    have := Nat.mul_le_mul (show x ≤ 18446744073709551615 by omega) (show y ≤ 18446744073709551615 by omega); omega
  rw [← hm]
  simp only [wu, and32m, e1, e2, e3, e4, Option.some.injEq, Prod.mk.injEq, and_true]
  clear e1 e2 e3 e4 hm
  generalize x / 4294967296 * (y / 4294967296) = a at *
  generalize x / 4294967296 * (y % 4294967296) = b at *
  generalize x % 4294967296 * (y / 4294967296) = c at *
  generalize x % 4294967296 * (y % 4294967296) = d at *
  generalize x * y = p at *
  omega
theorem bits_Mul64.calls (a0 : Int) (a1 : Int) (r1 : Int) (r2 : Int) (w : World) (h : bits_Mul64.f a0 a1 = some (r1, r2)) :
    Calls Try.prog 155 #[.int .u64 a0, .int .u64 a1] w fun e w' => e = .returned (.tuple #[.int .u64 r1, .int .u64 r2]) ∧ Drawn0 w w' := by
  unfold bits_Mul64.f at h
  split at h
  · rename_i hu
    exact bits_Mul64P.calls a0 a1 r1 r2 w ((bits_Mul64P.spec hu.1 hu.2).trans h)
  · cases h


/-! ### fix_sizeP: function 156 -/
def fix_sizeP.f (a0 : Int) : Option (Int) := if a0 < 0 then (some (IntKind.u64.wrap (-(IntKind.u64.wrap (a0))))) else (some (IntKind.u64.wrap (a0)))
set_option maxHeartbeats 8000000 in
set_option maxRecDepth 100000 in
theorem fix_sizeP.calls (a0 : Int) (r : Int) (w : World) (h : fix_sizeP.f a0 = some r) :
    Calls Try.prog 156 #[.int .i64 a0] w fun e w' => e = .returned (.int .u64 r) ∧ Drawn0 w w' := by
  have H : (if a0 < 0 then (some (IntKind.u64.wrap (-(IntKind.u64.wrap (a0))))) else (some (IntKind.u64.wrap (a0)))) = some r := h
  clear h
  by_cases c2 : a0 < 0
  · rw [if_pos c2] at H
    have c2b0 : decide (a0 < 0) = true := decide_eq_true c2
    clear c2
    obtain rfl := Option.some.inj H
    go_enter Try.func156, Try.ntmps156
    go_wp2
    go_ret
    exact ⟨by first | rfl | (simp; done) | (simp [*]; done), by repeat (first | exact Drawn0.refl _ | apply Drawn0.step)⟩
  · rw [if_neg c2] at H
    have c2b0 : decide (a0 < 0) = false := decide_eq_false c2
    clear c2
    obtain rfl := Option.some.inj H
    go_enter Try.func156, Try.ntmps156
    go_wp2
    go_ret
    exact ⟨by first | rfl | (simp; done) | (simp [*]; done), by repeat (first | exact Drawn0.refl _ | apply Drawn0.step)⟩

def fix_size.f (a0 : Int) : Option Int := if I64 a0 then some (a0.natAbs : Int) else none
theorem fix_size.of (a0 : Int)  (h_ : I64 a0) : fix_size.f a0 = some (a0.natAbs : Int) := if_pos h_
theorem fix_size.calls (a0 : Int) (r : Int) (w : World) (h : fix_size.f a0 = some r) :
    Calls Try.prog 156 #[.int .i64 a0] w fun e w' => e = .returned (.int .u64 r) ∧ Drawn0 w w' := by
  unfold fix_size.f at h
  split at h
  · rename_i hu
    refine fix_sizeP.calls a0 r w (Eq.trans ?_ h)
    unfold fix_sizeP.f; unfold I64 at hu; simp only [wu]
    split <;> simp only [Option.some.injEq] <;> omega
  · cases h


end Go.Proofs.Ytfbdalnjijdknaa.HT
