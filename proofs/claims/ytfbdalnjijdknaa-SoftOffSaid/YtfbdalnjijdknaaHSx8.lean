/- What Go functions do, each as a plain Lean function with the same answers, and the proof of it, in every world: printed by the session's driver over the kit's print, with texts by hand. -/
import Derived.Test.YtfbdalnjijdknaaHSx0
import Derived.Test.YtfbdalnjijdknaaHSx4
namespace Go.Proofs.Ytfbdalnjijdknaa.HS
open Go.RowKit Go.Proofs.YtfbdalnjijdknaaW.PrintWords Go.Proofs.YtfbdalnjijdknaaW.PrintLast Go.Proofs.YtfbdalnjijdknaaW.PrintMore
attribute [local go_sem] max2_int min2_int max_two min_two max_three min_three max_four min_four   -- for this text's walks alone
open Go.Proofs.Ytfbdalnjijdknaa.Sp
attribute [local go_sem] Go.Proofs.Ytfbdalnjijdknaa.Sp.u64_not
set_option linter.unusedVariables false
set_option linter.unusedSimpArgs false

/-! ### fix_times: function 166 -/
set_option maxRecDepth 100000 in
set_option maxHeartbeats 1000000 in
theorem fix_times.calls (a b : Int) (w : World) (ha : I64 a) (hb : I64 b) :
    Calls Try.prog 166 #[.int .i64 a, .int .i64 b] w fun e w' => e = .returned (.agg #[.int .u64 (a * b / 18446744073709551616 % 18446744073709551616), .int .u64 (a * b % 18446744073709551616)]) ∧ Below w.heap.size w w' := by
  have hm : bits_Mul64.f (IntKind.u64.wrap a) (IntKind.u64.wrap b) = some (IntKind.u64.wrap a * IntKind.u64.wrap b / 18446744073709551616, IntKind.u64.wrap a * IntKind.u64.wrap b % 18446744073709551616) := by
    unfold bits_Mul64.f; rw [if_pos ⟨by rw [wu]; unfold U64; omega, by rw [wu]; unfold U64; omega⟩]
  obtain ⟨h, hh⟩ : ∃ h, h = IntKind.u64.wrap a * IntKind.u64.wrap b / 18446744073709551616 := ⟨_, rfl⟩
  obtain ⟨l, hl⟩ : ∃ l, l = IntKind.u64.wrap a * IntKind.u64.wrap b % 18446744073709551616 := ⟨_, rfl⟩
  rw [← hh, ← hl] at hm
  have HM := Aside0.mk hm
  have HH := Aside0.mk hh
  have HL := Aside0.mk hl
  clear hm hh hl
  have fin : ∀ x y : Int, (if b < 0 then IntKind.u64.wrap ((if a < 0 then IntKind.u64.wrap (h - IntKind.u64.wrap b) else h) - IntKind.u64.wrap a) else (if a < 0 then IntKind.u64.wrap (h - IntKind.u64.wrap b) else h)) = x → l = y →
      x = a * b / 18446744073709551616 % 18446744073709551616 ∧ y = a * b % 18446744073709551616 := by
    rintro x y rfl rfl
    have hh := HH.out
    have hl := HL.out
    unfold I64 at ha hb
    simp only [wu] at hh hl ⊢
    have ea : a % 18446744073709551616 = if a < 0 then a + 18446744073709551616 else a := by split <;> omega
    have eb : b % 18446744073709551616 = if b < 0 then b + 18446744073709551616 else b := by split <;> omega
    rw [ea, eb] at hh hl
    by_cases c1 : a < 0 <;> by_cases c2 : b < 0 <;> simp only [c1, c2, if_true, if_false] at hh hl ⊢
    · have e : (a + 18446744073709551616) * (b + 18446744073709551616) = a * b + 18446744073709551616 * a + 18446744073709551616 * b + 18446744073709551616 * 18446744073709551616 := by grind
      rw [e] at hh hl
      generalize a * b = p at *
      omega
    · have e : (a + 18446744073709551616) * b = a * b + 18446744073709551616 * b := by grind
      rw [e] at hh hl
      generalize a * b = p at *
      omega
    · have e : a * (b + 18446744073709551616) = a * b + 18446744073709551616 * a := by grind
      rw [e] at hh hl
      generalize a * b = p at *
      omega
    · have hp : 0 ≤ a * b := Int.mul_nonneg (by omega) (by omega)
      have hq : a * b ≤ 9223372036854775807 * 9223372036854775807 := Int.mul_le_mul (by omega) (by omega) (by omega) (by omega)
      generalize a * b = p at *
      omega
  have FIN := Aside0.mk fin
  clear fin ha hb
  have hu := Try.underlying148
  by_cases c1 : a < 0 <;> by_cases c2 : b < 0
  all_goals
    have F := FIN.out _ _ rfl rfl
    simp only [c1, c2, if_true, if_false] at F
    have F0 := Aside0.mk F
    clear F FIN
    go_enter Try.func166, Try.ntmps166
    go_wp2_with (go_at_call 155; (with_reducible refine (bits_Mul64.calls (IntKind.u64.wrap a) (IntKind.u64.wrap b) h l _ HM.out).mono ?_); rintro e w' ⟨rfl, ⟨nd, rfl⟩⟩)
    obtain ⟨F1, F2⟩ := F0.out
    refine bodyPost_ret (v := .agg #[.int .u64 (a * b / 18446744073709551616 % 18446744073709551616), .int .u64 (a * b % 18446744073709551616)]) (by rw [← F1, ← F2]; simp [results, Try.results166, go_sem]) rfl ⟨rfl, ?_⟩
    exact ((zzN (zzA (Below.refl _ _) _) _).setCell (Nat.le_refl _) _).setCell (Nat.le_refl _) _


/-! ### fix_product_down: function 167 -/
set_option maxRecDepth 100000 in
set_option maxHeartbeats 1000000 in
theorem fix_product_down.zero (hi lo : Int) (w : World) :
    Calls Try.prog 167 #[.agg #[.int .u64 hi, .int .u64 lo], .int .i64 0] w fun e w' => e = .returned (.agg #[.int .u64 hi, .int .u64 lo]) ∧ Below w.heap.size w w' := by
  have hu := Try.underlying148
  go_enter Try.func167, Try.ntmps167
  go_wp2
  exact bodyPost_ret (v := .agg #[.int .u64 hi, .int .u64 lo]) (by simp [results, Try.results167, go_sem]) rfl ⟨rfl, zzA (zzA (Below.refl _ _) _) _⟩
set_option maxRecDepth 100000 in
set_option maxHeartbeats 1000000 in
theorem fix_product_down.calls (hi lo by_ : Int) (w : World) (h0 : U64 hi) (h1 : U64 lo) (hb0 : 0 < by_) (hb : by_ ≤ 30) :
    Calls Try.prog 167 #[.agg #[.int .u64 hi, .int .u64 lo], .int .i64 by_] w fun e w' => e = .returned (.agg #[.int .u64 (IntKind.u64.wrap (wrap64 hi / 2 ^ by_.toNat)), .int .u64 (Go.bits .or .u64 (IntKind.u64.wrap (hi * 2 ^ (64 - by_).toNat)) (lo / 2 ^ by_.toNat))]) ∧ Below w.heap.size w w' := by
  unfold U64 at h0 h1
  have hu := Try.underlying148
  have c0 : (by_ == 0) = false := beq_eq_false_iff_ne.2 (by omega)
  go_enter Try.func167, Try.ntmps167
  go_wp2
  go_region
  all_goals (try go_wp2)
  all_goals
    refine bodyPost_ret (v := .agg #[.int .u64 (IntKind.u64.wrap (wrap64 hi / 2 ^ by_.toNat)), .int .u64 (Go.bits .or .u64 (IntKind.u64.wrap (hi * 2 ^ (64 - by_).toNat)) (lo / 2 ^ by_.toNat))]) (by simp [results, Try.results167, go_sem]) rfl ⟨rfl, ?_⟩
    exact Below.drew (zzA (zzA (Below.refl _ _) _) _)


/-! ### fix_product_narrow: function 168 -/
set_option maxRecDepth 100000 in
set_option maxHeartbeats 1000000 in
theorem fix_product_narrow.calls (hi lo : Int) (w : World) (h0 : U64 hi) (h1 : U64 lo) :
    Calls Try.prog 168 #[.agg #[.int .u64 hi, .int .u64 lo]] w fun e w' => e = .returned (if hi = IntKind.u64.wrap (wrap64 lo / 9223372036854775808) then .tuple #[.int .i64 (wrap64 lo), .int .i64 0] else .tuple #[.int .i64 0, .int .i64 2]) ∧ Below w.heap.size w w' := by
  unfold U64 at h0 h1
  obtain ⟨i, hi_⟩ : ∃ i, Try.prog.info? 49 = some i := by have := info49; cases h : Try.prog.info? 49 with | none => rw [h] at this; cases this | some i => exact ⟨i, rfl⟩
  have hq := fun (a b c d : Int) (w : World) => run_eq_arr2 (P := Try.prog) (t := 148) (e := 49) (k := .u64) Try.underlying148 hi_ Try.underlying49 (by kernel_rfl) (by kernel_rfl) a b c d w
  clear hi_
  have hu := Try.underlying148
  by_cases c : hi = IntKind.u64.wrap (wrap64 lo / 9223372036854775808)
  · rw [if_pos c]
    have c0 : (hi == IntKind.u64.wrap (wrap64 lo / 9223372036854775808)) = true := beq_iff_eq.2 c
    clear c
    go_enter Try.func168, Try.ntmps168
    go_wp2
    go_ret2
    exact ⟨rfl, zzA (Below.refl _ _) _⟩
  · rw [if_neg c]
    have c0 : (hi == IntKind.u64.wrap (wrap64 lo / 9223372036854775808)) = false := beq_eq_false_iff_ne.2 c
    clear c
    go_enter Try.func168, Try.ntmps168
    go_wp2
    go_ret2
    exact ⟨rfl, zzA (Below.refl _ _) _⟩


/-! ### fix_Mul: function 131 -/
def fix_Mul.f (a0 a1 a2 : Int) : Option (Int × Int) := if I64 a0 ∧ I64 a1 then some (mulF a0 a1 a2) else none
theorem fix_Mul.of (a0 a1 a2 : Int)  (h_ : I64 a0 ∧ I64 a1) : fix_Mul.f a0 a1 a2 = some (mulF a0 a1 a2) := if_pos h_
set_option maxRecDepth 100000 in
set_option maxHeartbeats 1000000 in
theorem fix_Mul.calls (a0 : Int) (a1 : Int) (a2 : Int) (r1 : Int) (r2 : Int) (w : World) (h : fix_Mul.f a0 a1 a2 = some (r1, r2)) :
    Calls Try.prog 131 #[.int .i64 a0, .int .i64 a1, .int .i64 a2] w fun e w' => e = .returned (.tuple #[.int .i64 r1, .int .i64 r2]) ∧ Below w.heap.size w w' := by
  unfold fix_Mul.f at h
  split at h
  · rename_i hr
    obtain ⟨h0, h1⟩ := hr
    unfold mulF at h
    have hb1 : -170141183460469231731687303715884105728 ≤ a0 * a1 ∧ a0 * a1 < 170141183460469231731687303715884105728 := prod_bd h0 h1
    obtain ⟨p, hp⟩ : ∃ p, p = a0 * a1 := ⟨_, rfl⟩
    rw [← hp] at h hb1
    have HT : ∀ w : World, Calls Try.prog 166 #[.int .i64 a0, .int .i64 a1] w fun e w' => e = .returned (.agg #[.int .u64 (p / 18446744073709551616 % 18446744073709551616), .int .u64 (p % 18446744073709551616)]) ∧ Below w.heap.size w w' := fun w => by rw [hp]; exact fix_times.calls a0 a1 w h0 h1
    have HT0 := Aside0.mk HT
    clear HT hp h0 h1
    split at h
    · rename_i hf
      have hbe : fix_behind.f a2 = some true := by unfold fix_behind.f; rw [decide_eq_true hf]
      have HBE := Aside0.mk hbe
      clear hbe
      have hq : ∃ q, res q = (r1, r2) ∧ -170141183460469231731687303715884105728 ≤ q ∧ q < 170141183460469231731687303715884105728 ∧ q = p / 2 ^ a2.toNat := by
        refine ⟨_, Option.some.inj h, ?_, ?_, rfl⟩
        · exact (div_bd p _ (Nat.two_pow_pos a2.toNat) hb1.1 hb1.2).1
        · exact (div_bd p _ (Nat.two_pow_pos a2.toNat) hb1.1 hb1.2).2
      clear h
      obtain ⟨q, hq, hq0, hq1, hqp⟩ := hq
      have HN : ∀ w : World, Calls Try.prog 168 #[.agg #[.int .u64 (q / 18446744073709551616 % 18446744073709551616), .int .u64 (q % 18446744073709551616)]] w fun e w' => e = .returned (.tuple #[.int .i64 r1, .int .i64 r2]) ∧ Below w.heap.size w w' := by
        intro w
        have := fix_product_narrow.calls (q / 18446744073709551616 % 18446744073709551616) (q % 18446744073709551616) w (by unfold U64; omega) (by unfold U64; omega)
        by_cases c : I64 q
        · rw [res_of c] at hq
          obtain ⟨n1, n2⟩ := narrow_yes c
          rw [if_pos n1, n2] at this
          cases hq
          exact this
        · rw [res_not c] at hq
          rw [if_neg (narrow_no hq0 hq1 c)] at this
          cases hq
          exact this
      have HN0 := Aside0.mk HN
      clear HN hq
      by_cases c : a2 = 0
      · subst c
        have hqp' : q = p := by rw [hqp]; simp
        subst hqp'
        clear hqp
        go_enter Try.func131, Try.ntmps131
        go_wp2_with (first | (go_at_call 154; (with_reducible refine (fix_behind.calls 0 true _ HBE.out).mono ?_); rintro e w' ⟨rfl, ⟨nd, rfl⟩⟩; have B0 := Aside0.mk (zzN (Below.refl w.heap.size w) nd)) | (go_at_call 166; refine (HT0.out _).mono ?_; rintro e w1 ⟨rfl, hb_1⟩; have B1 := Aside0.mk (below_then B0.out B0.out.size hb_1); clear hb_1) | (go_at_call 167; refine (fix_product_down.zero _ _ _).mono ?_; rintro e w2 ⟨rfl, hb_2⟩; have B2 := Aside0.mk (below_then B1.out B1.out.size hb_2); clear hb_2) | (go_at_call 168; refine (HN0.out _).mono ?_; rintro e w3 ⟨rfl, hb_3⟩; have B3 := Aside0.mk (below_then B2.out B2.out.size hb_3); clear hb_3))
        go_ret2
        exact ⟨rfl, B3.out⟩
      · have HD : ∀ w : World, Calls Try.prog 167 #[.agg #[.int .u64 (p / 18446744073709551616 % 18446744073709551616), .int .u64 (p % 18446744073709551616)], .int .i64 a2] w fun e w' => e = .returned (.agg #[.int .u64 (q / 18446744073709551616 % 18446744073709551616), .int .u64 (q % 18446744073709551616)]) ∧ Below w.heap.size w w' := by
          intro w
          have := fix_product_down.calls (p / 18446744073709551616 % 18446744073709551616) (p % 18446744073709551616) a2 w (by unfold U64; omega) (by unfold U64; omega) (by omega) hf.2
          obtain ⟨d1, d2⟩ := down_spec hb1.1 hb1.2 (show 0 < a2 by omega) hf.2
          rw [d1, d2, ← hqp] at this
          exact this
        have HD0 := Aside0.mk HD
        clear HD hqp
        go_enter Try.func131, Try.ntmps131
        go_wp2_with (first | (go_at_call 154; (with_reducible refine (fix_behind.calls a2 true _ HBE.out).mono ?_); rintro e w' ⟨rfl, ⟨nd, rfl⟩⟩; have B0 := Aside0.mk (zzN (Below.refl w.heap.size w) nd)) | (go_at_call 166; refine (HT0.out _).mono ?_; rintro e w1 ⟨rfl, hb_1⟩; have B1 := Aside0.mk (below_then B0.out B0.out.size hb_1); clear hb_1) | (go_at_call 167; refine (HD0.out _).mono ?_; rintro e w2 ⟨rfl, hb_2⟩; have B2 := Aside0.mk (below_then B1.out B1.out.size hb_2); clear hb_2) | (go_at_call 168; refine (HN0.out _).mono ?_; rintro e w3 ⟨rfl, hb_3⟩; have B3 := Aside0.mk (below_then B2.out B2.out.size hb_3); clear hb_3))
        go_ret2
        exact ⟨rfl, B3.out⟩
    · rename_i hf
      have hbe : fix_behind.f a2 = some false := by unfold fix_behind.f; rw [decide_eq_false hf]
      have HBE := Aside0.mk hbe
      clear hbe hf
      cases h
      go_enter Try.func131, Try.ntmps131
      go_wp2_with (go_at_call 154; (with_reducible refine (fix_behind.calls a2 false _ HBE.out).mono ?_); rintro e w' ⟨rfl, ⟨nd, rfl⟩⟩)
      go_ret2
      exact ⟨rfl, zzN (Below.refl w.heap.size w) nd⟩
  · cases h


/-! ### vec_behind: function 133 -/
def vec_behind.f (a0 : Int) : Option (Int) := (fix_Mul.f 0 0 a0).bind fun bt126 => (some bt126.2)
set_option maxHeartbeats 8000000 in
set_option maxRecDepth 100000 in
theorem vec_behind.calls (a0 : Int) (r : Int) (w : World) (h : vec_behind.f a0 = some r) :
  Calls Try.prog 133 #[.int .i64 a0] w fun e w' => e = .returned (.int .i64 r) ∧ Below w.heap.size w w' := by
 have HB := Aside0.mk (Below.refl w.heap.size w)
 have H : ((fix_Mul.f 0 0 a0).bind fun bt126 => (some bt126.2)) = some r := h
 clear h
 replace H := Option.bind_eq_some_iff.mp H
 obtain ⟨⟨t126, t127⟩, A20, H⟩ := H
 replace H : (some t127) = some r := H
 have A2 := Aside0.mk A20
 clear A20
 obtain rfl := Option.some.inj H
 go_enter Try.func133, Try.ntmps133
 go_wp2_with (first | ((with_reducible refine gate_callee (f := 131) rfl ?_); refine goesL_ (some 7) rfl rfl Try.func131 (by kernel_rfl) rfl #[.int .i64 0, .int .i64 0, .int .i64 a0] rfl (by (try simp only [List.map_toArray, List.map_cons, List.map_nil]); first | done | rfl | (simp only [List.length_drop, List.length_take]; rfl)) ?_; (with_reducible refine (fix_Mul.calls 0 0 a0 t126 t127 _ A2.out).mono ?_); rintro e w3 ⟨rfl, hb⟩; refine ⟨_, rfl, ?_⟩; have n0_ := Aside0.mk (zzT (by repeat (first | (with_reducible first | exact HB.out | apply zzA | apply zzN | apply zzD) | exact HB.out)) hb); clear HB; have HB := n0_; clear n0_; (try clear hb); (try clear hb2); (try clear hk); (try clear hi)))
 go_ret
 exact ⟨by first | rfl | (simp [errW_none, errW_some] <;> rfl) | (simp [*, errW_none, errW_some] <;> rfl), by repeat (first | (with_reducible first | exact HB.out | apply zzA | apply zzN | apply zzD) | exact HB.out)⟩

theorem vec_behind.of (f : Int) : vec_behind.f f = some (fracE f) := by
  unfold vec_behind.f
  rw [fix_Mul.of 0 0 f ⟨i64_zero, i64_zero⟩]
  simp only [Option.bind_some, mulF_zero_snd]


/-! ### vec_pair: function 150 -/
def vec_pair.f (l0 l1 : List Int) : Option Int := some (pairE l0 l1)
set_option maxHeartbeats 2000000 in
set_option maxRecDepth 100000 in
theorem vec_pair.calls (A0 : Option Addr) (c0 : Nat) (l0 : List Int) (A1 : Option Addr) (c1 : Nat) (l1 : List Int) (r : Int) (w : World) (hr0 : Kd.C (Kd.int .i64) w A0 l0.length l0) (hc0 : l0.length ≤ c0) (hr1 : Kd.C (Kd.int .i64) w A1 l1.length l1) (hc1 : l1.length ≤ c1) (h : vec_pair.f l0 l1 = some r) :
    Calls Try.prog 150 #[.slice A0 l0.length c0, .slice A1 l1.length c1] w fun e w' => e = .returned (.int .i64 r) ∧ Below w.heap.size w w' := by
  cases h
  have hm : (if l0.length < l1.length then (l1.length : Int) else (l0.length : Int)) = ((max l0.length l1.length : Nat) : Int) := by split <;> omega
  obtain ⟨m, hM⟩ : ∃ m : Nat, max l0.length l1.length = m := ⟨_, rfl⟩
  rw [hM] at hm
  clear hr0 hr1
  unfold pairE
  by_cases c : 4096 < m
  · have c2 : decide (4096 < (m : Int)) = true := decide_eq_true (by omega)
    rw [if_pos (by omega)]
    have HM := Aside0.mk hM
    clear hM c
    go_enter Try.func150, Try.ntmps150
    go_wp2
    go_ret
    exact ⟨rfl, Below.refl _ _⟩
  · have c2 : decide (4096 < (m : Int)) = false := decide_eq_false (by omega)
    rw [if_neg (by omega)]
    by_cases c3 : l0.length = l1.length
    · have c4 : (l0.length == l1.length) = true := beq_iff_eq.2 c3
      rw [if_neg (by omega)]
      have HM := Aside0.mk hM
      have c5 : ((l0.length : Int) != (l1.length : Int)) = false := bne_eq_false_iff_eq.2 (by omega)
      have c6 : ((l0.length : Int) == (l1.length : Int)) = true := beq_iff_eq.2 (by omega)
      clear hM c c3
      go_enter Try.func150, Try.ntmps150
      go_wp2
      go_ret
      exact ⟨rfl, Below.refl _ _⟩
    · have c4 : (l0.length == l1.length) = false := beq_eq_false_iff_ne.2 c3
      rw [if_pos (by omega)]
      have HM := Aside0.mk hM
      have c5 : ((l0.length : Int) != (l1.length : Int)) = true := bne_iff_ne.2 (by omega)
      have c6 : ((l0.length : Int) == (l1.length : Int)) = false := beq_eq_false_iff_ne.2 (by omega)
      clear hM c c3
      go_enter Try.func150, Try.ntmps150
      go_wp2
      go_ret
      exact ⟨rfl, Below.refl _ _⟩


/-! ### fix_AddP: function 105 -/
def fix_AddP.f (a0 : Int) (a1 : Int) : Option (Int × Int) := if (Go.bits .and .i64 (Go.bits .xor .i64 a0 (wrap64 (a0 + a1))) (Go.bits .xor .i64 a1 (wrap64 (a0 + a1)))) < 0 then (some (0, 2)) else (some (wrap64 (a0 + a1), 0))
set_option maxHeartbeats 8000000 in
set_option maxRecDepth 100000 in
theorem fix_AddP.calls (a0 : Int) (a1 : Int) (r1 : Int) (r2 : Int) (w : World) (h : fix_AddP.f a0 a1 = some (r1, r2)) :
  Calls Try.prog 105 #[.int .i64 a0, .int .i64 a1] w fun e w' => e = .returned (.tuple #[.int .i64 r1, .int .i64 r2]) ∧ Drawn0 w w' := by
 have H : (if (Go.bits .and .i64 (Go.bits .xor .i64 a0 (wrap64 (a0 + a1))) (Go.bits .xor .i64 a1 (wrap64 (a0 + a1)))) < 0 then (some (0, 2)) else (some (wrap64 (a0 + a1), 0))) = some (r1, r2) := h
 clear h
 by_cases c3 : (Go.bits .and .i64 (Go.bits .xor .i64 a0 (wrap64 (a0 + a1))) (Go.bits .xor .i64 a1 (wrap64 (a0 + a1)))) < 0
 ·
  rw [if_pos c3] at H
  have c3b0 : decide ((Go.bits .and .i64 (Go.bits .xor .i64 a0 (wrap64 (a0 + a1))) (Go.bits .xor .i64 a1 (wrap64 (a0 + a1)))) < 0) = true := decide_eq_true c3
  clear c3
  simp only [Option.some.injEq, Prod.mk.injEq] at H
  obtain ⟨rfl, rfl⟩ := H
  go_enter Try.func105, Try.ntmps105
  go_wp2
  go_ret2
  exact ⟨by first | rfl | (simp; done) | (simp [*]; done), by repeat (first | exact ddR _ | apply ddS)⟩
 ·
  rw [if_neg c3] at H
  have c3b0 : decide ((Go.bits .and .i64 (Go.bits .xor .i64 a0 (wrap64 (a0 + a1))) (Go.bits .xor .i64 a1 (wrap64 (a0 + a1)))) < 0) = false := decide_eq_false c3
  clear c3
  simp only [Option.some.injEq, Prod.mk.injEq] at H
  obtain ⟨rfl, rfl⟩ := H
  go_enter Try.func105, Try.ntmps105
  go_wp2
  go_ret2
  exact ⟨by first | rfl | (simp; done) | (simp [*]; done), by repeat (first | exact ddR _ | apply ddS)⟩

def fix_Add.f (a0 a1 : Int) : Option (Int × Int) := if I64 a0 ∧ I64 a1 then some (res (a0 + a1)) else none
theorem fix_Add.of (a0 a1 : Int)  (h_ : I64 a0 ∧ I64 a1) : fix_Add.f a0 a1 = some (res (a0 + a1)) := if_pos h_
theorem fix_Add.calls (a0 : Int) (a1 : Int) (r1 : Int) (r2 : Int) (w : World) (h : fix_Add.f a0 a1 = some (r1, r2)) :
    Calls Try.prog 105 #[.int .i64 a0, .int .i64 a1] w fun e w' => e = .returned (.tuple #[.int .i64 r1, .int .i64 r2]) ∧ Drawn0 w w' := by
  unfold fix_Add.f at h
  split at h
  · rename_i hu
    refine fix_AddP.calls a0 a1 r1 r2 w (Eq.trans ?_ h)
    unfold fix_AddP.f
    have hw := wrap64_i64 (a0 + a1)
    have t := and_neg (xor_i64_i64 a0 (wrap64 (a0 + a1))) (xor_i64_i64 a1 (wrap64 (a0 + a1)))
    rw [xor_neg hu.1 hw, xor_neg hu.2 hw] at t
    obtain ⟨h0, h1⟩ := hu
    by_cases c : I64 (a0 + a1)
    · rw [res_of c, wrap64_of c] at *
      rw [if_neg (by rw [t]; omega)]
    · rw [res_not c]
      unfold I64 at h0 h1 c
      rw [if_pos (by rw [t, wrap64_def]; omega)]
  · cases h


/-! ### vec_total: function 151 -/
set_option maxHeartbeats 2000000 in
set_option maxRecDepth 100000 in
theorem vec_total.calls (K : Nat) (caps : Array Value) (g : Nat → Option (Int × Int)) (n : Nat) (hn : n ≤ 1000000) (w : World) (r1 r2 : Int)
    (hent : ∀ (args : Array Value) (w : World), (callFunc K args).run Try.prog w = .ok (.enter K args) w)
    (H : Tells Try.prog K caps g n w) (h : totalGo fix_Add.f g n 0 0 = some (r1, r2)) :
    Calls Try.prog 151 #[.int .i64 n, .func (.func K) #[] caps] w fun e w' => e = .returned (.tuple #[.int .i64 r1, .int .i64 r2]) ∧ Below w.heap.size w w' := by
  have HH := Aside0.mk H
  have HG := Aside0.mk h
  clear H h
  go_enter Try.func151, Try.ntmps151
  go_wp2_with fail
  go_loopw [4, 10] (fun s i W => ∃ (k : Nat) (t : Int), i = .int .i64 k ∧ s = .int .i64 t ∧ Aside0 (k ≤ n) ∧ Aside0 (totalGo fix_Add.f g (n - k) k t = some (r1, r2)) ∧ Aside0 (Below w.heap.size w W)) (fun _ i _ => n - (intOf i).toNat)
  case atStart => exact ⟨0, 0, rfl, rfl, ⟨Nat.zero_le _⟩, HG, ⟨Below.refl _ _⟩⟩
  case round =>
    obtain ⟨k, t, rfl, rfl, ⟨hk⟩, ⟨hgo⟩, HB⟩ := hrel
    clear HG
    by_cases hlt : k < n
    · obtain ⟨d, hd⟩ : ∃ d, n - k = d + 1 := ⟨n - k - 1, by omega⟩
      rw [hd, totalGo] at hgo
      obtain ⟨⟨x, e⟩, hgk, hgo⟩ := Option.bind_eq_some_iff.mp hgo
      have HC := Aside0.mk (HH.out k wr x e hlt HB.out hgk)
      have HHd := Aside0.mk hd
      clear hd hgk
      by_cases he : e = 0
      · subst he
        simp only [if_true] at hgo
        obtain ⟨⟨q, f⟩, hadd, hgo⟩ := Option.bind_eq_some_iff.mp hgo
        have HA := Aside0.mk hadd
        clear hadd
        by_cases hf : f = 0
        · subst hf
          simp only [if_true] at hgo
          have HG := Aside0.mk hgo
          clear hgo hk
          go_wp2_with (first | (go_at_fn K; refine HC.out.mono ?_; rintro ed W1 ⟨rfl, hb⟩; have HB1 := Aside0.mk (below_then HB.out HB.out.size hb); clear hb) | (go_at_call 105; (with_reducible refine (fix_Add.calls t x q 0 _ HA.out).mono ?_); rintro ed W2 ⟨rfl, ⟨nd, rfl⟩⟩))
          exact ⟨⟨k + 1, q, by go_num, rfl, ⟨by omega⟩, ⟨by rw [show n - (k + 1) = d by have := HHd.out; omega]; exact HG.out⟩, ⟨zzN HB1.out _⟩⟩, by simp [intOf]; omega⟩
        · rw [if_neg hf] at hgo
          cases hgo
          have he0 : (f == 0) = false := beq_eq_false_iff_ne.2 hf
          have he1 : (f != 0) = true := bne_iff_ne.2 hf
          clear hf hk
          go_wp2_with (first | (go_at_fn K; refine HC.out.mono ?_; rintro ed W1 ⟨rfl, hb⟩; have HB1 := Aside0.mk (below_then HB.out HB.out.size hb); clear hb) | (go_at_call 105; (with_reducible refine (fix_Add.calls t x q f _ HA.out).mono ?_); rintro ed W2 ⟨rfl, ⟨nd, rfl⟩⟩))
          go_ret2
          exact ⟨rfl, zzN HB1.out _⟩
      · rw [if_neg he] at hgo
        cases hgo
        have he0 : (e == 0) = false := beq_eq_false_iff_ne.2 he
        have he1 : (e != 0) = true := bne_iff_ne.2 he
        clear he hk
        go_wp2_with (go_at_fn K; refine HC.out.mono ?_; rintro ed W1 ⟨rfl, hb⟩; have HB1 := Aside0.mk (below_then HB.out HB.out.size hb); clear hb)
        go_ret2
        exact ⟨rfl, HB1.out⟩
    · have hkn : n - k = 0 := by omega
      rw [hkn, totalGo] at hgo
      cases hgo
      clear hkn hk
      go_wp2
      go_ret2
      exact ⟨rfl, HB.out⟩


-- NOT PRINTED: function 152 (vec_Dot_1)

/-! ### vec_Dot: function 104 -/
set_option maxHeartbeats 2000000 in
set_option maxRecDepth 100000 in
theorem vec_Dot_1.calls (b1 b2 b3 : Nat) (A0 : Option Addr) (c0 : Nat) (l0 : List Int) (A1 : Option Addr) (c1 : Nat) (l1 : List Int) (a2 : Int) (i : Nat) (W : World) (x e : Int)
    (hb1 : W.cell? ⟨b1, 0, none⟩ = some (.slice A0 l0.length c0)) (hb2 : W.cell? ⟨b2, 0, none⟩ = some (.slice A1 l1.length c1)) (hb3 : W.cell? ⟨b3, 0, none⟩ = some (.int .i64 a2))
    (hr0 : Kd.C (Kd.int .i64) W A0 l0.length l0) (hr1 : Kd.C (Kd.int .i64) W A1 l1.length l1) (h0 : i < l0.length) (h1 : i < l1.length)
    (h : fix_Mul.f (rd l0 i) (rd l1 i) a2 = some (x, e)) :
    Calls Try.prog 152 #[.int .i64 i, .pointer (some ⟨b1, 0, none⟩), .pointer (some ⟨b2, 0, none⟩), .pointer (some ⟨b3, 0, none⟩)] W fun ed W' => ed = .returned (.tuple #[.int .i64 x, .int .i64 e]) ∧ Below W.heap.size W W' := by
  obtain ⟨ad0, rfl, hc0⟩ := Kd.at_int hr0 (i : Int) (by omega) (by omega)
  obtain ⟨ad1, rfl, hc1⟩ := Kd.at_int hr1 (i : Int) (by omega) (by omega)
  simp only [Int.toNat_natCast] at hc0 hc1
  have HC := Aside0.mk h
  clear hr0 hr1 h
  go_enter Try.func152, Try.ntmps152
  go_wp2
  go_region_held3 (fun w' => w'.cell? ⟨b1, 0, none⟩ = some (.slice (some ad0) l0.length c0) ∧ w'.cell? ⟨b2, 0, none⟩ = some (.slice (some ad1) l1.length c1) ∧ w'.cell? ⟨b3, 0, none⟩ = some (.int .i64 a2) ∧ w'.cell? (ad0.add i) = some (.int .i64 (rd l0 i)) ∧ w'.cell? (ad1.add i) = some (.int .i64 (rd l1 i)))
    (first | go_keep | (go_split_ands; exact ⟨pw_cell_below hb (by assumption), pw_cell_below hb (by assumption), pw_cell_below hb (by assumption), pw_cell_below hb (by assumption), pw_cell_below hb (by assumption)⟩))
    ((go_at_call 131; (with_reducible refine (fix_Mul.calls (rd l0 i) (rd l1 i) a2 x e _ HC.out).mono ?_); rintro ed W2 ⟨rfl, hb⟩))
  go_wp2
  go_ret2
  exact ⟨rfl, below_then (below_drew (Below.refl _ _)) (Nat.le_refl _) hb⟩
def vec_Dot.f (l0 l1 : List Int) (a2 : Int) : Option (Int × Int) := if V64 l0 ∧ V64 l1 then some (dotV l0 l1 a2) else none
theorem vec_Dot.of (l0 l1 : List Int) (a2 : Int)  (h_ : V64 l0 ∧ V64 l1) : vec_Dot.f l0 l1 a2 = some (dotV l0 l1 a2) := if_pos h_
set_option maxHeartbeats 2000000 in
set_option maxRecDepth 100000 in
theorem vec_Dot.calls (A0 : Option Addr) (c0 : Nat) (l0 : List Int) (A1 : Option Addr) (c1 : Nat) (l1 : List Int) (a2 : Int) (r1 : Int) (r2 : Int) (w : World) (hr0 : Kd.C (Kd.int .i64) w A0 l0.length l0) (hc0 : l0.length ≤ c0) (hr1 : Kd.C (Kd.int .i64) w A1 l1.length l1) (hc1 : l1.length ≤ c1) (h : vec_Dot.f l0 l1 a2 = some (r1, r2)) :
    Calls Try.prog 104 #[.slice A0 l0.length c0, .slice A1 l1.length c1, .int .i64 a2] w fun e w' => e = .returned (.tuple #[.int .i64 r1, .int .i64 r2]) ∧ Below w.heap.size w w' := by
  unfold vec_Dot.f at h
  split at h
  case isFalse => cases h
  rename_i hv
  have h := Option.some.inj h
  unfold dotV at h
  have HR0 := Aside0.mk hr0
  have HC0 := Aside0.mk hc0
  have HR1 := Aside0.mk hr1
  have HC1 := Aside0.mk hc1
  clear hr0 hc0 hr1 hc1
  have HV := Aside0.mk hv
  clear hv
  try have hu22 := Try.underlying22
  try have hu3 := Try.underlying3
  have HP0 : Aside0 (vec_pair.f l0 l1 = some (pairE l0 l1)) := ⟨rfl⟩
  by_cases hp0 : pairE l0 l1 = 0
  · rw [if_pos hp0] at h
    rw [hp0] at HP0
    have HP1 : Aside0 (vec_behind.f a2 = some (fracE a2)) := ⟨vec_behind.of a2⟩
    by_cases hp1 : fracE a2 = 0
    · rw [if_pos hp1] at h
      rw [hp1] at HP1
      have HL : Aside0 (l0.length = l1.length) := ⟨pairE_len hp0⟩
      have HN : Aside0 (l0.length ≤ 4096) := ⟨pairE_le hp0⟩
      have HH := Aside0.mk h
      clear h hp0 hp1
      have HX0 : Aside0 ((((w.alloc (Obj.cells #[Value.slice A0 l0.length c0] 22)).alloc (Obj.cells #[Value.slice A1 l1.length c1] 22)).alloc (Obj.cells #[Value.int .i64 a2] 3)).cell? ⟨w.heap.size, 0, none⟩ = some (.slice A0 l0.length c0)) := ⟨by simp [go_sem]⟩
      have HX1 : Aside0 ((((w.alloc (Obj.cells #[Value.slice A0 l0.length c0] 22)).alloc (Obj.cells #[Value.slice A1 l1.length c1] 22)).alloc (Obj.cells #[Value.int .i64 a2] 3)).cell? ⟨w.heap.size + 1, 0, none⟩ = some (.slice A1 l1.length c1)) := ⟨by simp [go_sem]⟩
      have HX2 : Aside0 ((((w.alloc (Obj.cells #[Value.slice A0 l0.length c0] 22)).alloc (Obj.cells #[Value.slice A1 l1.length c1] 22)).alloc (Obj.cells #[Value.int .i64 a2] 3)).cell? ⟨w.heap.size + 2, 0, none⟩ = some (.int .i64 a2)) := ⟨by simp [go_sem]⟩
      have HB : Aside0 (Below w.heap.size w (((w.alloc (Obj.cells #[Value.slice A0 l0.length c0] 22)).alloc (Obj.cells #[Value.slice A1 l1.length c1] 22)).alloc (Obj.cells #[Value.int .i64 a2] 3))) := ⟨zzA (zzA (zzA (Below.refl _ _) _) _) _⟩
      go_enter Try.func104, Try.ntmps104
      go_wp2_with (first | (go_at_call 150; (with_reducible refine (vec_pair.calls A0 c0 l0 A1 c1 l1 0 _ (Kd.C_below HR0.out HB.out) HC0.out (Kd.C_below HR1.out HB.out) HC1.out HP0.out).mono ?_); rintro ed W1 ⟨rfl, hd⟩; have hb := hd; clear hd; have HB := Aside0.mk (below_then HB.out HB.out.size hb); have HX0 := Aside0.mk (pw_cell_below hb HX0.out); have HX1 := Aside0.mk (pw_cell_below hb HX1.out); have HX2 := Aside0.mk (pw_cell_below hb HX2.out); have hx0 := HX0.out; have hx1 := HX1.out; have hx2 := HX2.out; clear hb) | (go_at_call 133; (with_reducible refine (vec_behind.calls a2 0 _ HP1.out).mono ?_); rintro ed W1 ⟨rfl, hd⟩; have hb := hd; clear hd; have HB := Aside0.mk (below_then HB.out HB.out.size hb); have HX0 := Aside0.mk (pw_cell_below hb HX0.out); have HX1 := Aside0.mk (pw_cell_below hb HX1.out); have HX2 := Aside0.mk (pw_cell_below hb HX2.out); have hx0 := HX0.out; have hx1 := HX1.out; have hx2 := HX2.out; clear hb) | (go_at_call 151; (with_reducible refine (vec_total.calls 152 _ (fun i : Nat => fix_Mul.f (rd l0 i) (rd l1 i) a2) l0.length (by have := HN.out; omega) _ r1 r2 ?ent ?tells ?go).mono ?_); (case ent => exact enters_of Try.func152 rfl rfl); (case tells => intro i W x e hi hb hg; refine (vec_Dot_1.calls (w.heap.size) (w.heap.size + 1) (w.heap.size + 2) A0 c0 l0 A1 c1 l1 a2 i W x e (pw_cell_below hb HX0.out) (pw_cell_below hb HX1.out) (pw_cell_below hb HX2.out) (Kd.C_below (Kd.C_below HR0.out HB.out) hb) (Kd.C_below (Kd.C_below HR1.out HB.out) hb) (by have := HL.out; omega) (by have := HL.out; omega) hg).mono ?_; rintro ed W' ⟨rfl, hd⟩; exact ⟨rfl, hd⟩); (case go => exact (total_spec (fun a b ha hb => fix_Add.of a b ⟨ha, hb⟩) (zip_i64 (fun x y => mulF_i64 x y a2) l0 l1) (ps := List.zipWith (fun x y => mulF x y a2) l0 l1) (by have := HL.out; rw [List.length_zipWith]; omega) (fun j h => by rw [zip_get _ _ HL.out j h]; exact fix_Mul.of _ _ _ ⟨HV.out.1.rd _, HV.out.2.rd _⟩)).trans (congrArg some HH.out)); rintro ed W2 ⟨rfl, hb⟩; have HB2 := Aside0.mk (below_then HB.out HB.out.size hb); clear hb))
      go_ret2
      exact ⟨rfl, HB2.out⟩
    · rw [if_neg hp1] at h
      cases h
      have HX0 : Aside0 ((((w.alloc (Obj.cells #[Value.slice A0 l0.length c0] 22)).alloc (Obj.cells #[Value.slice A1 l1.length c1] 22)).alloc (Obj.cells #[Value.int .i64 a2] 3)).cell? ⟨w.heap.size, 0, none⟩ = some (.slice A0 l0.length c0)) := ⟨by simp [go_sem]⟩
      have HX1 : Aside0 ((((w.alloc (Obj.cells #[Value.slice A0 l0.length c0] 22)).alloc (Obj.cells #[Value.slice A1 l1.length c1] 22)).alloc (Obj.cells #[Value.int .i64 a2] 3)).cell? ⟨w.heap.size + 1, 0, none⟩ = some (.slice A1 l1.length c1)) := ⟨by simp [go_sem]⟩
      have HX2 : Aside0 ((((w.alloc (Obj.cells #[Value.slice A0 l0.length c0] 22)).alloc (Obj.cells #[Value.slice A1 l1.length c1] 22)).alloc (Obj.cells #[Value.int .i64 a2] 3)).cell? ⟨w.heap.size + 2, 0, none⟩ = some (.int .i64 a2)) := ⟨by simp [go_sem]⟩
      have HB : Aside0 (Below w.heap.size w (((w.alloc (Obj.cells #[Value.slice A0 l0.length c0] 22)).alloc (Obj.cells #[Value.slice A1 l1.length c1] 22)).alloc (Obj.cells #[Value.int .i64 a2] 3))) := ⟨zzA (zzA (zzA (Below.refl _ _) _) _) _⟩
      have he0 : (fracE a2 == 0) = false := beq_eq_false_iff_ne.2 hp1
      have he1 : (fracE a2 != 0) = true := bne_iff_ne.2 hp1
      obtain ⟨e_, hE⟩ : ∃ e_ : Int, fracE a2 = e_ := ⟨_, rfl⟩
      rw [hE] at HP1 he0 he1
      simp only [hE]
      clear hE hp1
      go_enter Try.func104, Try.ntmps104
      go_wp2_with (first | (go_at_call 150; (with_reducible refine (vec_pair.calls A0 c0 l0 A1 c1 l1 0 _ (Kd.C_below HR0.out HB.out) HC0.out (Kd.C_below HR1.out HB.out) HC1.out HP0.out).mono ?_); rintro ed W1 ⟨rfl, hd⟩; have hb := hd; clear hd; have HB := Aside0.mk (below_then HB.out HB.out.size hb); have HX0 := Aside0.mk (pw_cell_below hb HX0.out); have HX1 := Aside0.mk (pw_cell_below hb HX1.out); have HX2 := Aside0.mk (pw_cell_below hb HX2.out); have hx0 := HX0.out; have hx1 := HX1.out; have hx2 := HX2.out; clear hb) | (go_at_call 133; (with_reducible refine (vec_behind.calls a2 e_ _ HP1.out).mono ?_); rintro ed W1 ⟨rfl, hd⟩; have hb := hd; clear hd; have HB := Aside0.mk (below_then HB.out HB.out.size hb); have HX0 := Aside0.mk (pw_cell_below hb HX0.out); have HX1 := Aside0.mk (pw_cell_below hb HX1.out); have HX2 := Aside0.mk (pw_cell_below hb HX2.out); have hx0 := HX0.out; have hx1 := HX1.out; have hx2 := HX2.out; clear hb))
      go_ret2
      exact ⟨rfl, HB.out⟩
  · rw [if_neg hp0] at h
    cases h
    have HX0 : Aside0 ((((w.alloc (Obj.cells #[Value.slice A0 l0.length c0] 22)).alloc (Obj.cells #[Value.slice A1 l1.length c1] 22)).alloc (Obj.cells #[Value.int .i64 a2] 3)).cell? ⟨w.heap.size, 0, none⟩ = some (.slice A0 l0.length c0)) := ⟨by simp [go_sem]⟩
    have HX1 : Aside0 ((((w.alloc (Obj.cells #[Value.slice A0 l0.length c0] 22)).alloc (Obj.cells #[Value.slice A1 l1.length c1] 22)).alloc (Obj.cells #[Value.int .i64 a2] 3)).cell? ⟨w.heap.size + 1, 0, none⟩ = some (.slice A1 l1.length c1)) := ⟨by simp [go_sem]⟩
    have HX2 : Aside0 ((((w.alloc (Obj.cells #[Value.slice A0 l0.length c0] 22)).alloc (Obj.cells #[Value.slice A1 l1.length c1] 22)).alloc (Obj.cells #[Value.int .i64 a2] 3)).cell? ⟨w.heap.size + 2, 0, none⟩ = some (.int .i64 a2)) := ⟨by simp [go_sem]⟩
    have HB : Aside0 (Below w.heap.size w (((w.alloc (Obj.cells #[Value.slice A0 l0.length c0] 22)).alloc (Obj.cells #[Value.slice A1 l1.length c1] 22)).alloc (Obj.cells #[Value.int .i64 a2] 3))) := ⟨zzA (zzA (zzA (Below.refl _ _) _) _) _⟩
    have he0 : (pairE l0 l1 == 0) = false := beq_eq_false_iff_ne.2 hp0
    have he1 : (pairE l0 l1 != 0) = true := bne_iff_ne.2 hp0
    obtain ⟨e_, hE⟩ : ∃ e_ : Int, pairE l0 l1 = e_ := ⟨_, rfl⟩
    rw [hE] at HP0 he0 he1
    simp only [hE]
    clear hE hp0
    go_enter Try.func104, Try.ntmps104
    go_wp2_with (first | (go_at_call 150; (with_reducible refine (vec_pair.calls A0 c0 l0 A1 c1 l1 e_ _ (Kd.C_below HR0.out HB.out) HC0.out (Kd.C_below HR1.out HB.out) HC1.out HP0.out).mono ?_); rintro ed W1 ⟨rfl, hd⟩; have hb := hd; clear hd; have HB := Aside0.mk (below_then HB.out HB.out.size hb); have HX0 := Aside0.mk (pw_cell_below hb HX0.out); have HX1 := Aside0.mk (pw_cell_below hb HX1.out); have HX2 := Aside0.mk (pw_cell_below hb HX2.out); have hx0 := HX0.out; have hx1 := HX1.out; have hx2 := HX2.out; clear hb))
    go_ret2
    exact ⟨rfl, HB.out⟩


end Go.Proofs.Ytfbdalnjijdknaa.HS
