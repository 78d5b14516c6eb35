/- What Go functions do, each as a plain Lean function with the same answers, and the proof of it, in every world: printed by the session's driver over the kit's print, with texts by hand. -/
import Derived.Test.YtnhdeljkoackfaaHCx0
namespace Go.Proofs.Ytnhdeljkoackfaa.HC
open Go.RowKit Go.Proofs.YtnhdeljkoackfaaW.PrintWords Go.Proofs.YtnhdeljkoackfaaW.PrintLast Go.Proofs.YtnhdeljkoackfaaW.PrintMore
attribute [local go_sem] max2_int min2_int max_two min_two max_three min_three max_four min_four   -- for this text's walks alone
open Go.Proofs.Ytnhdeljkoackfaa.Sp
attribute [local go_sem] Go.Proofs.Ytnhdeljkoackfaa.Sp.u64_not
set_option linter.unusedVariables false
set_option linter.unusedSimpArgs false

/-! ### vec_Check: function 33 -/
def vec_Check.f (l0 : List Int) : Option (Int) := if (l0.length : Int) > 4096 then (some 3) else (some 0)
set_option maxHeartbeats 8000000 in
set_option maxRecDepth 100000 in
theorem vec_Check.calls (A0 : Option Addr) (c0 : Nat) (l0 : List Int) (r : Int) (w : World) (hr0 : Kd.C (Kd.int .i64) w A0 l0.length l0) (hc0 : l0.length ≤ c0) (h : vec_Check.f l0 = some r) :
  Calls Try.prog 33 #[.slice A0 l0.length c0] w fun e w' => e = .returned (.int .i64 r) ∧ Drawn0 w w' := by
 have HR0 := Aside0.mk hr0
 have HC0 := Aside0.mk hc0
 clear hr0 hc0
 have H : (if (l0.length : Int) > 4096 then (some 3) else (some 0)) = some r := h
 clear h
 by_cases c2 : (l0.length : Int) > 4096
 ·
  rw [if_pos c2] at H
  have c2b0 : decide (4096 < (l0.length : Int)) = true := decide_eq_true c2
  have c2b1 : decide (4096 < l0.length) = true := decide_eq_true (by omega)
  clear c2
  obtain rfl := Option.some.inj H
  go_enter Try.func33, Try.ntmps33
  go_wp2
  go_ret
  exact ⟨by first | rfl | (simp; done) | (simp [*]; done), by repeat (first | exact Drawn0.refl _ | apply Drawn0.step)⟩
 ·
  rw [if_neg c2] at H
  have c2b0 : decide (4096 < (l0.length : Int)) = false := decide_eq_false c2
  have c2b1 : decide (4096 < l0.length) = false := decide_eq_false (by omega)
  clear c2
  obtain rfl := Option.some.inj H
  go_enter Try.func33, Try.ntmps33
  go_wp2
  go_ret
  exact ⟨by first | rfl | (simp; done) | (simp [*]; done), by repeat (first | exact Drawn0.refl _ | apply Drawn0.step)⟩

theorem vec_Check.of (l0 : List Int) : vec_Check.f l0 = some (checkE l0) := by
  unfold vec_Check.f checkE
  by_cases c : l0.length > 4096
  · rw [if_pos (by omega), if_pos c]
  · rw [if_neg (by omega), if_neg c]


/-! ### fix_AddP: function 48 -/
def fix_AddP.f (a0 : Int) (a1 : Int) : Option (Int × Int) := if (Go.bits .and .i64 (Go.bits .xor .i64 a0 (wrap64 (a0 + a1))) (Go.bits .xor .i64 a1 (wrap64 (a0 + a1)))) < 0 then (some (0, 2)) else (some (wrap64 (a0 + a1), 0))
set_option maxHeartbeats 8000000 in
set_option maxRecDepth 100000 in
theorem fix_AddP.calls (a0 : Int) (a1 : Int) (r1 : Int) (r2 : Int) (w : World) (h : fix_AddP.f a0 a1 = some (r1, r2)) :
  Calls Try.prog 48 #[.int .i64 a0, .int .i64 a1] w fun e w' => e = .returned (.tuple #[.int .i64 r1, .int .i64 r2]) ∧ Drawn0 w w' := by
 have H : (if (Go.bits .and .i64 (Go.bits .xor .i64 a0 (wrap64 (a0 + a1))) (Go.bits .xor .i64 a1 (wrap64 (a0 + a1)))) < 0 then (some (0, 2)) else (some (wrap64 (a0 + a1), 0))) = some (r1, r2) := h
 clear h
 by_cases c3 : (Go.bits .and .i64 (Go.bits .xor .i64 a0 (wrap64 (a0 + a1))) (Go.bits .xor .i64 a1 (wrap64 (a0 + a1)))) < 0
 ·
  rw [if_pos c3] at H
  have c3b0 : decide ((Go.bits .and .i64 (Go.bits .xor .i64 a0 (wrap64 (a0 + a1))) (Go.bits .xor .i64 a1 (wrap64 (a0 + a1)))) < 0) = true := decide_eq_true c3
  clear c3
  simp only [Option.some.injEq, Prod.mk.injEq] at H
  obtain ⟨rfl, rfl⟩ := H
  go_enter Try.func48, Try.ntmps48
  go_wp2
  go_ret2
  exact ⟨by first | rfl | (simp; done) | (simp [*]; done), by repeat (first | exact Drawn0.refl _ | apply Drawn0.step)⟩
 ·
  rw [if_neg c3] at H
  have c3b0 : decide ((Go.bits .and .i64 (Go.bits .xor .i64 a0 (wrap64 (a0 + a1))) (Go.bits .xor .i64 a1 (wrap64 (a0 + a1)))) < 0) = false := decide_eq_false c3
  clear c3
  simp only [Option.some.injEq, Prod.mk.injEq] at H
  obtain ⟨rfl, rfl⟩ := H
  go_enter Try.func48, Try.ntmps48
  go_wp2
  go_ret2
  exact ⟨by first | rfl | (simp; done) | (simp [*]; done), by repeat (first | exact Drawn0.refl _ | apply Drawn0.step)⟩

def fix_Add.f (a0 a1 : Int) : Option (Int × Int) := if I64 a0 ∧ I64 a1 then some (res (a0 + a1)) else none
theorem fix_Add.of (a0 a1 : Int)  (h_ : I64 a0 ∧ I64 a1) : fix_Add.f a0 a1 = some (res (a0 + a1)) := if_pos h_
theorem fix_Add.calls (a0 : Int) (a1 : Int) (r1 : Int) (r2 : Int) (w : World) (h : fix_Add.f a0 a1 = some (r1, r2)) :
    Calls Try.prog 48 #[.int .i64 a0, .int .i64 a1] w fun e w' => e = .returned (.tuple #[.int .i64 r1, .int .i64 r2]) ∧ Drawn0 w w' := by
  unfold fix_Add.f at h
  split at h
  · rename_i hu
    refine fix_AddP.calls a0 a1 r1 r2 w (Eq.trans ?_ h)
    unfold fix_AddP.f
    have hw := wrap64_i64 (a0 + a1)
    have t := and_neg (xor_i64_i64 a0 (wrap64 (a0 + a1))) (xor_i64_i64 a1 (wrap64 (a0 + a1)))
    rw [xor_neg hu.1 hw, xor_neg hu.2 hw] at t
    obtain ⟨h0, h1⟩ := hu
    by_cases c : I64 (a0 + a1)
    · rw [res_of c, wrap64_of c] at *
      rw [if_neg (by rw [t]; omega)]
    · rw [res_not c]
      unfold I64 at h0 h1 c
      rw [if_pos (by rw [t, wrap64_def]; omega)]
  · cases h


/-! ### vec_total: function 34 -/
set_option maxHeartbeats 2000000 in
set_option maxRecDepth 100000 in
theorem vec_total.calls (K : Nat) (caps : Array Value) (g : Nat → Option (Int × Int)) (n : Nat) (hn : n ≤ 1000000) (w : World) (r1 r2 : Int)
    (hent : ∀ (args : Array Value) (w : World), (callFunc K args).run Try.prog w = .ok (.enter K args) w)
    (H : Tells Try.prog K caps g n w) (h : totalGo fix_Add.f g n 0 0 = some (r1, r2)) :
    Calls Try.prog 34 #[.int .i64 n, .func (.func K) #[] caps] w fun e w' => e = .returned (.tuple #[.int .i64 r1, .int .i64 r2]) ∧ Below w.heap.size w w' := by
  have HH := Aside0.mk H
  have HG := Aside0.mk h
  clear H h
  go_enter Try.func34, Try.ntmps34
  go_wp2_with fail
  go_loopw [4, 10] (fun s i W => ∃ (k : Nat) (t : Int), i = .int .i64 k ∧ s = .int .i64 t ∧ Aside0 (k ≤ n) ∧ Aside0 (totalGo fix_Add.f g (n - k) k t = some (r1, r2)) ∧ Aside0 (Below w.heap.size w W)) (fun _ i _ => n - (intOf i).toNat)
  case atStart => exact ⟨0, 0, rfl, rfl, ⟨Nat.zero_le _⟩, HG, ⟨Below.refl _ _⟩⟩
  case round =>
    obtain ⟨k, t, rfl, rfl, ⟨hk⟩, ⟨hgo⟩, HB⟩ := hrel
    clear HG
    by_cases hlt : k < n
    · obtain ⟨d, hd⟩ : ∃ d, n - k = d + 1 := ⟨n - k - 1, by omega⟩
      rw [hd, totalGo] at hgo
      obtain ⟨⟨x, e⟩, hgk, hgo⟩ := Option.bind_eq_some_iff.mp hgo
      have HC := Aside0.mk (HH.out k wr x e hlt HB.out hgk)
      have HHd := Aside0.mk hd
      clear hd hgk
      by_cases he : e = 0
      · subst he
        simp only [if_true] at hgo
        obtain ⟨⟨q, f⟩, hadd, hgo⟩ := Option.bind_eq_some_iff.mp hgo
        have HA := Aside0.mk hadd
        clear hadd
        by_cases hf : f = 0
        · subst hf
          simp only [if_true] at hgo
          have HG := Aside0.mk hgo
          clear hgo hk
          go_wp2_with (first | (go_at_fn K; refine HC.out.mono ?_; rintro ed W1 ⟨rfl, hb⟩; have HB1 := Aside0.mk (below_then HB.out HB.out.size hb); clear hb) | (go_at_call 48; (with_reducible refine (fix_Add.calls t x q 0 _ HA.out).mono ?_); rintro ed W2 ⟨rfl, ⟨nd, rfl⟩⟩))
          exact ⟨⟨k + 1, q, by go_num, rfl, ⟨by omega⟩, ⟨by rw [show n - (k + 1) = d by have := HHd.out; omega]; exact HG.out⟩, ⟨pw_below_drewN HB1.out _⟩⟩, by simp [intOf]; omega⟩
        · rw [if_neg hf] at hgo
          cases hgo
          have he0 : (f == 0) = false := beq_eq_false_iff_ne.2 hf
          have he1 : (f != 0) = true := bne_iff_ne.2 hf
          clear hf hk
          go_wp2_with (first | (go_at_fn K; refine HC.out.mono ?_; rintro ed W1 ⟨rfl, hb⟩; have HB1 := Aside0.mk (below_then HB.out HB.out.size hb); clear hb) | (go_at_call 48; (with_reducible refine (fix_Add.calls t x q f _ HA.out).mono ?_); rintro ed W2 ⟨rfl, ⟨nd, rfl⟩⟩))
          go_ret2
          exact ⟨rfl, pw_below_drewN HB1.out _⟩
      · rw [if_neg he] at hgo
        cases hgo
        have he0 : (e == 0) = false := beq_eq_false_iff_ne.2 he
        have he1 : (e != 0) = true := bne_iff_ne.2 he
        clear he hk
        go_wp2_with (go_at_fn K; refine HC.out.mono ?_; rintro ed W1 ⟨rfl, hb⟩; have HB1 := Aside0.mk (below_then HB.out HB.out.size hb); clear hb)
        go_ret2
        exact ⟨rfl, HB1.out⟩
    · have hkn : n - k = 0 := by omega
      rw [hkn, totalGo] at hgo
      cases hgo
      clear hkn hk
      go_wp2
      go_ret2
      exact ⟨rfl, HB.out⟩


/-! ### fix_SubP: function 56 -/
def fix_SubP.f (a0 : Int) (a1 : Int) : Option (Int × Int) := if (Go.bits .and .i64 (Go.bits .xor .i64 a0 a1) (Go.bits .xor .i64 a0 (wrap64 (a0 - a1)))) < 0 then (some (0, 2)) else (some (wrap64 (a0 - a1), 0))
set_option maxHeartbeats 8000000 in
set_option maxRecDepth 100000 in
theorem fix_SubP.calls (a0 : Int) (a1 : Int) (r1 : Int) (r2 : Int) (w : World) (h : fix_SubP.f a0 a1 = some (r1, r2)) :
  Calls Try.prog 56 #[.int .i64 a0, .int .i64 a1] w fun e w' => e = .returned (.tuple #[.int .i64 r1, .int .i64 r2]) ∧ Drawn0 w w' := by
 have H : (if (Go.bits .and .i64 (Go.bits .xor .i64 a0 a1) (Go.bits .xor .i64 a0 (wrap64 (a0 - a1)))) < 0 then (some (0, 2)) else (some (wrap64 (a0 - a1), 0))) = some (r1, r2) := h
 clear h
 by_cases c3 : (Go.bits .and .i64 (Go.bits .xor .i64 a0 a1) (Go.bits .xor .i64 a0 (wrap64 (a0 - a1)))) < 0
 ·
  rw [if_pos c3] at H
  have c3b0 : decide ((Go.bits .and .i64 (Go.bits .xor .i64 a0 a1) (Go.bits .xor .i64 a0 (wrap64 (a0 - a1)))) < 0) = true := decide_eq_true c3
  clear c3
  simp only [Option.some.injEq, Prod.mk.injEq] at H
  obtain ⟨rfl, rfl⟩ := H
  go_enter Try.func56, Try.ntmps56
  go_wp2
  go_ret2
  exact ⟨by first | rfl | (simp; done) | (simp [*]; done), by repeat (first | exact Drawn0.refl _ | apply Drawn0.step)⟩
 ·
  rw [if_neg c3] at H
  have c3b0 : decide ((Go.bits .and .i64 (Go.bits .xor .i64 a0 a1) (Go.bits .xor .i64 a0 (wrap64 (a0 - a1)))) < 0) = false := decide_eq_false c3
  clear c3
  simp only [Option.some.injEq, Prod.mk.injEq] at H
  obtain ⟨rfl, rfl⟩ := H
  go_enter Try.func56, Try.ntmps56
  go_wp2
  go_ret2
  exact ⟨by first | rfl | (simp; done) | (simp [*]; done), by repeat (first | exact Drawn0.refl _ | apply Drawn0.step)⟩

def fix_Sub.f (a0 a1 : Int) : Option (Int × Int) := if I64 a0 ∧ I64 a1 then some (res (a0 - a1)) else none
theorem fix_Sub.of (a0 a1 : Int)  (h_ : I64 a0 ∧ I64 a1) : fix_Sub.f a0 a1 = some (res (a0 - a1)) := if_pos h_
theorem fix_Sub.calls (a0 : Int) (a1 : Int) (r1 : Int) (r2 : Int) (w : World) (h : fix_Sub.f a0 a1 = some (r1, r2)) :
    Calls Try.prog 56 #[.int .i64 a0, .int .i64 a1] w fun e w' => e = .returned (.tuple #[.int .i64 r1, .int .i64 r2]) ∧ Drawn0 w w' := by
  unfold fix_Sub.f at h
  split at h
  · rename_i hu
    refine fix_SubP.calls a0 a1 r1 r2 w (Eq.trans ?_ h)
    unfold fix_SubP.f
    have hw := wrap64_i64 (a0 - a1)
    have t := and_neg (xor_i64_i64 a0 a1) (xor_i64_i64 a0 (wrap64 (a0 - a1)))
    rw [xor_neg hu.1 hu.2, xor_neg hu.1 hw] at t
    obtain ⟨h0, h1⟩ := hu
    by_cases c : I64 (a0 - a1)
    · rw [res_of c, wrap64_of c] at *
      rw [if_neg (by rw [t]; omega)]
    · rw [res_not c]
      unfold I64 at h0 h1 c
      rw [if_pos (by rw [t, wrap64_def]; omega)]
  · cases h


/-! ### fix_NegP: function 49 -/
def fix_NegP.f (a0 : Int) : Option (Int × Int) := (fix_Sub.f 0 a0).bind fun bt101 => (some (bt101.1, bt101.2))
set_option maxHeartbeats 8000000 in
set_option maxRecDepth 100000 in
theorem fix_NegP.calls (a0 : Int) (r1 : Int) (r2 : Int) (w : World) (h : fix_NegP.f a0 = some (r1, r2)) :
  Calls Try.prog 49 #[.int .i64 a0] w fun e w' => e = .returned (.tuple #[.int .i64 r1, .int .i64 r2]) ∧ Drawn0 w w' := by
 have H : ((fix_Sub.f 0 a0).bind fun bt101 => (some (bt101.1, bt101.2))) = some (r1, r2) := h
 clear h
 replace H := Option.bind_eq_some_iff.mp H
 obtain ⟨⟨t101, t102⟩, A20, H⟩ := H
 replace H : (some (t101, t102)) = some (r1, r2) := H
 have A2 := Aside0.mk A20
 clear A20
 simp only [Option.some.injEq, Prod.mk.injEq] at H
 obtain ⟨rfl, rfl⟩ := H
 go_enter Try.func49, Try.ntmps49
 go_wp2_with (first | ((with_reducible refine gate_callee (f := 56) rfl ?_); refine goesL_ (some 5) rfl rfl Try.func56 (by kernel_rfl) rfl #[.int .i64 0, .int .i64 a0] rfl (by (try simp only [List.map_toArray, List.map_cons, List.map_nil]); first | done | rfl | (simp only [List.length_drop, List.length_take]; rfl)) ?_; (with_reducible refine (fix_Sub.calls 0 a0 t101 t102 _ A2.out).mono ?_); rintro e w' ⟨rfl, ⟨nd, rfl⟩⟩; refine ⟨_, rfl, ?_⟩))
 go_ret2
 exact ⟨by first | rfl | (simp; done) | (simp [*]; done), by repeat (first | exact Drawn0.refl _ | apply Drawn0.step)⟩

def fix_Neg.f (a0 : Int) : Option (Int × Int) := if I64 a0 then some (res (-a0)) else none
theorem fix_Neg.of (a0 : Int)  (h_ : I64 a0) : fix_Neg.f a0 = some (res (-a0)) := if_pos h_
theorem fix_Neg.calls (a0 : Int) (r1 : Int) (r2 : Int) (w : World) (h : fix_Neg.f a0 = some (r1, r2)) :
    Calls Try.prog 49 #[.int .i64 a0] w fun e w' => e = .returned (.tuple #[.int .i64 r1, .int .i64 r2]) ∧ Drawn0 w w' := by
  unfold fix_Neg.f at h
  split at h
  · rename_i hu
    refine fix_NegP.calls a0 r1 r2 w (Eq.trans ?_ h)
    unfold fix_NegP.f fix_Sub.f
    rw [if_pos ⟨i64_zero, hu⟩]; simp
  · cases h


/-! ### fix_AbsP: function 36 -/
def fix_AbsP.f (a0 : Int) : Option (Int × Int) := if a0 ≥ 0 then (some (a0, 0)) else ((fix_Neg.f a0).bind fun bt103 => (some (bt103.1, bt103.2)))
set_option maxHeartbeats 8000000 in
set_option maxRecDepth 100000 in
theorem fix_AbsP.calls (a0 : Int) (r1 : Int) (r2 : Int) (w : World) (h : fix_AbsP.f a0 = some (r1, r2)) :
  Calls Try.prog 36 #[.int .i64 a0] w fun e w' => e = .returned (.tuple #[.int .i64 r1, .int .i64 r2]) ∧ Drawn0 w w' := by
 have H : (if a0 ≥ 0 then (some (a0, 0)) else ((fix_Neg.f a0).bind fun bt103 => (some (bt103.1, bt103.2)))) = some (r1, r2) := h
 clear h
 by_cases c2 : a0 ≥ 0
 ·
  rw [if_pos c2] at H
  have c2b0 : decide (0 ≤ a0) = true := decide_eq_true c2
  clear c2
  simp only [Option.some.injEq, Prod.mk.injEq] at H
  obtain ⟨rfl, rfl⟩ := H
  go_enter Try.func36, Try.ntmps36
  go_wp2
  go_ret2
  exact ⟨by first | rfl | (simp; done) | (simp [*]; done), by repeat (first | exact Drawn0.refl _ | apply Drawn0.step)⟩
 ·
  rw [if_neg c2] at H
  have c2b0 : decide (0 ≤ a0) = false := decide_eq_false c2
  clear c2
  replace H := Option.bind_eq_some_iff.mp H
  obtain ⟨⟨t103, t104⟩, A30, H⟩ := H
  replace H : (some (t103, t104)) = some (r1, r2) := H
  have A3 := Aside0.mk A30
  clear A30
  simp only [Option.some.injEq, Prod.mk.injEq] at H
  obtain ⟨rfl, rfl⟩ := H
  go_enter Try.func36, Try.ntmps36
  go_wp2_with (first | ((with_reducible refine gate_callee (f := 49) rfl ?_); refine goesL_ (some 8) rfl rfl Try.func49 (by kernel_rfl) rfl #[.int .i64 a0] rfl (by (try simp only [List.map_toArray, List.map_cons, List.map_nil]); first | done | rfl | (simp only [List.length_drop, List.length_take]; rfl)) ?_; (with_reducible refine (fix_Neg.calls a0 t103 t104 _ A3.out).mono ?_); rintro e w' ⟨rfl, ⟨nd, rfl⟩⟩; refine ⟨_, rfl, ?_⟩))
  go_ret2
  exact ⟨by first | rfl | (simp; done) | (simp [*]; done), by repeat (first | exact Drawn0.refl _ | apply Drawn0.step)⟩

def fix_Abs.f (a0 : Int) : Option (Int × Int) := if I64 a0 then some (res (a0.natAbs : Int)) else none
theorem fix_Abs.of (a0 : Int)  (h_ : I64 a0) : fix_Abs.f a0 = some (res (a0.natAbs : Int)) := if_pos h_
theorem fix_Abs.calls (a0 : Int) (r1 : Int) (r2 : Int) (w : World) (h : fix_Abs.f a0 = some (r1, r2)) :
    Calls Try.prog 36 #[.int .i64 a0] w fun e w' => e = .returned (.tuple #[.int .i64 r1, .int .i64 r2]) ∧ Drawn0 w w' := by
  unfold fix_Abs.f at h
  split at h
  · rename_i hu
    refine fix_AbsP.calls a0 r1 r2 w (Eq.trans ?_ h)
    unfold fix_AbsP.f fix_Neg.f
    by_cases c : a0 ≥ 0
    · rw [if_pos c, show (a0.natAbs : Int) = a0 by omega, res_of hu]
    · rw [if_neg c, if_pos hu, show (a0.natAbs : Int) = -a0 by omega]; simp
  · cases h


-- NOT PRINTED: function 35 (vec_Size_1)

/-! ### vec_Size: function 20 -/
set_option maxHeartbeats 2000000 in
set_option maxRecDepth 100000 in
theorem vec_Size_1.calls (b1 : Nat) (A0 : Option Addr) (c0 : Nat) (l0 : List Int) (i : Nat) (W : World) (x e : Int)
    (hb1 : W.cell? ⟨b1, 0, none⟩ = some (.slice A0 l0.length c0))
    (hr0 : Kd.C (Kd.int .i64) W A0 l0.length l0) (h0 : i < l0.length)
    (h : fix_Abs.f (rd l0 i) = some (x, e)) :
    Calls Try.prog 35 #[.int .i64 i, .pointer (some ⟨b1, 0, none⟩)] W fun ed W' => ed = .returned (.tuple #[.int .i64 x, .int .i64 e]) ∧ Drawn0 W W' := by
  obtain ⟨ad0, rfl, hc0⟩ := Kd.at_int hr0 (i : Int) (by omega) (by omega)
  simp only [Int.toNat_natCast] at hc0
  have HC := Aside0.mk h
  clear hr0 h
  go_enter Try.func35, Try.ntmps35
  go_wp2_with (go_at_call 36; (with_reducible refine (fix_Abs.calls (rd l0 i) x e _ HC.out).mono ?_); rintro ed W2 ⟨rfl, ⟨nd, rfl⟩⟩)
  go_ret2
  exact ⟨rfl, ⟨_, rfl⟩⟩
def vec_Size.f (l0 : List Int) : Option (Int × Int) := if V64 l0 then some (sizeV l0) else none
theorem vec_Size.of (l0 : List Int)  (h_ : V64 l0) : vec_Size.f l0 = some (sizeV l0) := if_pos h_
set_option maxHeartbeats 2000000 in
set_option maxRecDepth 100000 in
theorem vec_Size.calls (A0 : Option Addr) (c0 : Nat) (l0 : List Int) (r1 : Int) (r2 : Int) (w : World) (hr0 : Kd.C (Kd.int .i64) w A0 l0.length l0) (hc0 : l0.length ≤ c0) (h : vec_Size.f l0 = some (r1, r2)) :
    Calls Try.prog 20 #[.slice A0 l0.length c0] w fun e w' => e = .returned (.tuple #[.int .i64 r1, .int .i64 r2]) ∧ Below w.heap.size w w' := by
  unfold vec_Size.f at h
  split at h
  case isFalse => cases h
  rename_i hv
  have h := Option.some.inj h
  unfold sizeV at h
  have HR0 := Aside0.mk hr0
  have HC0 := Aside0.mk hc0
  clear hr0 hc0
  have HV := Aside0.mk hv
  clear hv
  try have hu22 := Try.underlying22
  have HP0 : Aside0 (vec_Check.f l0 = some (checkE l0)) := ⟨vec_Check.of l0⟩
  by_cases hp0 : checkE l0 = 0
  · rw [if_pos hp0] at h
    rw [hp0] at HP0
    have HN : Aside0 (l0.length ≤ 4096) := ⟨checkE_le hp0⟩
    have HH := Aside0.mk h
    clear h hp0
    have HX0 : Aside0 ((w.alloc (Obj.cells #[Value.slice A0 l0.length c0] 22)).cell? ⟨w.heap.size, 0, none⟩ = some (.slice A0 l0.length c0)) := ⟨by simp [go_sem]⟩
    have HB : Aside0 (Below w.heap.size w (w.alloc (Obj.cells #[Value.slice A0 l0.length c0] 22))) := ⟨below_alloc (Below.refl _ _) _⟩
    go_enter Try.func20, Try.ntmps20
    go_wp2_with (first | (go_at_call 33; (with_reducible refine (vec_Check.calls A0 c0 l0 0 _ (Kd.C_below HR0.out HB.out) HC0.out HP0.out).mono ?_); rintro ed W1 ⟨rfl, hd⟩; have hb := hd.below; clear hd; have HB := Aside0.mk (below_then HB.out HB.out.size hb); have HX0 := Aside0.mk (pw_cell_below hb HX0.out); have hx0 := HX0.out; clear hb) | (go_at_call 34; (with_reducible refine (vec_total.calls 35 _ (fun i : Nat => fix_Abs.f (rd l0 i)) l0.length (by have := HN.out; omega) _ r1 r2 ?ent ?tells ?go).mono ?_); (case ent => exact enters_of Try.func35 rfl rfl); (case tells => intro i W x e hi hb hg; refine (vec_Size_1.calls (w.heap.size) A0 c0 l0 i W x e (pw_cell_below hb HX0.out) (Kd.C_below (Kd.C_below HR0.out HB.out) hb) (by omega) hg).mono ?_; rintro ed W' ⟨rfl, hd⟩; exact ⟨rfl, hd.below⟩); (case go => exact (total_spec (fun a b ha hb => fix_Add.of a b ⟨ha, hb⟩) (by intro p hp; obtain ⟨x, _, rfl⟩ := List.mem_map.1 hp; exact res_i64 _) (ps := l0.map absF) (List.length_map _) (fun j h => by rw [map_get _ j h]; exact fix_Abs.of _ (HV.out.rd _))).trans (congrArg some HH.out)); rintro ed W2 ⟨rfl, hb⟩; have HB2 := Aside0.mk (below_then HB.out HB.out.size hb); clear hb))
    go_ret2
    exact ⟨rfl, HB2.out⟩
  · rw [if_neg hp0] at h
    cases h
    have HX0 : Aside0 ((w.alloc (Obj.cells #[Value.slice A0 l0.length c0] 22)).cell? ⟨w.heap.size, 0, none⟩ = some (.slice A0 l0.length c0)) := ⟨by simp [go_sem]⟩
    have HB : Aside0 (Below w.heap.size w (w.alloc (Obj.cells #[Value.slice A0 l0.length c0] 22))) := ⟨below_alloc (Below.refl _ _) _⟩
    have he0 : (checkE l0 == 0) = false := beq_eq_false_iff_ne.2 hp0
    have he1 : (checkE l0 != 0) = true := bne_iff_ne.2 hp0
    obtain ⟨e_, hE⟩ : ∃ e_ : Int, checkE l0 = e_ := ⟨_, rfl⟩
    rw [hE] at HP0 he0 he1
    simp only [hE]
    clear hE hp0
    go_enter Try.func20, Try.ntmps20
    go_wp2_with (first | (go_at_call 33; (with_reducible refine (vec_Check.calls A0 c0 l0 e_ _ (Kd.C_below HR0.out HB.out) HC0.out HP0.out).mono ?_); rintro ed W1 ⟨rfl, hd⟩; have hb := hd.below; clear hd; have HB := Aside0.mk (below_then HB.out HB.out.size hb); have HX0 := Aside0.mk (pw_cell_below hb HX0.out); have hx0 := HX0.out; clear hb))
    go_ret2
    exact ⟨rfl, HB.out⟩


/-! ### sign_Mean: function 11 -/
def sign_Mean.f (l0 : List Int) : Option (Int × Int) := if (l0.length : Int) = 0 then (some (0, 1)) else ((vec_Size.f l0).bind fun bt105 => (some (wrap64 (Int.tdiv bt105.1 (l0.length : Int)), bt105.2)))
set_option maxHeartbeats 8000000 in
set_option maxRecDepth 100000 in
theorem sign_Mean.calls (A0 : Option Addr) (c0 : Nat) (l0 : List Int) (r1 : Int) (r2 : Int) (w : World) (hr0 : Kd.C (Kd.int .i64) w A0 l0.length l0) (hc0 : l0.length ≤ c0) (h : sign_Mean.f l0 = some (r1, r2)) :
  Calls Try.prog 11 #[.slice A0 l0.length c0] w fun e w' => e = .returned (.tuple #[.int .i64 r1, .int .i64 r2]) ∧ Below w.heap.size w w' := by
 have HR0 := Aside0.mk hr0
 have HC0 := Aside0.mk hc0
 clear hr0 hc0
 have HB := Aside0.mk (Below.refl w.heap.size w)
 have H : (if (l0.length : Int) = 0 then (some (0, 1)) else ((vec_Size.f l0).bind fun bt105 => (some (wrap64 (Int.tdiv bt105.1 (l0.length : Int)), bt105.2)))) = some (r1, r2) := h
 clear h
 by_cases c2 : (l0.length : Int) = 0
 ·
  rw [if_pos c2] at H
  have c2b0 : ((l0.length : Int) == 0) = true := beq_iff_eq.mpr c2
  have c2b1 : ((l0.length : Int) != 0) = false := bne_eq_false_iff_eq.mpr c2
  clear c2
  simp only [Option.some.injEq, Prod.mk.injEq] at H
  obtain ⟨rfl, rfl⟩ := H
  go_enter Try.func11, Try.ntmps11
  go_wp2
  go_ret2
  exact ⟨by first | rfl | (simp [errW_none, errW_some] <;> rfl) | (simp [*, errW_none, errW_some] <;> rfl), by repeat (first | (with_reducible first | exact HB.out | apply below_alloc | apply pw_below_drewN | apply below_drew1) | exact HB.out)⟩
 ·
  rw [if_neg c2] at H
  have c2b0 : ((l0.length : Int) == 0) = false := beq_eq_false_iff_ne.mpr c2
  have c2b1 : ((l0.length : Int) != 0) = true := bne_iff_ne.mpr c2
  have c2b2 : ¬ (l0 = []) := fun h_ => c2 (by rw [h_]; rfl)
  replace H := Option.bind_eq_some_iff.mp H
  obtain ⟨⟨t105, t106⟩, A30, H⟩ := H
  replace H : (some (wrap64 (Int.tdiv t105 (l0.length : Int)), t106)) = some (r1, r2) := H
  have A3 := Aside0.mk A30
  clear A30
  simp only [Option.some.injEq, Prod.mk.injEq] at H
  obtain ⟨rfl, rfl⟩ := H
  go_enter Try.func11, Try.ntmps11
  go_wp2_with (first | ((with_reducible refine gate_callee (f := 20) rfl ?_); refine goesL_ (some 11) rfl rfl Try.func20 (by kernel_rfl) rfl #[.slice A0 l0.length c0] rfl (by (try simp only [List.map_toArray, List.map_cons, List.map_nil]); first | done | rfl | (simp only [List.length_drop, List.length_take]; rfl)) ?_; (with_reducible refine (vec_Size.calls _ _ l0 t105 t106 _ ?side1 ?side2 A3.out).mono ?_); (case side1 => repeat (first | exact HR0.out | (with_reducible refine Kd.C_alloc ?_ _) | (with_reducible refine Kd.C_drewN ?_ _) | (with_reducible refine Kd.C_drew ?_))); (case side2 => exact HC0.out); rintro e w4 ⟨rfl, hb⟩; refine ⟨_, rfl, ?_⟩; have n0_ := Aside0.mk (below_step (by repeat (first | (with_reducible first | exact HB.out | apply below_alloc | apply pw_below_drewN | apply below_drew1) | exact HB.out)) hb); clear HB; have HB := n0_; clear n0_; (try clear hb); (try clear hb2); (try clear hk); (try clear hi)))
  go_ret2
  exact ⟨by first | rfl | (simp [errW_none, errW_some] <;> rfl) | (simp [*, errW_none, errW_some] <;> rfl), by repeat (first | (with_reducible first | exact HB.out | apply below_alloc | apply pw_below_drewN | apply below_drew1) | exact HB.out)⟩

/-! ### sign_each_int64_bool: function 21 -/
set_option maxHeartbeats 2000000 in
set_option maxRecDepth 100000 in
theorem sign_each_int64_bool.gen (K : Nat) (caps : Array Value) (g : Int → Bool) (A0 : Option Addr) (c0 : Nat) (l0 : List Int) (w : World) (hl : l0.length < 17592186044416)
    (hent : ∀ (args : Array Value) (w : World), (callFunc K args).run Try.prog w = .ok (.enter K args) w)
    (hr0 : Kd.C (Kd.int .i64) w A0 l0.length l0)
    (H : TellsF Try.prog K caps l0.length (fun i => Value.int .i64 (l0.getD i default)) (fun i => Value.bool (g (l0.getD i default))) w) :
    Calls Try.prog 21 #[.slice A0 l0.length c0, .func (.func K) #[] caps] w fun e w' => ∃ v0_ : Value, e = .returned v0_ ∧ Kd.R Kd.bool 4 w' w.heap.size (fun _ => True) v0_ (l0.map g) ∧ Below w.heap.size w w' := by
  have hmk := run_make_room (P := Try.prog) 27 4 (.bool false) 1 Try.underlying27 info4 rfl .i64 .i64 l0.length (by omega) (by omega)
  have HH := Aside0.mk H
  have HR := Aside0.mk hr0
  have HL := Aside0.mk hl
  clear H hr0 hl
  go_enter Try.func21, Try.ntmps21
  go_wp2_with fail
  go_loopw [5, 13] (fun v i W => ∃ (k : Nat), i = .int .i64 k ∧ Aside0 (k ≤ l0.length) ∧ Aside0 (Kd.R Kd.bool 4 W w.heap.size (fun _ => True) v ((l0.take k).map g)) ∧ Aside0 (Below w.heap.size w W)) (fun _ i _ => l0.length - (intOf i).toNat)
  case atStart => exact ⟨0, rfl, ⟨Nat.zero_le _⟩, ⟨by have ho := own_room w w.heap.size 4 (madeCells #[.bool false] l0.length) l0.length (Nat.le_refl _) (by have := HL.out; simp only [maxLen]; omega) (size_madeCells _ _); exact Kd.R_of_own (enc := Value.bool) (h1 := fun _ => rfl) (xs := ([] : List Bool)) ho (fun _ _ => trivial)⟩, ⟨below_alloc (Below.refl _ _) _⟩⟩
  case round =>
    obtain ⟨k, rfl, ⟨hk⟩, HO, HB⟩ := hrel
    by_cases hlt : k < l0.length
    · obtain ⟨ad, rfl, hc⟩ := Kd.at_int (Kd.C_below HR.out HB.out) (k : Int) (by omega) (by omega)
      simp only [Int.toNat_natCast] at hc
      rw [show rd l0 (k : Int) = l0.getD k default from rfl] at hc
      obtain ⟨x, hx⟩ : ∃ x, l0.getD k default = x := ⟨_, rfl⟩
      have hcl := HH.out k wr hlt HB.out
      simp only [hx] at hcl hc
      have HC := Aside0.mk hcl
      have ht : (l0.take (k + 1)).map g = (l0.take k).map g ++ [g x] := by
        rw [List.take_add_one, List.getElem?_eq_getElem hlt, ← hx, List.getD_eq_getElem?_getD, List.getElem?_eq_getElem hlt, List.map_append]; rfl
      have HT := Aside0.mk ht
      have hkl : ((l0.take k).map g).length = k := by simp; omega
      have HKL := Aside0.mk hkl
      clear ht hk hkl hcl
      go_wp2_with (first
        | (go_at_fn K; refine HC.out.mono ?_; rintro ed W1 ⟨rfl, hb⟩; have HO1 := Aside0.mk (Kd.R_below HO.out hb); have HB1 := Aside0.mk (below_then HB.out HB.out.size hb); clear hb)
        | ((with_reducible refine gate_builtin (b := .append) (xs := #[.tmp 17, .tmp 21]) rfl ?_); at_builtin; refine Kd.R_append Kd.bool (w0 := w) w.heap.size rfl (.tmp 17) (.tmp 21) 27 4 (.bool false) 1 rfl Try.underlying27 info4 rfl (by decide) (by omega) u5 ((l0.take k).map g) (g x) [Value.bool (g x)] (fun _ => True) (fun _ => False) rfl rfl ?aP (fun _ hk => hk.elim) ?aF ?aO ?aB ?aS ?aL ?_; (case aP => exact rfl); (case aB => exact HB1.out); (case aF => exact (fun _ _ => trivial)); (case aO => exact HO1.out); (case aS => exact HB1.out.size); (case aL => have := HKL.out; have := HL.out; omega); intro v1 w2 ho hb hg hat; rw [← HT.out] at ho; have HO2 := Aside0.mk ho; have HB2 := Aside0.mk hb; clear ho hb hg hat))
      have hL := HL.out
      exact ⟨⟨k + 1, by rw [wrap64_of (show I64 ((k : Int) + 1) by unfold I64; omega)]; rfl, ⟨hlt⟩, HO2, HB2⟩, by rw [wrap64_of (show I64 ((k : Int) + 1) by unfold I64; omega)]; simp [intOf]; omega⟩
    · have hkn : k = l0.length := by omega
      subst hkn
      have HO2 := HO.out
      rw [List.take_length] at HO2
      have HO3 := Aside0.mk HO2
      clear HO2 HO hk
      go_wp2
      go_ret
      exact ⟨_, rfl, HO3.out, HB.out⟩
theorem sign_each_int64_bool_1.calls (x : Int) (w : World) : Calls Try.prog 22 #[.int .i64 x] w fun e w' => e = .returned (.bool (decide (x < 0))) ∧ Drawn0 w w' := by
  go_enter Try.func22, Try.ntmps22
  go_wp2
  go_ret
  exact ⟨rfl, ⟨0, rfl⟩⟩
def sign_each_int64_bool.f (l0 : List Int) (a1 : Nat) : Option (List Bool) := if a1 = 22 ∧ l0.length < 17592186044416 then some (l0.map fun x => decide (x < 0)) else none
theorem sign_each_int64_bool.of (l0 : List Int) (a1 : Nat)  (h_ : a1 = 22 ∧ l0.length < 17592186044416) : sign_each_int64_bool.f l0 a1 = some (l0.map fun x => decide (x < 0)) := if_pos h_
theorem sign_each_int64_bool.calls (A0 : Option Addr) (c0 : Nat) (l0 : List Int) (a1 : Nat) (r : List Bool) (w : World) (hr0 : Kd.C (Kd.int .i64) w A0 l0.length l0) (hc0 : l0.length ≤ c0) (h : sign_each_int64_bool.f l0 a1 = some r) :
    Calls Try.prog 21 #[.slice A0 l0.length c0, .func (.func a1) #[] #[]] w fun e w' => ∃ v0_ : Value, e = .returned (v0_) ∧ Kd.R Kd.bool 4 w' w.heap.size (fun _ => True) v0_ r ∧ Below w.heap.size w w' := by
  unfold sign_each_int64_bool.f at h
  split at h
  case isFalse => cases h
  rename_i hv
  obtain ⟨rfl, hl⟩ := hv
  cases h
  refine sign_each_int64_bool.gen _ #[] (fun x => decide (x < 0)) A0 c0 l0 w hl (enters_of Try.func22 rfl rfl) hr0 ?_
  intro i W hi hb
  refine (sign_each_int64_bool_1.calls (l0.getD i default) W).mono ?_
  rintro e w' ⟨rfl, hd⟩
  exact ⟨rfl, hd.below⟩


-- NOT PRINTED: function 22 (sign_Press_1)

/-! ### sign_Press: function 8 -/
def sign_Press.f (l0 : List Int) : Option (Int × Int × List Int × List Int × Int × Int × List Int × List Bool × Int) := (sign_Mean.f l0).bind fun bt108 => (if bt108.2 = 0 then ((sign_each_int64_bool.f l0 22).bind fun t110 => (some (3, (l0.length : Int), ([] : List Int), ([] : List Int), bt108.1, 0, ([] : List Int), t110, 0))) else (some (0, 0, ([] : List Int), ([] : List Int), 0, 0, ([] : List Int), ([] : List Bool), bt108.2)))
set_option maxHeartbeats 8000000 in
set_option maxRecDepth 100000 in
theorem sign_Press.calls (A0 : Option Addr) (c0 : Nat) (l0 : List Int) (r1 : Int) (r2 : Int) (r3 : List Int) (r4 : List Int) (r5 : Int) (r6 : Int) (r7 : List Int) (r8 : List Bool) (r9 : Int) (w : World) (hr0 : Kd.C (Kd.int .i64) w A0 l0.length l0) (hc0 : l0.length ≤ c0) (h : sign_Press.f l0 = some (r1, r2, r3, r4, r5, r6, r7, r8, r9)) :
  Calls Try.prog 8 #[.slice A0 l0.length c0] w fun e w' => ∃ v2_ v3_ v6_ v7_ : Value, e = .returned (.tuple #[.agg #[.int .i64 r1, .int .i64 r2, v2_, v3_, .int .i64 r5, .int .i64 r6, v6_, v7_], .int .i64 r9]) ∧ Kd.R (Kd.int .i64) 3 w' w.heap.size (fun _ => True) v2_ r3 ∧ Kd.R (Kd.int .i64) 2 w' w.heap.size (fun _ => True) v3_ r4 ∧ Kd.R (Kd.int .u64) 58 w' w.heap.size (fun _ => True) v6_ r7 ∧ Kd.R Kd.bool 4 w' w.heap.size (fun _ => True) v7_ r8 ∧ Below w.heap.size w w' := by
 have hu29 := Try.underlying29
 have HR0 := Aside0.mk hr0
 have HC0 := Aside0.mk hc0
 clear hr0 hc0
 have HB := Aside0.mk (Below.refl w.heap.size w)
 have H : ((sign_Mean.f l0).bind fun bt108 => (if bt108.2 = 0 then ((sign_each_int64_bool.f l0 22).bind fun t110 => (some (3, (l0.length : Int), ([] : List Int), ([] : List Int), bt108.1, 0, ([] : List Int), t110, 0))) else (some (0, 0, ([] : List Int), ([] : List Int), 0, 0, ([] : List Int), ([] : List Bool), bt108.2)))) = some (r1, r2, r3, r4, r5, r6, r7, r8, r9) := h
 clear h
 replace H := Option.bind_eq_some_iff.mp H
 obtain ⟨⟨t108, t109⟩, A20, H⟩ := H
 replace H : (if t109 = 0 then ((sign_each_int64_bool.f l0 22).bind fun t110 => (some (3, (l0.length : Int), ([] : List Int), ([] : List Int), t108, 0, ([] : List Int), t110, 0))) else (some (0, 0, ([] : List Int), ([] : List Int), 0, 0, ([] : List Int), ([] : List Bool), t109))) = some (r1, r2, r3, r4, r5, r6, r7, r8, r9) := H
 have A2 := Aside0.mk A20
 clear A20
 by_cases c3 : t109 = 0
 ·
  rw [if_pos c3] at H
  have c3b0 : (t109 == 0) = true := beq_iff_eq.mpr c3
  have c3b1 : (t109 != 0) = false := bne_eq_false_iff_eq.mpr c3
  clear c3
  replace H := Option.bind_eq_some_iff.mp H
  obtain ⟨t110, A40, H⟩ := H
  replace H : (some (3, (l0.length : Int), ([] : List Int), ([] : List Int), t108, 0, ([] : List Int), t110, 0)) = some (r1, r2, r3, r4, r5, r6, r7, r8, r9) := H
  have A4 := Aside0.mk A40
  clear A40
  simp only [Option.some.injEq, Prod.mk.injEq] at H
  obtain ⟨rfl, rfl, rfl, rfl, rfl, rfl, rfl, rfl, rfl⟩ := H
  go_enter Try.func8, Try.ntmps8
  go_wp2_with (first | ((with_reducible refine gate_dst (N := 2) rfl ?_); refine box_event ?hg (N := 2) ?hd (cs := #[.int .i64 0, .int .i64 0, .slice none 0 0, .slice none 0 0, .int .i64 0, .int .i64 0, .slice none 0 0, .slice none 0 0]) (t := 29) ?hr ?_; (case hd => rfl); (case hg => rfl); (case hr => first | (go_simp; done) | (go_simp; rfl)); intro gb107 hg w5 hbox hb; have n0_ := Aside0.mk (below_step (by repeat (first | (with_reducible first | exact HB.out | apply below_alloc | apply pw_below_drewN | apply below_drew1) | exact HB.out)) hb); have n1_ := Aside0.mk (hbox); have n2_ := Aside0.mk ((by rw [hg]; exact (below_size (by repeat (first | (with_reducible first | exact HB.out | apply below_alloc | apply pw_below_drewN | apply below_drew1) | exact HB.out))) : w.heap.size ≤ gb107)); have n3_ := Aside0.mk ((by rw [hg]; exact (below_size (by repeat (first | (with_reducible first | exact HB.out | apply below_alloc | apply pw_below_drewN | apply below_drew1) | exact HB.out))) : w.heap.size ≤ gb107)); clear HB; have HB := n0_; have BK107 := n1_; have GW107 := n2_; have GE107 := n3_; clear n0_ n1_ n2_ n3_; clear hb hbox hg) | ((with_reducible refine gate_callee (f := 11) rfl ?_); refine goesL_ (some 8) rfl rfl Try.func11 (by kernel_rfl) rfl #[.slice A0 l0.length c0] rfl (by (try simp only [List.map_toArray, List.map_cons, List.map_nil]); first | done | rfl | (simp only [List.length_drop, List.length_take]; rfl)) ?_; (with_reducible refine (sign_Mean.calls _ _ l0 t108 t109 _ ?side1 ?side2 A2.out).mono ?_); (case side1 => repeat (first | exact (Kd.C_below HR0.out HB.out) | (with_reducible refine Kd.C_alloc ?_ _) | (with_reducible refine Kd.C_drewN ?_ _) | (with_reducible refine Kd.C_drew ?_))); (case side2 => exact HC0.out); rintro e w6 ⟨rfl, hb⟩; refine ⟨_, rfl, ?_⟩; have n0_ := Aside0.mk (blk_below (g := gb107) (o := .cells #[.int .i64 0, .int .i64 0, .slice none 0 0, .slice none 0 0, .int .i64 0, .int .i64 0, .slice none 0 0, .slice none 0 0] 29 (0, 0)) (by (with_reducible repeat (first | refine blk_drewN ?_ _ | refine blk_drew ?_ | refine blk_alloc ?_ _)); exact BK107.out) hb); have n1_ := Aside0.mk (below_step (by repeat (first | (with_reducible first | exact HB.out | apply below_alloc | apply pw_below_drewN | apply below_drew1 | refine below_set ?_ GE107.out) | exact HB.out)) hb); clear BK107; clear HB; have BK107 := n0_; have HB := n1_; clear n0_ n1_; (try clear hb); (try clear hb2); (try clear hk); (try clear hi)) | ((with_reducible refine gate_callee (f := 21) rfl ?_); refine goesL_ (some 19) rfl rfl Try.func21 (by kernel_rfl) rfl #[.slice A0 l0.length c0, .func (.func 22) #[] #[]] rfl (by (try simp only [List.map_toArray, List.map_cons, List.map_nil]); first | done | rfl | (simp only [List.length_drop, List.length_take]; rfl)) ?_; (with_reducible refine (sign_each_int64_bool.calls _ _ l0 22 t110 _ ?side1 ?side2 A4.out).mono ?_); (case side1 => repeat (first | exact (Kd.C_below HR0.out HB.out) | (with_reducible refine Kd.C_alloc ?_ _) | (with_reducible refine Kd.C_drewN ?_ _) | (with_reducible refine Kd.C_drew ?_))); (case side2 => exact HC0.out); rintro e w7 ⟨v111, rfl, ho0, hb⟩; refine ⟨_, rfl, ?_⟩; have n0_ := Aside0.mk (Kd.R_lower ho0 (below_size (by repeat (first | (with_reducible first | exact HB.out | apply below_alloc | apply pw_below_drewN | apply below_drew1 | refine below_set ?_ GE107.out) | exact HB.out)))); have n1_ := Aside0.mk (blk_below (g := gb107) (o := .cells #[.int .i64 0, .int .i64 0, .slice none 0 0, .slice none 0 0, .int .i64 0, .int .i64 0, .slice none 0 0, .slice none 0 0] 29 (0, 0)) (by (with_reducible repeat (first | refine blk_drewN ?_ _ | refine blk_drew ?_ | refine blk_alloc ?_ _)); exact BK107.out) hb); have n2_ := Aside0.mk (below_step (by repeat (first | (with_reducible first | exact HB.out | apply below_alloc | apply pw_below_drewN | apply below_drew1 | refine below_set ?_ GE107.out) | exact HB.out)) hb); clear BK107; clear HB; have HO112 := n0_; have BK107 := n1_; have HB := n2_; clear n0_ n1_ n2_; (try clear hb); (try clear hb2); (try clear hk); (try clear hi); (try clear ho0); obtain ⟨Ao8, co8, eo8⟩ := Kd.R_slice HO112.out; subst eo8; have hcz9_0 : w7.cell? ⟨gb107, 0, none⟩ = some (.int .i64 0) := (blk_cell BK107.out 0).trans rfl; have hcz9_1 : w7.cell? ⟨gb107, 1, none⟩ = some (.int .i64 0) := (blk_cell BK107.out 1).trans rfl; have hcz9_2 : w7.cell? ⟨gb107, 2, none⟩ = some (.slice none 0 0) := (blk_cell BK107.out 2).trans rfl; have hcz9_3 : w7.cell? ⟨gb107, 3, none⟩ = some (.slice none 0 0) := (blk_cell BK107.out 3).trans rfl; have hcz9_4 : w7.cell? ⟨gb107, 4, none⟩ = some (.int .i64 0) := (blk_cell BK107.out 4).trans rfl; have hcz9_5 : w7.cell? ⟨gb107, 5, none⟩ = some (.int .i64 0) := (blk_cell BK107.out 5).trans rfl; have hcz9_6 : w7.cell? ⟨gb107, 6, none⟩ = some (.slice none 0 0) := (blk_cell BK107.out 6).trans rfl; have hcz9_7 : w7.cell? ⟨gb107, 7, none⟩ = some (.slice none 0 0) := (blk_cell BK107.out 7).trans rfl; have hfz9_0 := blk_frozen BK107.out 0; have hfz9_1 := blk_frozen BK107.out 1; have hfz9_2 := blk_frozen BK107.out 2; have hfz9_3 := blk_frozen BK107.out 3; have hfz9_4 := blk_frozen BK107.out 4; have hfz9_5 := blk_frozen BK107.out 5; have hfz9_6 := blk_frozen BK107.out 6; have hfz9_7 := blk_frozen BK107.out 7))
  refine bodyPost_ret (results_ct rfl _ _ gb107 29 #[.int .i64 3, .int .i64 (l0.length : Int), .slice none 0 0, .slice none 0 0, .int .i64 t108, .int .i64 0, .slice none 0 0, .slice Ao8 t110.length co8] (0, 0) _ rfl (by (with_reducible repeat (first | refine blk_drewN ?_ _ | refine blk_drew ?_ | refine blk_alloc ?_ _)); refine blk_put (cs := #[.int .i64 3, .int .i64 (l0.length : Int), .slice none 0 0, .slice none 0 0, .int .i64 t108, .int .i64 0, .slice none 0 0, .slice none 0 0]) ?_ 7 _ rfl; (with_reducible repeat (first | refine blk_drewN ?_ _ | refine blk_drew ?_ | refine blk_alloc ?_ _)); refine blk_put (cs := #[.int .i64 3, .int .i64 (l0.length : Int), .slice none 0 0, .slice none 0 0, .int .i64 t108, .int .i64 0, .slice none 0 0, .slice none 0 0]) ?_ 6 _ rfl; (with_reducible repeat (first | refine blk_drewN ?_ _ | refine blk_drew ?_ | refine blk_alloc ?_ _)); refine blk_put (cs := #[.int .i64 3, .int .i64 (l0.length : Int), .slice none 0 0, .slice none 0 0, .int .i64 t108, .int .i64 0, .slice none 0 0, .slice none 0 0]) ?_ 5 _ rfl; (with_reducible repeat (first | refine blk_drewN ?_ _ | refine blk_drew ?_ | refine blk_alloc ?_ _)); refine blk_put (cs := #[.int .i64 3, .int .i64 (l0.length : Int), .slice none 0 0, .slice none 0 0, .int .i64 0, .int .i64 0, .slice none 0 0, .slice none 0 0]) ?_ 4 _ rfl; (with_reducible repeat (first | refine blk_drewN ?_ _ | refine blk_drew ?_ | refine blk_alloc ?_ _)); refine blk_put (cs := #[.int .i64 3, .int .i64 (l0.length : Int), .slice none 0 0, .slice none 0 0, .int .i64 0, .int .i64 0, .slice none 0 0, .slice none 0 0]) ?_ 3 _ rfl; (with_reducible repeat (first | refine blk_drewN ?_ _ | refine blk_drew ?_ | refine blk_alloc ?_ _)); refine blk_put (cs := #[.int .i64 3, .int .i64 (l0.length : Int), .slice none 0 0, .slice none 0 0, .int .i64 0, .int .i64 0, .slice none 0 0, .slice none 0 0]) ?_ 2 _ rfl; (with_reducible repeat (first | refine blk_drewN ?_ _ | refine blk_drew ?_ | refine blk_alloc ?_ _)); refine blk_put (cs := #[.int .i64 3, .int .i64 0, .slice none 0 0, .slice none 0 0, .int .i64 0, .int .i64 0, .slice none 0 0, .slice none 0 0]) ?_ 1 _ rfl; (with_reducible repeat (first | refine blk_drewN ?_ _ | refine blk_drew ?_ | refine blk_alloc ?_ _)); refine blk_put (cs := #[.int .i64 0, .int .i64 0, .slice none 0 0, .slice none 0 0, .int .i64 0, .int .i64 0, .slice none 0 0, .slice none 0 0]) ?_ 0 _ rfl; (with_reducible repeat (first | refine blk_drewN ?_ _ | refine blk_drew ?_ | refine blk_alloc ?_ _)); exact BK107.out) Try.underlying29 rfl (by kernel_rfl)) rfl ?_
  exact ⟨_, _, _, _, by first | rfl | (simp [errW_none, errW_some] <;> rfl) | (simp [*, errW_none, errW_some] <;> rfl), by first | exact Kd.R_nil _ _ _ _ _ | exact Kd.N_nil _ _ _ _ _ | exact Kd.V_nil _ _ _ _ _ | exact Kd.Q_nil _ _ _ _ _ | exact Kd.S_nil _ _ _ _ _, by first | exact Kd.R_nil _ _ _ _ _ | exact Kd.N_nil _ _ _ _ _ | exact Kd.V_nil _ _ _ _ _ | exact Kd.Q_nil _ _ _ _ _ | exact Kd.S_nil _ _ _ _ _, by first | exact Kd.R_nil _ _ _ _ _ | exact Kd.N_nil _ _ _ _ _ | exact Kd.V_nil _ _ _ _ _ | exact Kd.Q_nil _ _ _ _ _ | exact Kd.S_nil _ _ _ _ _, by (with_reducible repeat (first | apply Kd.R_alloc | apply Kd.R_drewN | apply Kd.R_drew)); exact Kd.R_mono (Kd.R_far (p := ⟨gb107, 7, none⟩) (Kd.R_far (p := ⟨gb107, 6, none⟩) (Kd.R_far (p := ⟨gb107, 5, none⟩) (Kd.R_far (p := ⟨gb107, 4, none⟩) (Kd.R_far (p := ⟨gb107, 3, none⟩) (Kd.R_far (p := ⟨gb107, 2, none⟩) (Kd.R_far (p := ⟨gb107, 1, none⟩) (Kd.R_far (p := ⟨gb107, 0, none⟩) (Kd.R_types HO112.out BK107.out (by decide)) (fun _ hk => hk.2) (.int .i64 3)) (fun _ hk => hk.2) (.int .i64 (l0.length : Int))) (fun _ hk => hk.2) (.slice none 0 0)) (fun _ hk => hk.2) (.slice none 0 0)) (fun _ hk => hk.2) (.int .i64 t108)) (fun _ hk => hk.2) (.int .i64 0)) (fun _ hk => hk.2) (.slice none 0 0)) (fun _ hk => hk.2) (.slice Ao8 t110.length co8)) (fun _ hk => trivial), by repeat (first | (with_reducible first | exact HB.out | apply below_alloc | apply pw_below_drewN | apply below_drew1 | refine below_set ?_ GE107.out) | exact HB.out)⟩
 ·
  rw [if_neg c3] at H
  have c3b0 : (t109 == 0) = false := beq_eq_false_iff_ne.mpr c3
  have c3b1 : (t109 != 0) = true := bne_iff_ne.mpr c3
  simp only [Option.some.injEq, Prod.mk.injEq] at H
  obtain ⟨rfl, rfl, rfl, rfl, rfl, rfl, rfl, rfl, rfl⟩ := H
  go_enter Try.func8, Try.ntmps8
  go_wp2_with (first | ((with_reducible refine gate_dst (N := 2) rfl ?_); refine box_event ?hg (N := 2) ?hd (cs := #[.int .i64 0, .int .i64 0, .slice none 0 0, .slice none 0 0, .int .i64 0, .int .i64 0, .slice none 0 0, .slice none 0 0]) (t := 29) ?hr ?_; (case hd => rfl); (case hg => rfl); (case hr => first | (go_simp; done) | (go_simp; rfl)); intro gb107 hg w10 hbox hb; have n0_ := Aside0.mk (below_step (by repeat (first | (with_reducible first | exact HB.out | apply below_alloc | apply pw_below_drewN | apply below_drew1) | exact HB.out)) hb); have n1_ := Aside0.mk (hbox); have n2_ := Aside0.mk ((by rw [hg]; exact (below_size (by repeat (first | (with_reducible first | exact HB.out | apply below_alloc | apply pw_below_drewN | apply below_drew1) | exact HB.out))) : w.heap.size ≤ gb107)); have n3_ := Aside0.mk ((by rw [hg]; exact (below_size (by repeat (first | (with_reducible first | exact HB.out | apply below_alloc | apply pw_below_drewN | apply below_drew1) | exact HB.out))) : w.heap.size ≤ gb107)); clear HB; have HB := n0_; have BK107 := n1_; have GW107 := n2_; have GE107 := n3_; clear n0_ n1_ n2_ n3_; clear hb hbox hg) | ((with_reducible refine gate_callee (f := 11) rfl ?_); refine goesL_ (some 8) rfl rfl Try.func11 (by kernel_rfl) rfl #[.slice A0 l0.length c0] rfl (by (try simp only [List.map_toArray, List.map_cons, List.map_nil]); first | done | rfl | (simp only [List.length_drop, List.length_take]; rfl)) ?_; (with_reducible refine (sign_Mean.calls _ _ l0 t108 t109 _ ?side1 ?side2 A2.out).mono ?_); (case side1 => repeat (first | exact (Kd.C_below HR0.out HB.out) | (with_reducible refine Kd.C_alloc ?_ _) | (with_reducible refine Kd.C_drewN ?_ _) | (with_reducible refine Kd.C_drew ?_))); (case side2 => exact HC0.out); rintro e w11 ⟨rfl, hb⟩; refine ⟨_, rfl, ?_⟩; have n0_ := Aside0.mk (blk_below (g := gb107) (o := .cells #[.int .i64 0, .int .i64 0, .slice none 0 0, .slice none 0 0, .int .i64 0, .int .i64 0, .slice none 0 0, .slice none 0 0] 29 (0, 0)) (by (with_reducible repeat (first | refine blk_drewN ?_ _ | refine blk_drew ?_ | refine blk_alloc ?_ _)); exact BK107.out) hb); have n1_ := Aside0.mk (below_step (by repeat (first | (with_reducible first | exact HB.out | apply below_alloc | apply pw_below_drewN | apply below_drew1 | refine below_set ?_ GE107.out) | exact HB.out)) hb); clear BK107; clear HB; have BK107 := n0_; have HB := n1_; clear n0_ n1_; (try clear hb); (try clear hb2); (try clear hk); (try clear hi); have hcz12_0 : w11.cell? ⟨gb107, 0, none⟩ = some (.int .i64 0) := (blk_cell BK107.out 0).trans rfl; have hcz12_1 : w11.cell? ⟨gb107, 1, none⟩ = some (.int .i64 0) := (blk_cell BK107.out 1).trans rfl; have hcz12_2 : w11.cell? ⟨gb107, 2, none⟩ = some (.slice none 0 0) := (blk_cell BK107.out 2).trans rfl; have hcz12_3 : w11.cell? ⟨gb107, 3, none⟩ = some (.slice none 0 0) := (blk_cell BK107.out 3).trans rfl; have hcz12_4 : w11.cell? ⟨gb107, 4, none⟩ = some (.int .i64 0) := (blk_cell BK107.out 4).trans rfl; have hcz12_5 : w11.cell? ⟨gb107, 5, none⟩ = some (.int .i64 0) := (blk_cell BK107.out 5).trans rfl; have hcz12_6 : w11.cell? ⟨gb107, 6, none⟩ = some (.slice none 0 0) := (blk_cell BK107.out 6).trans rfl; have hcz12_7 : w11.cell? ⟨gb107, 7, none⟩ = some (.slice none 0 0) := (blk_cell BK107.out 7).trans rfl; have hfz12_0 := blk_frozen BK107.out 0; have hfz12_1 := blk_frozen BK107.out 1; have hfz12_2 := blk_frozen BK107.out 2; have hfz12_3 := blk_frozen BK107.out 3; have hfz12_4 := blk_frozen BK107.out 4; have hfz12_5 := blk_frozen BK107.out 5; have hfz12_6 := blk_frozen BK107.out 6; have hfz12_7 := blk_frozen BK107.out 7))
  refine bodyPost_ret (results_ct rfl _ _ gb107 29 #[.int .i64 0, .int .i64 0, .slice none 0 0, .slice none 0 0, .int .i64 0, .int .i64 0, .slice none 0 0, .slice none 0 0] (0, 0) _ rfl (by (with_reducible repeat (first | refine blk_drewN ?_ _ | refine blk_drew ?_ | refine blk_alloc ?_ _)); refine blk_put (cs := #[.int .i64 0, .int .i64 0, .slice none 0 0, .slice none 0 0, .int .i64 0, .int .i64 0, .slice none 0 0, .slice none 0 0]) ?_ 7 _ rfl; (with_reducible repeat (first | refine blk_drewN ?_ _ | refine blk_drew ?_ | refine blk_alloc ?_ _)); refine blk_put (cs := #[.int .i64 0, .int .i64 0, .slice none 0 0, .slice none 0 0, .int .i64 0, .int .i64 0, .slice none 0 0, .slice none 0 0]) ?_ 6 _ rfl; (with_reducible repeat (first | refine blk_drewN ?_ _ | refine blk_drew ?_ | refine blk_alloc ?_ _)); refine blk_put (cs := #[.int .i64 0, .int .i64 0, .slice none 0 0, .slice none 0 0, .int .i64 0, .int .i64 0, .slice none 0 0, .slice none 0 0]) ?_ 5 _ rfl; (with_reducible repeat (first | refine blk_drewN ?_ _ | refine blk_drew ?_ | refine blk_alloc ?_ _)); refine blk_put (cs := #[.int .i64 0, .int .i64 0, .slice none 0 0, .slice none 0 0, .int .i64 0, .int .i64 0, .slice none 0 0, .slice none 0 0]) ?_ 4 _ rfl; (with_reducible repeat (first | refine blk_drewN ?_ _ | refine blk_drew ?_ | refine blk_alloc ?_ _)); refine blk_put (cs := #[.int .i64 0, .int .i64 0, .slice none 0 0, .slice none 0 0, .int .i64 0, .int .i64 0, .slice none 0 0, .slice none 0 0]) ?_ 3 _ rfl; (with_reducible repeat (first | refine blk_drewN ?_ _ | refine blk_drew ?_ | refine blk_alloc ?_ _)); refine blk_put (cs := #[.int .i64 0, .int .i64 0, .slice none 0 0, .slice none 0 0, .int .i64 0, .int .i64 0, .slice none 0 0, .slice none 0 0]) ?_ 2 _ rfl; (with_reducible repeat (first | refine blk_drewN ?_ _ | refine blk_drew ?_ | refine blk_alloc ?_ _)); refine blk_put (cs := #[.int .i64 0, .int .i64 0, .slice none 0 0, .slice none 0 0, .int .i64 0, .int .i64 0, .slice none 0 0, .slice none 0 0]) ?_ 1 _ rfl; (with_reducible repeat (first | refine blk_drewN ?_ _ | refine blk_drew ?_ | refine blk_alloc ?_ _)); refine blk_put (cs := #[.int .i64 0, .int .i64 0, .slice none 0 0, .slice none 0 0, .int .i64 0, .int .i64 0, .slice none 0 0, .slice none 0 0]) ?_ 0 _ rfl; (with_reducible repeat (first | refine blk_drewN ?_ _ | refine blk_drew ?_ | refine blk_alloc ?_ _)); exact BK107.out) Try.underlying29 rfl (by kernel_rfl)) rfl ?_
  exact ⟨_, _, _, _, by first | rfl | (simp [errW_none, errW_some] <;> rfl) | (simp [*, errW_none, errW_some] <;> rfl), by first | exact Kd.R_nil _ _ _ _ _ | exact Kd.N_nil _ _ _ _ _ | exact Kd.V_nil _ _ _ _ _ | exact Kd.Q_nil _ _ _ _ _ | exact Kd.S_nil _ _ _ _ _, by first | exact Kd.R_nil _ _ _ _ _ | exact Kd.N_nil _ _ _ _ _ | exact Kd.V_nil _ _ _ _ _ | exact Kd.Q_nil _ _ _ _ _ | exact Kd.S_nil _ _ _ _ _, by first | exact Kd.R_nil _ _ _ _ _ | exact Kd.N_nil _ _ _ _ _ | exact Kd.V_nil _ _ _ _ _ | exact Kd.Q_nil _ _ _ _ _ | exact Kd.S_nil _ _ _ _ _, by first | exact Kd.R_nil _ _ _ _ _ | exact Kd.N_nil _ _ _ _ _ | exact Kd.V_nil _ _ _ _ _ | exact Kd.Q_nil _ _ _ _ _ | exact Kd.S_nil _ _ _ _ _, by repeat (first | (with_reducible first | exact HB.out | apply below_alloc | apply pw_below_drewN | apply below_drew1 | refine below_set ?_ GE107.out) | exact HB.out)⟩

end Go.Proofs.Ytnhdeljkoackfaa.HC
