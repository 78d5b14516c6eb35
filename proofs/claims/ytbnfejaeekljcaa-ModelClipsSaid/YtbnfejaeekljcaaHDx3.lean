/- What Go functions do, each as a plain Lean function with the same answers, and the proof of it, in every world: printed by the session's driver over the kit's print, with texts by hand. -/
import Derived.Test.YtbnfejaeekljcaaHDx0
import Derived.Test.YtbnfejaeekljcaaHDx1
import Derived.Test.YtbnfejaeekljcaaHDx2
namespace Go.Proofs.Ytbnfejaeekljcaa.HD
open Go.RowKit Go.Proofs.YtbnfejaeekljcaaW.PrintWords Go.Proofs.YtbnfejaeekljcaaW.PrintLast Go.Proofs.YtbnfejaeekljcaaW.PrintMore
attribute [local go_sem] max2_int min2_int max_two min_two max_three min_three max_four min_four   -- for this text's walks alone
open Go.Proofs.Ytbnfejaeekljcaa.Sp
attribute [local go_sem] Go.Proofs.Ytbnfejaeekljcaa.Sp.u64_not
set_option linter.unusedVariables false
set_option linter.unusedSimpArgs false

/-! ### vec_behind: function 51 -/
def vec_behind.f (a0 : Int) : Option (Int) := (fix_Mul.f 0 0 a0).bind fun bt152 => (some bt152.2)
set_option maxHeartbeats 8000000 in
set_option maxRecDepth 100000 in
theorem vec_behind.calls (a0 : Int) (r : Int) (w : World) (h : vec_behind.f a0 = some r) :
  Calls Try.prog 51 #[.int .i64 a0] w fun e w' => e = .returned (.int .i64 r) ∧ Below w.heap.size w w' := by
 have HB := Aside0.mk (Below.refl w.heap.size w)
 have H : ((fix_Mul.f 0 0 a0).bind fun bt152 => (some bt152.2)) = some r := h
 clear h
 replace H := Option.bind_eq_some_iff.mp H
 obtain ⟨⟨t152, t153⟩, A20, H⟩ := H
 replace H : (some t153) = some r := H
 have A2 := Aside0.mk A20
 clear A20
 obtain rfl := Option.some.inj H
 go_enter Try.func51, Try.ntmps51
 go_wp2_with (first | ((with_reducible refine gate_callee (f := 53) rfl ?_); refine goesL_ (some 7) rfl rfl Try.func53 (by kernel_rfl) rfl #[.int .i64 0, .int .i64 0, .int .i64 a0] rfl (by (try simp only [List.map_toArray, List.map_cons, List.map_nil]); first | done | rfl | (simp only [List.length_drop, List.length_take]; rfl)) ?_; (with_reducible refine (fix_Mul.calls 0 0 a0 t152 t153 _ A2.out).mono ?_); rintro e w3 ⟨rfl, hb⟩; refine ⟨_, rfl, ?_⟩; have n0_ := Aside0.mk (zzT (by repeat (first | (with_reducible first | exact HB.out | apply zzA | apply zzN | apply zzD) | exact HB.out)) hb); clear HB; have HB := n0_; clear n0_; (try clear hb); (try clear hb2); (try clear hk); (try clear hi)))
 go_ret
 exact ⟨by first | rfl | (simp [errW_none, errW_some] <;> rfl) | (simp [*, errW_none, errW_some] <;> rfl), by repeat (first | (with_reducible first | exact HB.out | apply zzA | apply zzN | apply zzD) | exact HB.out)⟩

theorem vec_behind.of (f : Int) : vec_behind.f f = some (fracE f) := by
  unfold vec_behind.f
  rw [fix_Mul.of 0 0 f ⟨i64_zero, i64_zero⟩]
  simp only [Option.bind_some, mulF_zero_snd]


/-! ### vec_pair: function 70 -/
def vec_pair.f (l0 l1 : List Int) : Option Int := some (pairE l0 l1)
set_option maxHeartbeats 2000000 in
set_option maxRecDepth 100000 in
theorem vec_pair.calls (A0 : Option Addr) (c0 : Nat) (l0 : List Int) (A1 : Option Addr) (c1 : Nat) (l1 : List Int) (r : Int) (w : World) (hr0 : Kd.C (Kd.int .i64) w A0 l0.length l0) (hc0 : l0.length ≤ c0) (hr1 : Kd.C (Kd.int .i64) w A1 l1.length l1) (hc1 : l1.length ≤ c1) (h : vec_pair.f l0 l1 = some r) :
    Calls Try.prog 70 #[.slice A0 l0.length c0, .slice A1 l1.length c1] w fun e w' => e = .returned (.int .i64 r) ∧ Below w.heap.size w w' := by
  cases h
  have hm : (if l0.length < l1.length then (l1.length : Int) else (l0.length : Int)) = ((max l0.length l1.length : Nat) : Int) := by split <;> omega
  obtain ⟨m, hM⟩ : ∃ m : Nat, max l0.length l1.length = m := ⟨_, rfl⟩
  rw [hM] at hm
  clear hr0 hr1
  unfold pairE
  by_cases c : 4096 < m
  · have c2 : decide (4096 < (m : Int)) = true := decide_eq_true (by omega)
    rw [if_pos (by omega)]
    have HM := Aside0.mk hM
    clear hM c
    go_enter Try.func70, Try.ntmps70
    go_wp2
    go_ret
    exact ⟨rfl, Below.refl _ _⟩
  · have c2 : decide (4096 < (m : Int)) = false := decide_eq_false (by omega)
    rw [if_neg (by omega)]
    by_cases c3 : l0.length = l1.length
    · have c4 : (l0.length == l1.length) = true := beq_iff_eq.2 c3
      rw [if_neg (by omega)]
      have HM := Aside0.mk hM
      have c5 : ((l0.length : Int) != (l1.length : Int)) = false := bne_eq_false_iff_eq.2 (by omega)
      have c6 : ((l0.length : Int) == (l1.length : Int)) = true := beq_iff_eq.2 (by omega)
      clear hM c c3
      go_enter Try.func70, Try.ntmps70
      go_wp2
      go_ret
      exact ⟨rfl, Below.refl _ _⟩
    · have c4 : (l0.length == l1.length) = false := beq_eq_false_iff_ne.2 c3
      rw [if_pos (by omega)]
      have HM := Aside0.mk hM
      have c5 : ((l0.length : Int) != (l1.length : Int)) = true := bne_iff_ne.2 (by omega)
      have c6 : ((l0.length : Int) == (l1.length : Int)) = false := beq_eq_false_iff_ne.2 (by omega)
      clear hM c c3
      go_enter Try.func70, Try.ntmps70
      go_wp2
      go_ret
      exact ⟨rfl, Below.refl _ _⟩


/-! ### fix_AddP: function 44 -/
def fix_AddP.f (a0 : Int) (a1 : Int) : Option (Int × Int) := if (Go.bits .and .i64 (Go.bits .xor .i64 a0 (wrap64 (a0 + a1))) (Go.bits .xor .i64 a1 (wrap64 (a0 + a1)))) < 0 then (some (0, 2)) else (some (wrap64 (a0 + a1), 0))
set_option maxHeartbeats 8000000 in
set_option maxRecDepth 100000 in
theorem fix_AddP.calls (a0 : Int) (a1 : Int) (r1 : Int) (r2 : Int) (w : World) (h : fix_AddP.f a0 a1 = some (r1, r2)) :
  Calls Try.prog 44 #[.int .i64 a0, .int .i64 a1] w fun e w' => e = .returned (.tuple #[.int .i64 r1, .int .i64 r2]) ∧ Drawn0 w w' := by
 have H : (if (Go.bits .and .i64 (Go.bits .xor .i64 a0 (wrap64 (a0 + a1))) (Go.bits .xor .i64 a1 (wrap64 (a0 + a1)))) < 0 then (some (0, 2)) else (some (wrap64 (a0 + a1), 0))) = some (r1, r2) := h
 clear h
 by_cases c3 : (Go.bits .and .i64 (Go.bits .xor .i64 a0 (wrap64 (a0 + a1))) (Go.bits .xor .i64 a1 (wrap64 (a0 + a1)))) < 0
 ·
  rw [if_pos c3] at H
  have c3b0 : decide ((Go.bits .and .i64 (Go.bits .xor .i64 a0 (wrap64 (a0 + a1))) (Go.bits .xor .i64 a1 (wrap64 (a0 + a1)))) < 0) = true := decide_eq_true c3
  clear c3
  simp only [Option.some.injEq, Prod.mk.injEq] at H
  obtain ⟨rfl, rfl⟩ := H
  go_enter Try.func44, Try.ntmps44
  go_wp2
  go_ret2
  exact ⟨by first | rfl | (simp; done) | (simp [*]; done), by repeat (first | exact ddR _ | apply ddS)⟩
 ·
  rw [if_neg c3] at H
  have c3b0 : decide ((Go.bits .and .i64 (Go.bits .xor .i64 a0 (wrap64 (a0 + a1))) (Go.bits .xor .i64 a1 (wrap64 (a0 + a1)))) < 0) = false := decide_eq_false c3
  clear c3
  simp only [Option.some.injEq, Prod.mk.injEq] at H
  obtain ⟨rfl, rfl⟩ := H
  go_enter Try.func44, Try.ntmps44
  go_wp2
  go_ret2
  exact ⟨by first | rfl | (simp; done) | (simp [*]; done), by repeat (first | exact ddR _ | apply ddS)⟩

def fix_Add.f (a0 a1 : Int) : Option (Int × Int) := if I64 a0 ∧ I64 a1 then some (res (a0 + a1)) else none
theorem fix_Add.of (a0 a1 : Int)  (h_ : I64 a0 ∧ I64 a1) : fix_Add.f a0 a1 = some (res (a0 + a1)) := if_pos h_
theorem fix_Add.calls (a0 : Int) (a1 : Int) (r1 : Int) (r2 : Int) (w : World) (h : fix_Add.f a0 a1 = some (r1, r2)) :
    Calls Try.prog 44 #[.int .i64 a0, .int .i64 a1] w fun e w' => e = .returned (.tuple #[.int .i64 r1, .int .i64 r2]) ∧ Drawn0 w w' := by
  unfold fix_Add.f at h
  split at h
  · rename_i hu
    refine fix_AddP.calls a0 a1 r1 r2 w (Eq.trans ?_ h)
    unfold fix_AddP.f
    have hw := wrap64_i64 (a0 + a1)
    have t := and_neg (xor_i64_i64 a0 (wrap64 (a0 + a1))) (xor_i64_i64 a1 (wrap64 (a0 + a1)))
    rw [xor_neg hu.1 hw, xor_neg hu.2 hw] at t
    obtain ⟨h0, h1⟩ := hu
    by_cases c : I64 (a0 + a1)
    · rw [res_of c, wrap64_of c] at *
      rw [if_neg (by rw [t]; omega)]
    · rw [res_not c]
      unfold I64 at h0 h1 c
      rw [if_pos (by rw [t, wrap64_def]; omega)]
  · cases h


/-! ### vec_total: function 71 -/
set_option maxHeartbeats 2000000 in
set_option maxRecDepth 100000 in
theorem vec_total.calls (K : Nat) (caps : Array Value) (g : Nat → Option (Int × Int)) (n : Nat) (hn : n ≤ 1000000) (w : World) (r1 r2 : Int)
    (hent : ∀ (args : Array Value) (w : World), (callFunc K args).run Try.prog w = .ok (.enter K args) w)
    (H : Tells Try.prog K caps g n w) (h : totalGo fix_Add.f g n 0 0 = some (r1, r2)) :
    Calls Try.prog 71 #[.int .i64 n, .func (.func K) #[] caps] w fun e w' => e = .returned (.tuple #[.int .i64 r1, .int .i64 r2]) ∧ Below w.heap.size w w' := by
  have HH := Aside0.mk H
  have HG := Aside0.mk h
  clear H h
  go_enter Try.func71, Try.ntmps71
  go_wp2_with fail
  go_loopw [4, 10] (fun s i W => ∃ (k : Nat) (t : Int), i = .int .i64 k ∧ s = .int .i64 t ∧ Aside0 (k ≤ n) ∧ Aside0 (totalGo fix_Add.f g (n - k) k t = some (r1, r2)) ∧ Aside0 (Below w.heap.size w W)) (fun _ i _ => n - (intOf i).toNat)
  case atStart => exact ⟨0, 0, rfl, rfl, ⟨Nat.zero_le _⟩, HG, ⟨Below.refl _ _⟩⟩
  case round =>
    obtain ⟨k, t, rfl, rfl, ⟨hk⟩, ⟨hgo⟩, HB⟩ := hrel
    clear HG
    by_cases hlt : k < n
    · obtain ⟨d, hd⟩ : ∃ d, n - k = d + 1 := ⟨n - k - 1, by omega⟩
      rw [hd, totalGo] at hgo
      obtain ⟨⟨x, e⟩, hgk, hgo⟩ := Option.bind_eq_some_iff.mp hgo
      have HC := Aside0.mk (HH.out k wr x e hlt HB.out hgk)
      have HHd := Aside0.mk hd
      clear hd hgk
      by_cases he : e = 0
      · subst he
        simp only [if_true] at hgo
        obtain ⟨⟨q, f⟩, hadd, hgo⟩ := Option.bind_eq_some_iff.mp hgo
        have HA := Aside0.mk hadd
        clear hadd
        by_cases hf : f = 0
        · subst hf
          simp only [if_true] at hgo
          have HG := Aside0.mk hgo
          clear hgo hk
          go_wp2_with (first | (go_at_fn K; refine HC.out.mono ?_; rintro ed W1 ⟨rfl, hb⟩; have HB1 := Aside0.mk (below_then HB.out HB.out.size hb); clear hb) | (go_at_call 44; (with_reducible refine (fix_Add.calls t x q 0 _ HA.out).mono ?_); rintro ed W2 ⟨rfl, ⟨nd, rfl⟩⟩))
          exact ⟨⟨k + 1, q, by go_num, rfl, ⟨by omega⟩, ⟨by rw [show n - (k + 1) = d by have := HHd.out; omega]; exact HG.out⟩, ⟨zzN HB1.out _⟩⟩, by simp [intOf]; omega⟩
        · rw [if_neg hf] at hgo
          cases hgo
          have he0 : (f == 0) = false := beq_eq_false_iff_ne.2 hf
          have he1 : (f != 0) = true := bne_iff_ne.2 hf
          clear hf hk
          go_wp2_with (first | (go_at_fn K; refine HC.out.mono ?_; rintro ed W1 ⟨rfl, hb⟩; have HB1 := Aside0.mk (below_then HB.out HB.out.size hb); clear hb) | (go_at_call 44; (with_reducible refine (fix_Add.calls t x q f _ HA.out).mono ?_); rintro ed W2 ⟨rfl, ⟨nd, rfl⟩⟩))
          go_ret2
          exact ⟨rfl, zzN HB1.out _⟩
      · rw [if_neg he] at hgo
        cases hgo
        have he0 : (e == 0) = false := beq_eq_false_iff_ne.2 he
        have he1 : (e != 0) = true := bne_iff_ne.2 he
        clear he hk
        go_wp2_with (go_at_fn K; refine HC.out.mono ?_; rintro ed W1 ⟨rfl, hb⟩; have HB1 := Aside0.mk (below_then HB.out HB.out.size hb); clear hb)
        go_ret2
        exact ⟨rfl, HB1.out⟩
    · have hkn : n - k = 0 := by omega
      rw [hkn, totalGo] at hgo
      cases hgo
      clear hkn hk
      go_wp2
      go_ret2
      exact ⟨rfl, HB.out⟩


-- NOT PRINTED: function 72 (vec_Dot_1)

/-! ### vec_Dot: function 43 -/
set_option maxHeartbeats 2000000 in
set_option maxRecDepth 100000 in
theorem vec_Dot_1.calls (b1 b2 b3 : Nat) (A0 : Option Addr) (c0 : Nat) (l0 : List Int) (A1 : Option Addr) (c1 : Nat) (l1 : List Int) (a2 : Int) (i : Nat) (W : World) (x e : Int)
    (hb1 : W.cell? ⟨b1, 0, none⟩ = some (.slice A0 l0.length c0)) (hb2 : W.cell? ⟨b2, 0, none⟩ = some (.slice A1 l1.length c1)) (hb3 : W.cell? ⟨b3, 0, none⟩ = some (.int .i64 a2))
    (hr0 : Kd.C (Kd.int .i64) W A0 l0.length l0) (hr1 : Kd.C (Kd.int .i64) W A1 l1.length l1) (h0 : i < l0.length) (h1 : i < l1.length)
    (h : fix_Mul.f (rd l0 i) (rd l1 i) a2 = some (x, e)) :
    Calls Try.prog 72 #[.int .i64 i, .pointer (some ⟨b1, 0, none⟩), .pointer (some ⟨b2, 0, none⟩), .pointer (some ⟨b3, 0, none⟩)] W fun ed W' => ed = .returned (.tuple #[.int .i64 x, .int .i64 e]) ∧ Below W.heap.size W W' := by
  obtain ⟨ad0, rfl, hc0⟩ := Kd.at_int hr0 (i : Int) (by omega) (by omega)
  obtain ⟨ad1, rfl, hc1⟩ := Kd.at_int hr1 (i : Int) (by omega) (by omega)
  simp only [Int.toNat_natCast] at hc0 hc1
  have HC := Aside0.mk h
  clear hr0 hr1 h
  go_enter Try.func72, Try.ntmps72
  go_wp2
  go_region_held3 (fun w' => w'.cell? ⟨b1, 0, none⟩ = some (.slice (some ad0) l0.length c0) ∧ w'.cell? ⟨b2, 0, none⟩ = some (.slice (some ad1) l1.length c1) ∧ w'.cell? ⟨b3, 0, none⟩ = some (.int .i64 a2) ∧ w'.cell? (ad0.add i) = some (.int .i64 (rd l0 i)) ∧ w'.cell? (ad1.add i) = some (.int .i64 (rd l1 i)))
    (first | go_keep | (go_split_ands; exact ⟨pw_cell_below hb (by assumption), pw_cell_below hb (by assumption), pw_cell_below hb (by assumption), pw_cell_below hb (by assumption), pw_cell_below hb (by assumption)⟩))
    ((go_at_call 53; (with_reducible refine (fix_Mul.calls (rd l0 i) (rd l1 i) a2 x e _ HC.out).mono ?_); rintro ed W2 ⟨rfl, hb⟩))
  go_wp2
  go_ret2
  exact ⟨rfl, below_then (below_drew (Below.refl _ _)) (Nat.le_refl _) hb⟩
def vec_Dot.f (l0 l1 : List Int) (a2 : Int) : Option (Int × Int) := if V64 l0 ∧ V64 l1 then some (dotV l0 l1 a2) else none
theorem vec_Dot.of (l0 l1 : List Int) (a2 : Int)  (h_ : V64 l0 ∧ V64 l1) : vec_Dot.f l0 l1 a2 = some (dotV l0 l1 a2) := if_pos h_
set_option maxHeartbeats 2000000 in
set_option maxRecDepth 100000 in
theorem vec_Dot.calls (A0 : Option Addr) (c0 : Nat) (l0 : List Int) (A1 : Option Addr) (c1 : Nat) (l1 : List Int) (a2 : Int) (r1 : Int) (r2 : Int) (w : World) (hr0 : Kd.C (Kd.int .i64) w A0 l0.length l0) (hc0 : l0.length ≤ c0) (hr1 : Kd.C (Kd.int .i64) w A1 l1.length l1) (hc1 : l1.length ≤ c1) (h : vec_Dot.f l0 l1 a2 = some (r1, r2)) :
    Calls Try.prog 43 #[.slice A0 l0.length c0, .slice A1 l1.length c1, .int .i64 a2] w fun e w' => e = .returned (.tuple #[.int .i64 r1, .int .i64 r2]) ∧ Below w.heap.size w w' := by
  unfold vec_Dot.f at h
  split at h
  case isFalse => cases h
  rename_i hv
  have h := Option.some.inj h
  unfold dotV at h
  have HR0 := Aside0.mk hr0
  have HC0 := Aside0.mk hc0
  have HR1 := Aside0.mk hr1
  have HC1 := Aside0.mk hc1
  clear hr0 hc0 hr1 hc1
  have HV := Aside0.mk hv
  clear hv
  try have hu26 := Try.underlying26
  try have hu3 := Try.underlying3
  have HP0 : Aside0 (vec_pair.f l0 l1 = some (pairE l0 l1)) := ⟨rfl⟩
  by_cases hp0 : pairE l0 l1 = 0
  · rw [if_pos hp0] at h
    rw [hp0] at HP0
    have HP1 : Aside0 (vec_behind.f a2 = some (fracE a2)) := ⟨vec_behind.of a2⟩
    by_cases hp1 : fracE a2 = 0
    · rw [if_pos hp1] at h
      rw [hp1] at HP1
      have HL : Aside0 (l0.length = l1.length) := ⟨pairE_len hp0⟩
      have HN : Aside0 (l0.length ≤ 4096) := ⟨pairE_le hp0⟩
      have HH := Aside0.mk h
      clear h hp0 hp1
      have HX0 : Aside0 ((((w.alloc (Obj.cells #[Value.slice A0 l0.length c0] 26)).alloc (Obj.cells #[Value.slice A1 l1.length c1] 26)).alloc (Obj.cells #[Value.int .i64 a2] 3)).cell? ⟨w.heap.size, 0, none⟩ = some (.slice A0 l0.length c0)) := ⟨by simp [go_sem]⟩
      have HX1 : Aside0 ((((w.alloc (Obj.cells #[Value.slice A0 l0.length c0] 26)).alloc (Obj.cells #[Value.slice A1 l1.length c1] 26)).alloc (Obj.cells #[Value.int .i64 a2] 3)).cell? ⟨w.heap.size + 1, 0, none⟩ = some (.slice A1 l1.length c1)) := ⟨by simp [go_sem]⟩
      have HX2 : Aside0 ((((w.alloc (Obj.cells #[Value.slice A0 l0.length c0] 26)).alloc (Obj.cells #[Value.slice A1 l1.length c1] 26)).alloc (Obj.cells #[Value.int .i64 a2] 3)).cell? ⟨w.heap.size + 2, 0, none⟩ = some (.int .i64 a2)) := ⟨by simp [go_sem]⟩
      have HB : Aside0 (Below w.heap.size w (((w.alloc (Obj.cells #[Value.slice A0 l0.length c0] 26)).alloc (Obj.cells #[Value.slice A1 l1.length c1] 26)).alloc (Obj.cells #[Value.int .i64 a2] 3))) := ⟨zzA (zzA (zzA (Below.refl _ _) _) _) _⟩
      go_enter Try.func43, Try.ntmps43
      go_wp2_with (first | (go_at_call 70; (with_reducible refine (vec_pair.calls A0 c0 l0 A1 c1 l1 0 _ (Kd.C_below HR0.out HB.out) HC0.out (Kd.C_below HR1.out HB.out) HC1.out HP0.out).mono ?_); rintro ed W1 ⟨rfl, hd⟩; have hb := hd; clear hd; have HB := Aside0.mk (below_then HB.out HB.out.size hb); have HX0 := Aside0.mk (pw_cell_below hb HX0.out); have HX1 := Aside0.mk (pw_cell_below hb HX1.out); have HX2 := Aside0.mk (pw_cell_below hb HX2.out); have hx0 := HX0.out; have hx1 := HX1.out; have hx2 := HX2.out; clear hb) | (go_at_call 51; (with_reducible refine (vec_behind.calls a2 0 _ HP1.out).mono ?_); rintro ed W1 ⟨rfl, hd⟩; have hb := hd; clear hd; have HB := Aside0.mk (below_then HB.out HB.out.size hb); have HX0 := Aside0.mk (pw_cell_below hb HX0.out); have HX1 := Aside0.mk (pw_cell_below hb HX1.out); have HX2 := Aside0.mk (pw_cell_below hb HX2.out); have hx0 := HX0.out; have hx1 := HX1.out; have hx2 := HX2.out; clear hb) | (go_at_call 71; (with_reducible refine (vec_total.calls 72 _ (fun i : Nat => fix_Mul.f (rd l0 i) (rd l1 i) a2) l0.length (by have := HN.out; omega) _ r1 r2 ?ent ?tells ?go).mono ?_); (case ent => exact enters_of Try.func72 rfl rfl); (case tells => intro i W x e hi hb hg; refine (vec_Dot_1.calls (w.heap.size) (w.heap.size + 1) (w.heap.size + 2) A0 c0 l0 A1 c1 l1 a2 i W x e (pw_cell_below hb HX0.out) (pw_cell_below hb HX1.out) (pw_cell_below hb HX2.out) (Kd.C_below (Kd.C_below HR0.out HB.out) hb) (Kd.C_below (Kd.C_below HR1.out HB.out) hb) (by have := HL.out; omega) (by have := HL.out; omega) hg).mono ?_; rintro ed W' ⟨rfl, hd⟩; exact ⟨rfl, hd⟩); (case go => exact (total_spec (fun a b ha hb => fix_Add.of a b ⟨ha, hb⟩) (zip_i64 (fun x y => mulF_i64 x y a2) l0 l1) (ps := List.zipWith (fun x y => mulF x y a2) l0 l1) (by have := HL.out; rw [List.length_zipWith]; omega) (fun j h => by rw [zip_get _ _ HL.out j h]; exact fix_Mul.of _ _ _ ⟨HV.out.1.rd _, HV.out.2.rd _⟩)).trans (congrArg some HH.out)); rintro ed W2 ⟨rfl, hb⟩; have HB2 := Aside0.mk (below_then HB.out HB.out.size hb); clear hb))
      go_ret2
      exact ⟨rfl, HB2.out⟩
    · rw [if_neg hp1] at h
      cases h
      have HX0 : Aside0 ((((w.alloc (Obj.cells #[Value.slice A0 l0.length c0] 26)).alloc (Obj.cells #[Value.slice A1 l1.length c1] 26)).alloc (Obj.cells #[Value.int .i64 a2] 3)).cell? ⟨w.heap.size, 0, none⟩ = some (.slice A0 l0.length c0)) := ⟨by simp [go_sem]⟩
      have HX1 : Aside0 ((((w.alloc (Obj.cells #[Value.slice A0 l0.length c0] 26)).alloc (Obj.cells #[Value.slice A1 l1.length c1] 26)).alloc (Obj.cells #[Value.int .i64 a2] 3)).cell? ⟨w.heap.size + 1, 0, none⟩ = some (.slice A1 l1.length c1)) := ⟨by simp [go_sem]⟩
      have HX2 : Aside0 ((((w.alloc (Obj.cells #[Value.slice A0 l0.length c0] 26)).alloc (Obj.cells #[Value.slice A1 l1.length c1] 26)).alloc (Obj.cells #[Value.int .i64 a2] 3)).cell? ⟨w.heap.size + 2, 0, none⟩ = some (.int .i64 a2)) := ⟨by simp [go_sem]⟩
      have HB : Aside0 (Below w.heap.size w (((w.alloc (Obj.cells #[Value.slice A0 l0.length c0] 26)).alloc (Obj.cells #[Value.slice A1 l1.length c1] 26)).alloc (Obj.cells #[Value.int .i64 a2] 3))) := ⟨zzA (zzA (zzA (Below.refl _ _) _) _) _⟩
      have he0 : (fracE a2 == 0) = false := beq_eq_false_iff_ne.2 hp1
      have he1 : (fracE a2 != 0) = true := bne_iff_ne.2 hp1
      obtain ⟨e_, hE⟩ : ∃ e_ : Int, fracE a2 = e_ := ⟨_, rfl⟩
      rw [hE] at HP1 he0 he1
      simp only [hE]
      clear hE hp1
      go_enter Try.func43, Try.ntmps43
      go_wp2_with (first | (go_at_call 70; (with_reducible refine (vec_pair.calls A0 c0 l0 A1 c1 l1 0 _ (Kd.C_below HR0.out HB.out) HC0.out (Kd.C_below HR1.out HB.out) HC1.out HP0.out).mono ?_); rintro ed W1 ⟨rfl, hd⟩; have hb := hd; clear hd; have HB := Aside0.mk (below_then HB.out HB.out.size hb); have HX0 := Aside0.mk (pw_cell_below hb HX0.out); have HX1 := Aside0.mk (pw_cell_below hb HX1.out); have HX2 := Aside0.mk (pw_cell_below hb HX2.out); have hx0 := HX0.out; have hx1 := HX1.out; have hx2 := HX2.out; clear hb) | (go_at_call 51; (with_reducible refine (vec_behind.calls a2 e_ _ HP1.out).mono ?_); rintro ed W1 ⟨rfl, hd⟩; have hb := hd; clear hd; have HB := Aside0.mk (below_then HB.out HB.out.size hb); have HX0 := Aside0.mk (pw_cell_below hb HX0.out); have HX1 := Aside0.mk (pw_cell_below hb HX1.out); have HX2 := Aside0.mk (pw_cell_below hb HX2.out); have hx0 := HX0.out; have hx1 := HX1.out; have hx2 := HX2.out; clear hb))
      go_ret2
      exact ⟨rfl, HB.out⟩
  · rw [if_neg hp0] at h
    cases h
    have HX0 : Aside0 ((((w.alloc (Obj.cells #[Value.slice A0 l0.length c0] 26)).alloc (Obj.cells #[Value.slice A1 l1.length c1] 26)).alloc (Obj.cells #[Value.int .i64 a2] 3)).cell? ⟨w.heap.size, 0, none⟩ = some (.slice A0 l0.length c0)) := ⟨by simp [go_sem]⟩
    have HX1 : Aside0 ((((w.alloc (Obj.cells #[Value.slice A0 l0.length c0] 26)).alloc (Obj.cells #[Value.slice A1 l1.length c1] 26)).alloc (Obj.cells #[Value.int .i64 a2] 3)).cell? ⟨w.heap.size + 1, 0, none⟩ = some (.slice A1 l1.length c1)) := ⟨by simp [go_sem]⟩
    have HX2 : Aside0 ((((w.alloc (Obj.cells #[Value.slice A0 l0.length c0] 26)).alloc (Obj.cells #[Value.slice A1 l1.length c1] 26)).alloc (Obj.cells #[Value.int .i64 a2] 3)).cell? ⟨w.heap.size + 2, 0, none⟩ = some (.int .i64 a2)) := ⟨by simp [go_sem]⟩
    have HB : Aside0 (Below w.heap.size w (((w.alloc (Obj.cells #[Value.slice A0 l0.length c0] 26)).alloc (Obj.cells #[Value.slice A1 l1.length c1] 26)).alloc (Obj.cells #[Value.int .i64 a2] 3))) := ⟨zzA (zzA (zzA (Below.refl _ _) _) _) _⟩
    have he0 : (pairE l0 l1 == 0) = false := beq_eq_false_iff_ne.2 hp0
    have he1 : (pairE l0 l1 != 0) = true := bne_iff_ne.2 hp0
    obtain ⟨e_, hE⟩ : ∃ e_ : Int, pairE l0 l1 = e_ := ⟨_, rfl⟩
    rw [hE] at HP0 he0 he1
    simp only [hE]
    clear hE hp0
    go_enter Try.func43, Try.ntmps43
    go_wp2_with (first | (go_at_call 70; (with_reducible refine (vec_pair.calls A0 c0 l0 A1 c1 l1 e_ _ (Kd.C_below HR0.out HB.out) HC0.out (Kd.C_below HR1.out HB.out) HC1.out HP0.out).mono ?_); rintro ed W1 ⟨rfl, hd⟩; have hb := hd; clear hd; have HB := Aside0.mk (below_then HB.out HB.out.size hb); have HX0 := Aside0.mk (pw_cell_below hb HX0.out); have HX1 := Aside0.mk (pw_cell_below hb HX1.out); have HX2 := Aside0.mk (pw_cell_below hb HX2.out); have hx0 := HX0.out; have hx1 := HX1.out; have hx2 := HX2.out; clear hb))
    go_ret2
    exact ⟨rfl, HB.out⟩


/-! ### linear_TellP: function 22 -/
def linear_TellP.f (l0 : List Int) (l1 : List Int) (a2 : Int) : Option (Int × Int) := (linear_Check.f (l1.length : Int) l0 (([(⟨l1, 0⟩ : S37)] : List (S37)))).bind fun t157 => (if t157 = 0 then (if 0 ≤ (l1.length : Int) then (if (l1.length : Int) ≤ (l0.length : Int) then ((vec_Dot.f (l0.take ((l1.length : Int) : Int).toNat) l1 a2).bind fun bt159 => (if bt159.2 = 0 then (if (l1.length : Int) < (l0.length : Int) then ((fix_Add.f bt159.1 (rd l0 (l1.length : Int))).bind fun bt162 => (some (bt162.1, bt162.2))) else (none)) else (some (0, bt159.2)))) else (none)) else (none)) else (some (0, t157)))
set_option maxHeartbeats 8000000 in
set_option maxRecDepth 100000 in
theorem linear_TellP.calls (A0 : Option Addr) (c0 : Nat) (l0 : List Int) (P1_ : Nat → Prop) (A1 : Option Addr) (c1 : Nat) (l1 : List Int) (a2 : Int) (r1 : Int) (r2 : Int) (w : World) (hr0 : Kd.C (Kd.int .i64) w A0 l0.length l0) (hc0 : l0.length ≤ c0) (hs1 : Kd.V (Kd.int .i64) 2 w w.heap.size (fun k_ => P1_ k_) (.slice A1 l1.length c1) l1) (h : linear_TellP.f l0 l1 a2 = some (r1, r2)) :
  Calls Try.prog 22 #[.slice A0 l0.length c0, .slice A1 l1.length c1, .int .i64 a2] w fun e w' => e = .returned (.tuple #[.int .i64 r1, .int .i64 r2]) ∧ Below w.heap.size w w' := by
 have hu37 := Try.underlying37
 have HR0 := Aside0.mk hr0
 have HC0 := Aside0.mk hc0
 clear hr0 hc0
 have HO1 := Aside0.mk (show Kd.V (Kd.int .i64) 2 w w.heap.size (fun k_ => (P1_ k_ ∨ w.heap.size ≤ k_)) (.slice A1 l1.length c1) l1 from Kd.V_mono hs1 (fun k_ hk => .inl hk))
 have HB := Aside0.mk (Below.refl w.heap.size w)
 have H : ((linear_Check.f (l1.length : Int) l0 (([(⟨l1, 0⟩ : S37)] : List (S37)))).bind fun t157 => (if t157 = 0 then (if 0 ≤ (l1.length : Int) then (if (l1.length : Int) ≤ (l0.length : Int) then ((vec_Dot.f (l0.take ((l1.length : Int) : Int).toNat) l1 a2).bind fun bt159 => (if bt159.2 = 0 then (if (l1.length : Int) < (l0.length : Int) then ((fix_Add.f bt159.1 (rd l0 (l1.length : Int))).bind fun bt162 => (some (bt162.1, bt162.2))) else (none)) else (some (0, bt159.2)))) else (none)) else (none)) else (some (0, t157)))) = some (r1, r2) := h
 clear h
 obtain ⟨y154, hy154⟩ : ∃ y_ : List (S37), y_ = (([(⟨l1, 0⟩ : S37)] : List (S37))) := ⟨_, rfl⟩
 replace H : ((linear_Check.f (l1.length : Int) l0 y154).bind fun t157 => (if t157 = 0 then (if 0 ≤ (l1.length : Int) then (if (l1.length : Int) ≤ (l0.length : Int) then ((vec_Dot.f (l0.take ((l1.length : Int) : Int).toNat) l1 a2).bind fun bt159 => (if bt159.2 = 0 then (if (l1.length : Int) < (l0.length : Int) then ((fix_Add.f bt159.1 (rd l0 (l1.length : Int))).bind fun bt162 => (some (bt162.1, bt162.2))) else (none)) else (some (0, bt159.2)))) else (none)) else (none)) else (some (0, t157)))) = some (r1, r2) := by first | (rw [hy154]; with_reducible exact H) | (have H2_ := (Option.bind_some _ _).symm.trans H; rw [hy154]; with_reducible exact H2_) | (have H2_ := (Option.bind_some _ _).symm.trans H; with_reducible exact H2_) | with_reducible exact H | (rw [hy154]; exact H) | exact H
 have Ny154 := Aside0.mk hy154
 clear hy154
 replace H := Option.bind_eq_some_iff.mp H
 obtain ⟨t157, A40, H⟩ := H
 replace H : (if t157 = 0 then (if 0 ≤ (l1.length : Int) then (if (l1.length : Int) ≤ (l0.length : Int) then ((vec_Dot.f (l0.take ((l1.length : Int) : Int).toNat) l1 a2).bind fun bt159 => (if bt159.2 = 0 then (if (l1.length : Int) < (l0.length : Int) then ((fix_Add.f bt159.1 (rd l0 (l1.length : Int))).bind fun bt162 => (some (bt162.1, bt162.2))) else (none)) else (some (0, bt159.2)))) else (none)) else (none)) else (some (0, t157))) = some (r1, r2) := H
 have A4 := Aside0.mk A40
 clear A40
 by_cases c5 : t157 = 0
 ·
  rw [if_pos c5] at H
  have c5b0 : (t157 == 0) = true := beq_iff_eq.mpr c5
  have c5b1 : (t157 != 0) = false := bne_eq_false_iff_eq.mpr c5
  clear c5
  by_cases c6 : 0 ≤ (l1.length : Int)
  ·
   rw [if_pos c6] at H
   have c6b0 := eq_true c6
   have c6b1 : decide (0 ≤ (l1.length : Int)) = true := decide_eq_true c6
   clear c6
   by_cases c7 : (l1.length : Int) ≤ (l0.length : Int)
   ·
    rw [if_pos c7] at H
    have c7b0 := eq_true c7
    have c7b1 : decide ((l1.length : Int) ≤ (l0.length : Int)) = true := decide_eq_true c7
    clear c7
    replace H := Option.bind_eq_some_iff.mp H
    obtain ⟨⟨t159, t160⟩, A80, H⟩ := H
    replace H : (if t160 = 0 then (if (l1.length : Int) < (l0.length : Int) then ((fix_Add.f t159 (rd l0 (l1.length : Int))).bind fun bt162 => (some (bt162.1, bt162.2))) else (none)) else (some (0, t160))) = some (r1, r2) := H
    have A8 := Aside0.mk A80
    clear A80
    by_cases c9 : t160 = 0
    ·
     rw [if_pos c9] at H
     have c9b0 : (t160 == 0) = true := beq_iff_eq.mpr c9
     have c9b1 : (t160 != 0) = false := bne_eq_false_iff_eq.mpr c9
     clear c9
     by_cases c10 : (l1.length : Int) < (l0.length : Int)
     ·
      rw [if_pos c10] at H
      have c10b0 : decide ((l1.length : Int) < (l0.length : Int)) = true := decide_eq_true c10
      have c10b1 : decide (l1.length < l0.length) = true := decide_eq_true (Int.ofNat_lt.mp c10)
      clear c10
      replace H := Option.bind_eq_some_iff.mp H
      obtain ⟨⟨t162, t163⟩, A110, H⟩ := H
      replace H : (some (t162, t163)) = some (r1, r2) := H
      have A11 := Aside0.mk A110
      clear A110
      simp only [Option.some.injEq, Prod.mk.injEq] at H
      obtain ⟨rfl, rfl⟩ := H
      go_enter Try.func22, Try.ntmps22
      go_wp2_with (first | ((with_reducible refine gate_dst (N := 18) rfl ?_); refine Kd.N_lit k37 _ 37 ?hg (N' := 18) ?hd (xs := ([(⟨l1, 0⟩ : S37)] : List (S37))) (inner := [.slice A1 l1.length c1, .int .i64 0]) (ok := (fun k_ => (P1_ k_ ∨ w.heap.size ≤ k_))) (okp := (fun k_ => (P1_ k_ ∨ w.heap.size ≤ k_))) ?hr ?hp (fun _ hk => hk) ((show ∀ k_, w.heap.size ≤ k_ → (fun k_ => (P1_ k_ ∨ w.heap.size ≤ k_)) k_ from fun k_ hk => (.inr (Nat.le_trans (zzS (by repeat (first | (with_reducible first | exact HB.out | apply zzA | apply zzN | apply zzD) | exact HB.out))) hk))) _ (Nat.le_refl _)) (Below.refl _ _) (Nat.le_refl _) (by simp) ?_; (case hd => rfl); (case hg => rfl); (case hr => first | (go_simp; done) | (go_simp; rfl)); (case hp => exact (Reps.c2 (show Kd.FK k37 _ _ (⟨l1, 0⟩ : S37) [.slice A1 l1.length c1, .int .i64 0] from (k37_mkF _ _ (⟨l1, 0⟩ : S37) (Kd.V_reads' (Kd.V_mono (ok' := (fun k_ => (P1_ k_ ∨ w.heap.size ≤ k_))) (HO1.out) (fun k_ hk => hk))).2.1 (Kd.V_F (base := w.heap.size) (e := 2) (Kd.V_mono (ok' := (fun k_ => (P1_ k_ ∨ w.heap.size ≤ k_))) (HO1.out) (fun k_ hk => hk))))) (Reps.none _ _))); intro v155 w12 ho13 hb hg_ hnew_; clear hg_ hnew_; (first | rw [← Ny154.out] at ho13 | (simp only [Int.reduceToNat] at ho13; rw [← Ny154.out] at ho13)); have n0_ := Aside0.mk (Kd.V_elder' (by (with_reducible repeat (first | apply Kd.V_alloc | apply Kd.V_drewN | apply Kd.V_drew)); exact HO1.out) (Kd.N_base ho13) hb); have n1_ := Aside0.mk (Kd.N_lower ho13 (zzS (by repeat (first | (with_reducible first | exact HB.out | apply zzA | apply zzN | apply zzD) | exact HB.out)))); have n2_ := Aside0.mk (zzT (by repeat (first | (with_reducible first | exact HB.out | apply zzA | apply zzN | apply zzD) | exact HB.out)) hb); clear HO1; clear HB; have HO1 := n0_; have HO156 := n1_; have HB := n2_; clear n0_ n1_ n2_; clear hb ho13; obtain ⟨Ao14, co14, eo14⟩ := Kd.N_slice HO156.out; subst eo14) | ((with_reducible refine gate_callee (f := 42) rfl ?_); refine goesL_ (some 19) rfl rfl Try.func42 (by kernel_rfl) rfl #[.int .i64 (l1.length : Int), .slice A0 l0.length c0, .slice Ao14 y154.length co14] rfl (by (try simp only [List.map_toArray, List.map_cons, List.map_nil]); first | done | rfl | (simp only [List.length_drop, List.length_take]; rfl)) ?_; (with_reducible refine (linear_Check.calls (l1.length : Int) _ _ l0 _ _ y154 t157 _ ?side1 ?side2 ?side3 ?side4 A4.out).mono ?_); (case side1 => repeat (first | exact (Kd.C_below HR0.out HB.out) | (with_reducible refine ccA ?_ _) | (with_reducible refine ccN ?_ _) | (with_reducible refine ccD ?_))); (case side2 => exact HC0.out); (case side3 => repeat (first | exact (Kd.N_reads' HO156.out).2.2 | (with_reducible refine ccA ?_ _) | (with_reducible refine ccN ?_ _) | (with_reducible refine ccD ?_))); (case side4 => exact (Kd.N_reads' HO156.out).2.1); rintro e w15 ⟨rfl, hb⟩; refine ⟨_, rfl, ?_⟩; have n0_ := Aside0.mk (Kd.V_below (by (with_reducible repeat (first | apply Kd.V_alloc | apply Kd.V_drewN | apply Kd.V_drew)); exact HO1.out) hb); have n1_ := Aside0.mk (Kd.N_below (by (with_reducible repeat (first | apply Kd.N_alloc | apply Kd.N_drewN | apply Kd.N_drew)); exact HO156.out) hb); have n2_ := Aside0.mk (zzT (by repeat (first | (with_reducible first | exact HB.out | apply zzA | apply zzN | apply zzD) | exact HB.out)) hb); clear HO1; clear HO156; clear HB; have HO1 := n0_; have HO156 := n1_; have HB := n2_; clear n0_ n1_ n2_; (try clear hb); (try clear hb2); (try clear hk); (try clear hi); obtain ⟨i016, hi016, _, hsz16, _⟩ := info_parts info2; obtain ⟨hcut16, hA16, hC16⟩ := print_take_of (P := Try.prog) (Value.int .i64) 0 26 2 .i64 Try.underlying26 hi016 hsz16 A0 c0 l0 (l1.length : Int) (of_decide_eq_true (by first | (with_reducible assumption) | assumption)) (of_decide_eq_true (by first | (with_reducible assumption) | assumption)) HC0.out; have HR158 := Aside0.mk (Kd.C_of_reads (h1 := fun _ => rfl) (hA16 _ (Kd.reads_of_C HR0.out))); have HC158 := Aside0.mk hC16; clear hA16 hC16 hi016 hsz16) | ((with_reducible refine gate_callee (f := 43) rfl ?_); refine goesL_ (some 29) rfl rfl Try.func43 (by kernel_rfl) rfl #[.slice A0 (l0.take ((l1.length : Int) : Int).toNat).length c0, .slice A1 l1.length c1, .int .i64 a2] rfl (by (try simp only [List.map_toArray, List.map_cons, List.map_nil]); first | done | (rw [show (l0.take ((l1.length : Int) : Int).toNat).length = (l1.length : Int).toNat from (by rw [List.length_take]; have h_ : ((l1.length : Int) : Int) ≤ (l0.length : Int) := of_decide_eq_true (by first | (with_reducible assumption) | assumption); omega)] <;> rfl) | rfl | (simp only [List.length_drop, List.length_take]; rfl)) ?_; (with_reducible refine (vec_Dot.calls _ _ (l0.take ((l1.length : Int) : Int).toNat) _ _ l1 a2 t159 t160 _ ?side1 ?side2 ?side3 ?side4 A8.out).mono ?_); (case side1 => repeat (first | exact (Kd.C_below HR158.out HB.out) | (with_reducible refine ccA ?_ _) | (with_reducible refine ccN ?_ _) | (with_reducible refine ccD ?_))); (case side2 => exact HC158.out); (case side3 => repeat (first | exact (Kd.V_reads' HO1.out).2.2 | (with_reducible refine ccA ?_ _) | (with_reducible refine ccN ?_ _) | (with_reducible refine ccD ?_))); (case side4 => exact (Kd.V_reads' HO1.out).2.1); rintro e w17 ⟨rfl, hb⟩; refine ⟨_, rfl, ?_⟩; have n0_ := Aside0.mk (Kd.V_below (by (with_reducible repeat (first | apply Kd.V_alloc | apply Kd.V_drewN | apply Kd.V_drew)); exact HO1.out) hb); have n1_ := Aside0.mk (Kd.N_below (by (with_reducible repeat (first | apply Kd.N_alloc | apply Kd.N_drewN | apply Kd.N_drew)); exact HO156.out) hb); have n2_ := Aside0.mk (zzT (by repeat (first | (with_reducible first | exact HB.out | apply zzA | apply zzN | apply zzD) | exact HB.out)) hb); clear HO1; clear HO156; clear HB; have HO1 := n0_; have HO156 := n1_; have HB := n2_; clear n0_ n1_ n2_; (try clear hb); (try clear hb2); (try clear hk); (try clear hi); have p161 : 0 ≤ ((l1.length : Int) : Int) := of_decide_eq_true (by first | (with_reducible assumption) | assumption); have q161 : (l1.length : Int) < (l0.length : Int) := of_decide_eq_true (by first | (with_reducible assumption) | assumption); obtain ⟨ad161, e161, hx161_0⟩ := Kd.at_int HR0.out (l1.length : Int) p161 q161; cases e161; replace hx161_0 := (HB.out.cell (World.block_lt_of_cell? w _ hx161_0)).trans hx161_0; (try simp only [Go.IntWalk.toNatUp] at hx161_0); replace p161 := eq_true p161; replace q161 := eq_true q161) | ((with_reducible refine gate_callee (f := 44) rfl ?_); refine goesL_ (some 40) rfl rfl Try.func44 (by kernel_rfl) rfl #[.int .i64 t159, .int .i64 (rd l0 (l1.length : Int))] rfl (by (try simp only [List.map_toArray, List.map_cons, List.map_nil]); first | done | rfl | (simp only [List.length_drop, List.length_take]; rfl)) ?_; (with_reducible refine (fix_Add.calls t159 (rd l0 (l1.length : Int)) t162 t163 _ A11.out).mono ?_); rintro e w' ⟨rfl, ⟨nd, rfl⟩⟩; refine ⟨_, rfl, ?_⟩))
      go_ret2
      exact ⟨by first | rfl | (simp [errW_none, errW_some] <;> rfl) | (simp [*, errW_none, errW_some] <;> rfl), by repeat (first | (with_reducible first | exact HB.out | apply zzA | apply zzN | apply zzD) | exact HB.out)⟩
     ·
      rw [if_neg c10] at H
      exact absurd H (by simp)
    ·
     rw [if_neg c9] at H
     have c9b0 : (t160 == 0) = false := beq_eq_false_iff_ne.mpr c9
     have c9b1 : (t160 != 0) = true := bne_iff_ne.mpr c9
     simp only [Option.some.injEq, Prod.mk.injEq] at H
     obtain ⟨rfl, rfl⟩ := H
     go_enter Try.func22, Try.ntmps22
     go_wp2_with (first | ((with_reducible refine gate_dst (N := 18) rfl ?_); refine Kd.N_lit k37 _ 37 ?hg (N' := 18) ?hd (xs := ([(⟨l1, 0⟩ : S37)] : List (S37))) (inner := [.slice A1 l1.length c1, .int .i64 0]) (ok := (fun k_ => (P1_ k_ ∨ w.heap.size ≤ k_))) (okp := (fun k_ => (P1_ k_ ∨ w.heap.size ≤ k_))) ?hr ?hp (fun _ hk => hk) ((show ∀ k_, w.heap.size ≤ k_ → (fun k_ => (P1_ k_ ∨ w.heap.size ≤ k_)) k_ from fun k_ hk => (.inr (Nat.le_trans (zzS (by repeat (first | (with_reducible first | exact HB.out | apply zzA | apply zzN | apply zzD) | exact HB.out))) hk))) _ (Nat.le_refl _)) (Below.refl _ _) (Nat.le_refl _) (by simp) ?_; (case hd => rfl); (case hg => rfl); (case hr => first | (go_simp; done) | (go_simp; rfl)); (case hp => exact (Reps.c2 (show Kd.FK k37 _ _ (⟨l1, 0⟩ : S37) [.slice A1 l1.length c1, .int .i64 0] from (k37_mkF _ _ (⟨l1, 0⟩ : S37) (Kd.V_reads' (Kd.V_mono (ok' := (fun k_ => (P1_ k_ ∨ w.heap.size ≤ k_))) (HO1.out) (fun k_ hk => hk))).2.1 (Kd.V_F (base := w.heap.size) (e := 2) (Kd.V_mono (ok' := (fun k_ => (P1_ k_ ∨ w.heap.size ≤ k_))) (HO1.out) (fun k_ hk => hk))))) (Reps.none _ _))); intro v155 w18 ho19 hb hg_ hnew_; clear hg_ hnew_; (first | rw [← Ny154.out] at ho19 | (simp only [Int.reduceToNat] at ho19; rw [← Ny154.out] at ho19)); have n0_ := Aside0.mk (Kd.V_elder' (by (with_reducible repeat (first | apply Kd.V_alloc | apply Kd.V_drewN | apply Kd.V_drew)); exact HO1.out) (Kd.N_base ho19) hb); have n1_ := Aside0.mk (Kd.N_lower ho19 (zzS (by repeat (first | (with_reducible first | exact HB.out | apply zzA | apply zzN | apply zzD) | exact HB.out)))); have n2_ := Aside0.mk (zzT (by repeat (first | (with_reducible first | exact HB.out | apply zzA | apply zzN | apply zzD) | exact HB.out)) hb); clear HO1; clear HB; have HO1 := n0_; have HO156 := n1_; have HB := n2_; clear n0_ n1_ n2_; clear hb ho19; obtain ⟨Ao20, co20, eo20⟩ := Kd.N_slice HO156.out; subst eo20) | ((with_reducible refine gate_callee (f := 42) rfl ?_); refine goesL_ (some 19) rfl rfl Try.func42 (by kernel_rfl) rfl #[.int .i64 (l1.length : Int), .slice A0 l0.length c0, .slice Ao20 y154.length co20] rfl (by (try simp only [List.map_toArray, List.map_cons, List.map_nil]); first | done | rfl | (simp only [List.length_drop, List.length_take]; rfl)) ?_; (with_reducible refine (linear_Check.calls (l1.length : Int) _ _ l0 _ _ y154 t157 _ ?side1 ?side2 ?side3 ?side4 A4.out).mono ?_); (case side1 => repeat (first | exact (Kd.C_below HR0.out HB.out) | (with_reducible refine ccA ?_ _) | (with_reducible refine ccN ?_ _) | (with_reducible refine ccD ?_))); (case side2 => exact HC0.out); (case side3 => repeat (first | exact (Kd.N_reads' HO156.out).2.2 | (with_reducible refine ccA ?_ _) | (with_reducible refine ccN ?_ _) | (with_reducible refine ccD ?_))); (case side4 => exact (Kd.N_reads' HO156.out).2.1); rintro e w21 ⟨rfl, hb⟩; refine ⟨_, rfl, ?_⟩; have n0_ := Aside0.mk (Kd.V_below (by (with_reducible repeat (first | apply Kd.V_alloc | apply Kd.V_drewN | apply Kd.V_drew)); exact HO1.out) hb); have n1_ := Aside0.mk (Kd.N_below (by (with_reducible repeat (first | apply Kd.N_alloc | apply Kd.N_drewN | apply Kd.N_drew)); exact HO156.out) hb); have n2_ := Aside0.mk (zzT (by repeat (first | (with_reducible first | exact HB.out | apply zzA | apply zzN | apply zzD) | exact HB.out)) hb); clear HO1; clear HO156; clear HB; have HO1 := n0_; have HO156 := n1_; have HB := n2_; clear n0_ n1_ n2_; (try clear hb); (try clear hb2); (try clear hk); (try clear hi); obtain ⟨i022, hi022, _, hsz22, _⟩ := info_parts info2; obtain ⟨hcut22, hA22, hC22⟩ := print_take_of (P := Try.prog) (Value.int .i64) 0 26 2 .i64 Try.underlying26 hi022 hsz22 A0 c0 l0 (l1.length : Int) (of_decide_eq_true (by first | (with_reducible assumption) | assumption)) (of_decide_eq_true (by first | (with_reducible assumption) | assumption)) HC0.out; have HR158 := Aside0.mk (Kd.C_of_reads (h1 := fun _ => rfl) (hA22 _ (Kd.reads_of_C HR0.out))); have HC158 := Aside0.mk hC22; clear hA22 hC22 hi022 hsz22) | ((with_reducible refine gate_callee (f := 43) rfl ?_); refine goesL_ (some 29) rfl rfl Try.func43 (by kernel_rfl) rfl #[.slice A0 (l0.take ((l1.length : Int) : Int).toNat).length c0, .slice A1 l1.length c1, .int .i64 a2] rfl (by (try simp only [List.map_toArray, List.map_cons, List.map_nil]); first | done | (rw [show (l0.take ((l1.length : Int) : Int).toNat).length = (l1.length : Int).toNat from (by rw [List.length_take]; have h_ : ((l1.length : Int) : Int) ≤ (l0.length : Int) := of_decide_eq_true (by first | (with_reducible assumption) | assumption); omega)] <;> rfl) | rfl | (simp only [List.length_drop, List.length_take]; rfl)) ?_; (with_reducible refine (vec_Dot.calls _ _ (l0.take ((l1.length : Int) : Int).toNat) _ _ l1 a2 t159 t160 _ ?side1 ?side2 ?side3 ?side4 A8.out).mono ?_); (case side1 => repeat (first | exact (Kd.C_below HR158.out HB.out) | (with_reducible refine ccA ?_ _) | (with_reducible refine ccN ?_ _) | (with_reducible refine ccD ?_))); (case side2 => exact HC158.out); (case side3 => repeat (first | exact (Kd.V_reads' HO1.out).2.2 | (with_reducible refine ccA ?_ _) | (with_reducible refine ccN ?_ _) | (with_reducible refine ccD ?_))); (case side4 => exact (Kd.V_reads' HO1.out).2.1); rintro e w23 ⟨rfl, hb⟩; refine ⟨_, rfl, ?_⟩; have n0_ := Aside0.mk (Kd.V_below (by (with_reducible repeat (first | apply Kd.V_alloc | apply Kd.V_drewN | apply Kd.V_drew)); exact HO1.out) hb); have n1_ := Aside0.mk (Kd.N_below (by (with_reducible repeat (first | apply Kd.N_alloc | apply Kd.N_drewN | apply Kd.N_drew)); exact HO156.out) hb); have n2_ := Aside0.mk (zzT (by repeat (first | (with_reducible first | exact HB.out | apply zzA | apply zzN | apply zzD) | exact HB.out)) hb); clear HO1; clear HO156; clear HB; have HO1 := n0_; have HO156 := n1_; have HB := n2_; clear n0_ n1_ n2_; (try clear hb); (try clear hb2); (try clear hk); (try clear hi)))
     go_ret2
     exact ⟨by first | rfl | (simp [errW_none, errW_some] <;> rfl) | (simp [*, errW_none, errW_some] <;> rfl), by repeat (first | (with_reducible first | exact HB.out | apply zzA | apply zzN | apply zzD) | exact HB.out)⟩
   ·
    rw [if_neg c7] at H
    exact absurd H (by simp)
  ·
   rw [if_neg c6] at H
   exact absurd H (by simp)
 ·
  rw [if_neg c5] at H
  have c5b0 : (t157 == 0) = false := beq_eq_false_iff_ne.mpr c5
  have c5b1 : (t157 != 0) = true := bne_iff_ne.mpr c5
  simp only [Option.some.injEq, Prod.mk.injEq] at H
  obtain ⟨rfl, rfl⟩ := H
  go_enter Try.func22, Try.ntmps22
  go_wp2_with (first | ((with_reducible refine gate_dst (N := 18) rfl ?_); refine Kd.N_lit k37 _ 37 ?hg (N' := 18) ?hd (xs := ([(⟨l1, 0⟩ : S37)] : List (S37))) (inner := [.slice A1 l1.length c1, .int .i64 0]) (ok := (fun k_ => (P1_ k_ ∨ w.heap.size ≤ k_))) (okp := (fun k_ => (P1_ k_ ∨ w.heap.size ≤ k_))) ?hr ?hp (fun _ hk => hk) ((show ∀ k_, w.heap.size ≤ k_ → (fun k_ => (P1_ k_ ∨ w.heap.size ≤ k_)) k_ from fun k_ hk => (.inr (Nat.le_trans (zzS (by repeat (first | (with_reducible first | exact HB.out | apply zzA | apply zzN | apply zzD) | exact HB.out))) hk))) _ (Nat.le_refl _)) (Below.refl _ _) (Nat.le_refl _) (by simp) ?_; (case hd => rfl); (case hg => rfl); (case hr => first | (go_simp; done) | (go_simp; rfl)); (case hp => exact (Reps.c2 (show Kd.FK k37 _ _ (⟨l1, 0⟩ : S37) [.slice A1 l1.length c1, .int .i64 0] from (k37_mkF _ _ (⟨l1, 0⟩ : S37) (Kd.V_reads' (Kd.V_mono (ok' := (fun k_ => (P1_ k_ ∨ w.heap.size ≤ k_))) (HO1.out) (fun k_ hk => hk))).2.1 (Kd.V_F (base := w.heap.size) (e := 2) (Kd.V_mono (ok' := (fun k_ => (P1_ k_ ∨ w.heap.size ≤ k_))) (HO1.out) (fun k_ hk => hk))))) (Reps.none _ _))); intro v155 w24 ho25 hb hg_ hnew_; clear hg_ hnew_; (first | rw [← Ny154.out] at ho25 | (simp only [Int.reduceToNat] at ho25; rw [← Ny154.out] at ho25)); have n0_ := Aside0.mk (Kd.V_elder' (by (with_reducible repeat (first | apply Kd.V_alloc | apply Kd.V_drewN | apply Kd.V_drew)); exact HO1.out) (Kd.N_base ho25) hb); have n1_ := Aside0.mk (Kd.N_lower ho25 (zzS (by repeat (first | (with_reducible first | exact HB.out | apply zzA | apply zzN | apply zzD) | exact HB.out)))); have n2_ := Aside0.mk (zzT (by repeat (first | (with_reducible first | exact HB.out | apply zzA | apply zzN | apply zzD) | exact HB.out)) hb); clear HO1; clear HB; have HO1 := n0_; have HO156 := n1_; have HB := n2_; clear n0_ n1_ n2_; clear hb ho25; obtain ⟨Ao26, co26, eo26⟩ := Kd.N_slice HO156.out; subst eo26) | ((with_reducible refine gate_callee (f := 42) rfl ?_); refine goesL_ (some 19) rfl rfl Try.func42 (by kernel_rfl) rfl #[.int .i64 (l1.length : Int), .slice A0 l0.length c0, .slice Ao26 y154.length co26] rfl (by (try simp only [List.map_toArray, List.map_cons, List.map_nil]); first | done | rfl | (simp only [List.length_drop, List.length_take]; rfl)) ?_; (with_reducible refine (linear_Check.calls (l1.length : Int) _ _ l0 _ _ y154 t157 _ ?side1 ?side2 ?side3 ?side4 A4.out).mono ?_); (case side1 => repeat (first | exact (Kd.C_below HR0.out HB.out) | (with_reducible refine ccA ?_ _) | (with_reducible refine ccN ?_ _) | (with_reducible refine ccD ?_))); (case side2 => exact HC0.out); (case side3 => repeat (first | exact (Kd.N_reads' HO156.out).2.2 | (with_reducible refine ccA ?_ _) | (with_reducible refine ccN ?_ _) | (with_reducible refine ccD ?_))); (case side4 => exact (Kd.N_reads' HO156.out).2.1); rintro e w27 ⟨rfl, hb⟩; refine ⟨_, rfl, ?_⟩; have n0_ := Aside0.mk (Kd.V_below (by (with_reducible repeat (first | apply Kd.V_alloc | apply Kd.V_drewN | apply Kd.V_drew)); exact HO1.out) hb); have n1_ := Aside0.mk (Kd.N_below (by (with_reducible repeat (first | apply Kd.N_alloc | apply Kd.N_drewN | apply Kd.N_drew)); exact HO156.out) hb); have n2_ := Aside0.mk (zzT (by repeat (first | (with_reducible first | exact HB.out | apply zzA | apply zzN | apply zzD) | exact HB.out)) hb); clear HO1; clear HO156; clear HB; have HO1 := n0_; have HO156 := n1_; have HB := n2_; clear n0_ n1_ n2_; (try clear hb); (try clear hb2); (try clear hk); (try clear hi)))
  go_ret2
  exact ⟨by first | rfl | (simp [errW_none, errW_some] <;> rfl) | (simp [*, errW_none, errW_some] <;> rfl), by repeat (first | (with_reducible first | exact HB.out | apply zzA | apply zzN | apply zzD) | exact HB.out)⟩

def linear_Tell.f (l0 l1 : List Int) (a2 : Int) : Option (Int × Int) := if V64 l0 ∧ V64 l1 then some (tellL l0 l1 a2) else none
theorem linear_Tell.of (l0 l1 : List Int) (a2 : Int)  (h_ : V64 l0 ∧ V64 l1) : linear_Tell.f l0 l1 a2 = some (tellL l0 l1 a2) := if_pos h_
theorem linear_TellP.is (l0 l1 : List Int) (a2 : Int) (h0 : V64 l0) (h1 : V64 l1) : linear_TellP.f l0 l1 a2 = some (tellL l0 l1 a2) := by
  unfold linear_TellP.f tellL linear_Check.f
  simp only [Option.bind_some, List.map_cons, List.map_nil, sm]
  by_cases c : checkL l1.length l0 [(l1, 0)] = 0
  · rw [if_pos c, if_pos c]
    obtain ⟨c1, c2, c3, -, -, -⟩ := checkL_len c
    rw [if_pos (by omega), if_pos (by omega), Int.toNat_natCast, vec_Dot.of _ _ _ ⟨fun x hx => h0 x (List.mem_of_mem_take hx), h1⟩]
    simp only [Option.bind_some]
    by_cases d : (dotV (l0.take l1.length) l1 a2).2 = 0
    · rw [if_pos d, if_pos d, if_pos (by omega), fix_Add.of _ _ ⟨dotV_i64 _ _ _, h0.rd _⟩]; rfl
    · rw [if_neg d, if_neg d]
  · rw [if_neg c, if_neg c]
theorem linear_Tell.calls (A0 : Option Addr) (c0 : Nat) (l0 : List Int) (P1_ : Nat → Prop) (A1 : Option Addr) (c1 : Nat) (l1 : List Int) (a2 : Int) (r1 : Int) (r2 : Int) (w : World) (hr0 : Kd.C (Kd.int .i64) w A0 l0.length l0) (hc0 : l0.length ≤ c0) (hs1 : Kd.V (Kd.int .i64) 2 w w.heap.size (fun k_ => P1_ k_) (.slice A1 l1.length c1) l1) (h : linear_Tell.f l0 l1 a2 = some (r1, r2)) :
    Calls Try.prog 22 #[.slice A0 l0.length c0, .slice A1 l1.length c1, .int .i64 a2] w fun e w' => e = .returned (.tuple #[.int .i64 r1, .int .i64 r2]) ∧ Below w.heap.size w w' := by
  unfold linear_Tell.f at h
  split at h
  case isFalse => cases h
  rename_i hv
  exact linear_TellP.calls A0 c0 l0 P1_ A1 c1 l1 a2 r1 r2 w hr0 hc0 hs1 ((linear_TellP.is l0 l1 a2 hv.1 hv.2).trans h)


/-! ### fix_SubP: function 59 -/
def fix_SubP.f (a0 : Int) (a1 : Int) : Option (Int × Int) := if (Go.bits .and .i64 (Go.bits .xor .i64 a0 a1) (Go.bits .xor .i64 a0 (wrap64 (a0 - a1)))) < 0 then (some (0, 2)) else (some (wrap64 (a0 - a1), 0))
set_option maxHeartbeats 8000000 in
set_option maxRecDepth 100000 in
theorem fix_SubP.calls (a0 : Int) (a1 : Int) (r1 : Int) (r2 : Int) (w : World) (h : fix_SubP.f a0 a1 = some (r1, r2)) :
  Calls Try.prog 59 #[.int .i64 a0, .int .i64 a1] w fun e w' => e = .returned (.tuple #[.int .i64 r1, .int .i64 r2]) ∧ Drawn0 w w' := by
 have H : (if (Go.bits .and .i64 (Go.bits .xor .i64 a0 a1) (Go.bits .xor .i64 a0 (wrap64 (a0 - a1)))) < 0 then (some (0, 2)) else (some (wrap64 (a0 - a1), 0))) = some (r1, r2) := h
 clear h
 by_cases c3 : (Go.bits .and .i64 (Go.bits .xor .i64 a0 a1) (Go.bits .xor .i64 a0 (wrap64 (a0 - a1)))) < 0
 ·
  rw [if_pos c3] at H
  have c3b0 : decide ((Go.bits .and .i64 (Go.bits .xor .i64 a0 a1) (Go.bits .xor .i64 a0 (wrap64 (a0 - a1)))) < 0) = true := decide_eq_true c3
  clear c3
  simp only [Option.some.injEq, Prod.mk.injEq] at H
  obtain ⟨rfl, rfl⟩ := H
  go_enter Try.func59, Try.ntmps59
  go_wp2
  go_ret2
  exact ⟨by first | rfl | (simp; done) | (simp [*]; done), by repeat (first | exact ddR _ | apply ddS)⟩
 ·
  rw [if_neg c3] at H
  have c3b0 : decide ((Go.bits .and .i64 (Go.bits .xor .i64 a0 a1) (Go.bits .xor .i64 a0 (wrap64 (a0 - a1)))) < 0) = false := decide_eq_false c3
  clear c3
  simp only [Option.some.injEq, Prod.mk.injEq] at H
  obtain ⟨rfl, rfl⟩ := H
  go_enter Try.func59, Try.ntmps59
  go_wp2
  go_ret2
  exact ⟨by first | rfl | (simp; done) | (simp [*]; done), by repeat (first | exact ddR _ | apply ddS)⟩

def fix_Sub.f (a0 a1 : Int) : Option (Int × Int) := if I64 a0 ∧ I64 a1 then some (res (a0 - a1)) else none
theorem fix_Sub.of (a0 a1 : Int)  (h_ : I64 a0 ∧ I64 a1) : fix_Sub.f a0 a1 = some (res (a0 - a1)) := if_pos h_
theorem fix_Sub.calls (a0 : Int) (a1 : Int) (r1 : Int) (r2 : Int) (w : World) (h : fix_Sub.f a0 a1 = some (r1, r2)) :
    Calls Try.prog 59 #[.int .i64 a0, .int .i64 a1] w fun e w' => e = .returned (.tuple #[.int .i64 r1, .int .i64 r2]) ∧ Drawn0 w w' := by
  unfold fix_Sub.f at h
  split at h
  · rename_i hu
    refine fix_SubP.calls a0 a1 r1 r2 w (Eq.trans ?_ h)
    unfold fix_SubP.f
    have hw := wrap64_i64 (a0 - a1)
    have t := and_neg (xor_i64_i64 a0 a1) (xor_i64_i64 a0 (wrap64 (a0 - a1)))
    rw [xor_neg hu.1 hu.2, xor_neg hu.1 hw] at t
    obtain ⟨h0, h1⟩ := hu
    by_cases c : I64 (a0 - a1)
    · rw [res_of c, wrap64_of c] at *
      rw [if_neg (by rw [t]; omega)]
    · rw [res_not c]
      unfold I64 at h0 h1 c
      rw [if_pos (by rw [t, wrap64_def]; omega)]
  · cases h


/-! ### linear_OffP: function 50 -/
def linear_OffP.f (l0 : List Int) (l1_0 : List Int) (a1_1 : Int) (a2 : Int) : Option (Int × Int) := (linear_Tell.f l0 l1_0 a2).bind fun bt165 => (if bt165.2 = 0 then ((fix_Sub.f bt165.1 a1_1).bind fun bt167 => (some (bt167.1, bt167.2))) else (some (0, bt165.2)))
set_option maxHeartbeats 8000000 in
set_option maxRecDepth 100000 in
theorem linear_OffP.calls (A0 : Option Addr) (c0 : Nat) (l0 : List Int) (A1_0 : Option Addr) (c1_0 : Nat) (l1_0 : List Int) (a1_1 : Int) (a2 : Int) (r1 : Int) (r2 : Int) (w : World) (hr0 : Kd.C (Kd.int .i64) w A0 l0.length l0) (hc0 : l0.length ≤ c0) (hr1_0 : Kd.C (Kd.int .i64) w A1_0 l1_0.length l1_0) (hc1_0 : l1_0.length ≤ c1_0) (h : linear_OffP.f l0 l1_0 a1_1 a2 = some (r1, r2)) :
  Calls Try.prog 50 #[.slice A0 l0.length c0, .agg #[.slice A1_0 l1_0.length c1_0, .int .i64 a1_1], .int .i64 a2] w fun e w' => e = .returned (.tuple #[.int .i64 r1, .int .i64 r2]) ∧ Below w.heap.size w w' := by
 have hu37 := Try.underlying37
 have HR0 := Aside0.mk hr0
 have HC0 := Aside0.mk hc0
 clear hr0 hc0
 have HR1_0 := Aside0.mk hr1_0
 have HC1_0 := Aside0.mk hc1_0
 clear hr1_0 hc1_0
 have HB := Aside0.mk (Below.refl w.heap.size w)
 have H : ((linear_Tell.f l0 l1_0 a2).bind fun bt165 => (if bt165.2 = 0 then ((fix_Sub.f bt165.1 a1_1).bind fun bt167 => (some (bt167.1, bt167.2))) else (some (0, bt165.2)))) = some (r1, r2) := h
 clear h
 replace H := Option.bind_eq_some_iff.mp H
 obtain ⟨⟨t165, t166⟩, A40, H⟩ := H
 replace H : (if t166 = 0 then ((fix_Sub.f t165 a1_1).bind fun bt167 => (some (bt167.1, bt167.2))) else (some (0, t166))) = some (r1, r2) := H
 have A4 := Aside0.mk A40
 clear A40
 by_cases c5 : t166 = 0
 ·
  rw [if_pos c5] at H
  have c5b0 : (t166 == 0) = true := beq_iff_eq.mpr c5
  have c5b1 : (t166 != 0) = false := bne_eq_false_iff_eq.mpr c5
  clear c5
  replace H := Option.bind_eq_some_iff.mp H
  obtain ⟨⟨t167, t168⟩, A60, H⟩ := H
  replace H : (some (t167, t168)) = some (r1, r2) := H
  have A6 := Aside0.mk A60
  clear A60
  simp only [Option.some.injEq, Prod.mk.injEq] at H
  obtain ⟨rfl, rfl⟩ := H
  go_enter Try.func50, Try.ntmps50
  go_wp2_with (first | ((with_reducible refine gate_dst (N := 4) rfl ?_); refine box_event ?hg (N := 4) ?hd (cs := #[.slice A1_0 l1_0.length c1_0, .int .i64 a1_1]) (t := 37) ?hr ?_; (case hd => rfl); (case hg => rfl); (case hr => first | (go_simp; done) | (go_simp; rfl)); intro gb164 hg w7 hbox hb; have n0_ := Aside0.mk (zzT (by repeat (first | (with_reducible first | exact HB.out | apply zzA | apply zzN | apply zzD) | exact HB.out)) hb); have n1_ := Aside0.mk (hbox); have n2_ := Aside0.mk ((by rw [hg]; exact (zzS (by repeat (first | (with_reducible first | exact HB.out | apply zzA | apply zzN | apply zzD) | exact HB.out))) : w.heap.size ≤ gb164)); have n3_ := Aside0.mk ((by rw [hg]; exact (zzS (by repeat (first | (with_reducible first | exact HB.out | apply zzA | apply zzN | apply zzD) | exact HB.out))) : w.heap.size ≤ gb164)); clear HB; have HB := n0_; have BK164 := n1_; have GW164 := n2_; have GE164 := n3_; clear n0_ n1_ n2_ n3_; clear hb hbox hg; have hcz8_0 : w7.cell? ⟨gb164, 0, none⟩ = some (.slice A1_0 l1_0.length c1_0) := (blk_cell BK164.out 0).trans rfl; have hcz8_1 : w7.cell? ⟨gb164, 1, none⟩ = some (.int .i64 a1_1) := (blk_cell BK164.out 1).trans rfl; have hfz8_0 := blk_frozen BK164.out 0; have hfz8_1 := blk_frozen BK164.out 1) | ((with_reducible refine gate_callee (f := 22) rfl ?_); refine goesL_ (some 15) rfl rfl Try.func22 (by kernel_rfl) rfl #[.slice A0 l0.length c0, .slice A1_0 l1_0.length c1_0, .int .i64 a2] rfl (by (try simp only [List.map_toArray, List.map_cons, List.map_nil]); first | done | rfl | (simp only [List.length_drop, List.length_take]; rfl)) ?_; (with_reducible refine (linear_Tell.calls _ _ l0 (fun k_ => k_ < w.heap.size) _ _ l1_0 a2 t165 t166 _ ?side1 ?side2 ?side3 A4.out).mono ?_); (case side1 => repeat (first | exact (Kd.C_below HR0.out HB.out) | (with_reducible refine ccA ?_ _) | (with_reducible refine ccN ?_ _) | (with_reducible refine ccD ?_))); (case side2 => exact HC0.out); (case side3 => exact Kd.V_mk HC1_0.out (Kd.F_below (Kd.C_F (Kd.heap_int .i64) HR1_0.out) (by repeat (first | (with_reducible first | exact HB.out | apply zzA | apply zzN | apply zzD | refine below_set ?_ GE164.out) | exact HB.out)))); rintro e w9 ⟨rfl, hb⟩; refine ⟨_, rfl, ?_⟩; have n0_ := Aside0.mk (blk_below (g := gb164) (o := .cells #[.slice A1_0 l1_0.length c1_0, .int .i64 a1_1] 37 (0, 0)) (by (with_reducible repeat (first | refine kkN ?_ _ | refine kkD ?_ | refine kkA ?_ _)); exact BK164.out) hb); have n1_ := Aside0.mk (zzT (by repeat (first | (with_reducible first | exact HB.out | apply zzA | apply zzN | apply zzD | refine below_set ?_ GE164.out) | exact HB.out)) hb); clear BK164; clear HB; have BK164 := n0_; have HB := n1_; clear n0_ n1_; (try clear hb); (try clear hb2); (try clear hk); (try clear hi); have hcz10_0 : w9.cell? ⟨gb164, 0, none⟩ = some (.slice A1_0 l1_0.length c1_0) := (blk_cell BK164.out 0).trans rfl; have hcz10_1 : w9.cell? ⟨gb164, 1, none⟩ = some (.int .i64 a1_1) := (blk_cell BK164.out 1).trans rfl; have hfz10_0 := blk_frozen BK164.out 0; have hfz10_1 := blk_frozen BK164.out 1) | ((with_reducible refine gate_callee (f := 59) rfl ?_); refine goesL_ (some 24) rfl rfl Try.func59 (by kernel_rfl) rfl #[.int .i64 t165, .int .i64 a1_1] rfl (by (try simp only [List.map_toArray, List.map_cons, List.map_nil]); first | done | rfl | (simp only [List.length_drop, List.length_take]; rfl)) ?_; (with_reducible refine (fix_Sub.calls t165 a1_1 t167 t168 _ A6.out).mono ?_); rintro e w' ⟨rfl, ⟨nd, rfl⟩⟩; refine ⟨_, rfl, ?_⟩))
  go_ret2
  exact ⟨by first | rfl | (simp [errW_none, errW_some] <;> rfl) | (simp [*, errW_none, errW_some] <;> rfl), by repeat (first | (with_reducible first | exact HB.out | apply zzA | apply zzN | apply zzD | refine below_set ?_ GE164.out) | exact HB.out)⟩
 ·
  rw [if_neg c5] at H
  have c5b0 : (t166 == 0) = false := beq_eq_false_iff_ne.mpr c5
  have c5b1 : (t166 != 0) = true := bne_iff_ne.mpr c5
  simp only [Option.some.injEq, Prod.mk.injEq] at H
  obtain ⟨rfl, rfl⟩ := H
  go_enter Try.func50, Try.ntmps50
  go_wp2_with (first | ((with_reducible refine gate_dst (N := 4) rfl ?_); refine box_event ?hg (N := 4) ?hd (cs := #[.slice A1_0 l1_0.length c1_0, .int .i64 a1_1]) (t := 37) ?hr ?_; (case hd => rfl); (case hg => rfl); (case hr => first | (go_simp; done) | (go_simp; rfl)); intro gb164 hg w11 hbox hb; have n0_ := Aside0.mk (zzT (by repeat (first | (with_reducible first | exact HB.out | apply zzA | apply zzN | apply zzD) | exact HB.out)) hb); have n1_ := Aside0.mk (hbox); have n2_ := Aside0.mk ((by rw [hg]; exact (zzS (by repeat (first | (with_reducible first | exact HB.out | apply zzA | apply zzN | apply zzD) | exact HB.out))) : w.heap.size ≤ gb164)); have n3_ := Aside0.mk ((by rw [hg]; exact (zzS (by repeat (first | (with_reducible first | exact HB.out | apply zzA | apply zzN | apply zzD) | exact HB.out))) : w.heap.size ≤ gb164)); clear HB; have HB := n0_; have BK164 := n1_; have GW164 := n2_; have GE164 := n3_; clear n0_ n1_ n2_ n3_; clear hb hbox hg; have hcz12_0 : w11.cell? ⟨gb164, 0, none⟩ = some (.slice A1_0 l1_0.length c1_0) := (blk_cell BK164.out 0).trans rfl; have hcz12_1 : w11.cell? ⟨gb164, 1, none⟩ = some (.int .i64 a1_1) := (blk_cell BK164.out 1).trans rfl; have hfz12_0 := blk_frozen BK164.out 0; have hfz12_1 := blk_frozen BK164.out 1) | ((with_reducible refine gate_callee (f := 22) rfl ?_); refine goesL_ (some 15) rfl rfl Try.func22 (by kernel_rfl) rfl #[.slice A0 l0.length c0, .slice A1_0 l1_0.length c1_0, .int .i64 a2] rfl (by (try simp only [List.map_toArray, List.map_cons, List.map_nil]); first | done | rfl | (simp only [List.length_drop, List.length_take]; rfl)) ?_; (with_reducible refine (linear_Tell.calls _ _ l0 (fun k_ => k_ < w.heap.size) _ _ l1_0 a2 t165 t166 _ ?side1 ?side2 ?side3 A4.out).mono ?_); (case side1 => repeat (first | exact (Kd.C_below HR0.out HB.out) | (with_reducible refine ccA ?_ _) | (with_reducible refine ccN ?_ _) | (with_reducible refine ccD ?_))); (case side2 => exact HC0.out); (case side3 => exact Kd.V_mk HC1_0.out (Kd.F_below (Kd.C_F (Kd.heap_int .i64) HR1_0.out) (by repeat (first | (with_reducible first | exact HB.out | apply zzA | apply zzN | apply zzD | refine below_set ?_ GE164.out) | exact HB.out)))); rintro e w13 ⟨rfl, hb⟩; refine ⟨_, rfl, ?_⟩; have n0_ := Aside0.mk (blk_below (g := gb164) (o := .cells #[.slice A1_0 l1_0.length c1_0, .int .i64 a1_1] 37 (0, 0)) (by (with_reducible repeat (first | refine kkN ?_ _ | refine kkD ?_ | refine kkA ?_ _)); exact BK164.out) hb); have n1_ := Aside0.mk (zzT (by repeat (first | (with_reducible first | exact HB.out | apply zzA | apply zzN | apply zzD | refine below_set ?_ GE164.out) | exact HB.out)) hb); clear BK164; clear HB; have BK164 := n0_; have HB := n1_; clear n0_ n1_; (try clear hb); (try clear hb2); (try clear hk); (try clear hi)))
  go_ret2
  exact ⟨by first | rfl | (simp [errW_none, errW_some] <;> rfl) | (simp [*, errW_none, errW_some] <;> rfl), by repeat (first | (with_reducible first | exact HB.out | apply zzA | apply zzN | apply zzD | refine below_set ?_ GE164.out) | exact HB.out)⟩

def linear_Off.f (l0 l1_0 : List Int) (a1_1 a2 : Int) : Option (Int × Int) := if V64 l0 ∧ V64 l1_0 ∧ I64 a1_1 then some (offL l0 l1_0 a1_1 a2) else none
theorem linear_Off.of (l0 l1_0 : List Int) (a1_1 a2 : Int)  (h_ : V64 l0 ∧ V64 l1_0 ∧ I64 a1_1) : linear_Off.f l0 l1_0 a1_1 a2 = some (offL l0 l1_0 a1_1 a2) := if_pos h_
theorem linear_OffP.is (l0 l1_0 : List Int) (a1_1 a2 : Int) (h0 : V64 l0) (h1 : V64 l1_0) (h2 : I64 a1_1) : linear_OffP.f l0 l1_0 a1_1 a2 = some (offL l0 l1_0 a1_1 a2) := by
  unfold linear_OffP.f offL
  rw [linear_Tell.of _ _ _ ⟨h0, h1⟩]
  simp only [Option.bind_some]
  by_cases d : (tellL l0 l1_0 a2).2 = 0
  · rw [if_pos d, if_pos d, fix_Sub.of _ _ ⟨tellL_i64 _ _ _, h2⟩]; rfl
  · rw [if_neg d, if_neg d]
theorem linear_Off.calls (A0 : Option Addr) (c0 : Nat) (l0 : List Int) (A1_0 : Option Addr) (c1_0 : Nat) (l1_0 : List Int) (a1_1 : Int) (a2 : Int) (r1 : Int) (r2 : Int) (w : World) (hr0 : Kd.C (Kd.int .i64) w A0 l0.length l0) (hc0 : l0.length ≤ c0) (hr1_0 : Kd.C (Kd.int .i64) w A1_0 l1_0.length l1_0) (hc1_0 : l1_0.length ≤ c1_0) (h : linear_Off.f l0 l1_0 a1_1 a2 = some (r1, r2)) :
    Calls Try.prog 50 #[.slice A0 l0.length c0, .agg #[.slice A1_0 l1_0.length c1_0, .int .i64 a1_1], .int .i64 a2] w fun e w' => e = .returned (.tuple #[.int .i64 r1, .int .i64 r2]) ∧ Below w.heap.size w w' := by
  unfold linear_Off.f at h
  split at h
  case isFalse => cases h
  rename_i hv
  exact linear_OffP.calls A0 c0 l0 A1_0 c1_0 l1_0 a1_1 a2 r1 r2 w hr0 hc0 hr1_0 hc1_0 ((linear_OffP.is l0 l1_0 a1_1 a2 hv.1 hv.2.1 hv.2.2).trans h)


/-! ### linear_walk: function 29 -/
/-- What a walk through samples comes to. -/
def walkGo {σ α : Type} (off : α → Int × Int) (stp : σ → α → Int → σ × Int) : List α → σ → σ × Int
  | [], s => (s, 0)
  | x :: l, s => if (off x).2 = 0 then (if (stp s x (off x).1).2 = 0 then walkGo off stp l (stp s x (off x).1).1 else stp s x (off x).1) else (s, (off x).2)
def walkF {σ : Type} (w : List Int) (f : Int) (l : List S37) (stp : σ → S37 → Int → σ × Int) (s : σ) : σ × Int :=
  if checkL (wrap64 ((w.length : Int) - 1)) w (l.map sm) = 0 then walkGo (fun x : S37 => offL w x.f0 x.f1 f) stp l s else (s, checkL (wrap64 ((w.length : Int) - 1)) w (l.map sm))
set_option maxHeartbeats 4000000 in
set_option maxRecDepth 100000 in
theorem linear_walk.calls {σ : Type} (K : Nat) (caps : Array Value) (I : Nat → World → σ → Prop) (stp : σ → S37 → Int → σ × Int) (A0 : Option Addr) (c0 : Nat) (l0 : List Int) (a1 : Int) (A2 : Option Addr) (c2 : Nat) (l2 : List S37) (w0 w : World) (s0 sf : σ) (ef : Int)
    (hent : ∀ (args : Array Value) (w : World), (callFunc K args).run Try.prog w = .ok (.enter K args) w)
    (hr0 : Kd.C (Kd.int .i64) w0 A0 l0.length l0) (hc0 : l0.length ≤ c0) (hr2 : Kd.C k37 w0 A2 l2.length l2) (hc2 : l2.length ≤ c2) (hv : V64 l0 ∧ ∀ s ∈ l2, Sm64 s)
    (hB : Below w0.heap.size w0 w) (hI : I 0 w s0) (hst : ∀ k W W' s, I k W s → Below W.heap.size W W' → I k W' s)
    (hK : ∀ k W s (x : S37) A c o, k < l2.length → l2.length ≤ 64 → Sm64 x → I64 o → Below w0.heap.size w0 W → I k W s → Kd.C (Kd.int .i64) W A x.f0.length x.f0 → x.f0.length ≤ c →
      Calls Try.prog K (#[.agg #[.slice A x.f0.length c, .int .i64 x.f1], .int .i64 o] ++ caps) W fun ed W' => ed = .returned (.int .i64 (stp s x o).2) ∧ I (k + 1) W' (stp s x o).1 ∧ Below w0.heap.size w0 W')
    (h : walkF l0 a1 l2 stp s0 = (sf, ef)) :
    Calls Try.prog 29 #[.slice A0 l0.length c0, .int .i64 a1, .slice A2 l2.length c2, .func (.func K) #[] caps] w fun e w' => e = .returned (.int .i64 ef) ∧ (∃ k, I k w' sf) ∧ Below w0.heap.size w0 w' := by
  have hu := Try.underlying37
  have HR0 := Aside0.mk hr0
  have HC0 := Aside0.mk hc0
  have HR2 := Aside0.mk hr2
  have HC2 := Aside0.mk hc2
  have HB := Aside0.mk hB
  have HI := Aside0.mk hI
  have HK := Aside0.mk hK
  have HST := Aside0.mk hst
  have HV := Aside0.mk hv
  have hmx := Kd.C_max hr2
  have HM := Aside0.mk hmx
  obtain ⟨ce, hce⟩ : ∃ c, checkL (wrap64 ((l0.length : Int) - 1)) l0 (l2.map sm) = c := ⟨_, rfl⟩
  have A3 : Aside0 (linear_Check.f (wrap64 ((l0.length : Int) - 1)) l0 l2 = some ce) := ⟨congrArg some hce⟩
  have hlen : ce = 0 → l2.length ≤ 64 := fun e => by have := (checkL_len (hce.trans e)).2.2.2.2.2; rwa [List.length_map] at this
  have HL := Aside0.mk hlen
  unfold walkF at h
  rw [hce] at h
  have hstart : (if ce = 0 then walkGo (fun x : S37 => offL l0 x.f0 x.f1 a1) stp l2 s0 else (s0, ce)) = (sf, ef) := h
  have HG := Aside0.mk hstart
  clear hr0 hc0 hr2 hc2 hB hI hK hst hv hmx h hstart hlen hce
  go_enter Try.func29, Try.ntmps29
  go_wp2_with (go_at_call 42; (with_reducible refine (linear_Check.calls (wrap64 ((l0.length : Int) - 1)) A0 c0 l0 A2 c2 l2 ce _ (Kd.C_below HR0.out HB.out) HC0.out (Kd.C_below HR2.out HB.out) HC2.out A3.out).mono ?_); rintro ed W1 ⟨rfl, hb⟩; have n0 := Aside0.mk (below_then HB.out HB.out.size hb); have n1 := Aside0.mk (HST.out _ _ _ _ HI.out hb); clear HB HI hb; have HB := n0; have HI := n1; clear n0 n1)
  go_loopw [9, 21] (fun ve vi W => ∃ (k j : Nat) (e : Int) (s : σ), ve = .int .i64 e ∧ vi = .int .i64 k ∧ Aside0 (k ≤ l2.length) ∧ Aside0 (e = 0 → j = k) ∧ Aside0 (e = 0 → l2.length ≤ 64) ∧ Aside0 (I j W s) ∧ Aside0 ((if e = 0 then walkGo (fun x : S37 => offL l0 x.f0 x.f1 a1) stp (l2.drop k) s else (s, e)) = (sf, ef)) ∧ Aside0 (Below w0.heap.size w0 W)) (fun _ i _ => l2.length - (intOf i).toNat)
  case atStart => exact ⟨0, 0, ce, s0, rfl, rfl, ⟨Nat.zero_le _⟩, ⟨fun _ => rfl⟩, HL, HI, ⟨by rw [List.drop_zero]; exact HG.out⟩, HB⟩
  case round =>
    obtain ⟨k, j, e, s, rfl, rfl, ⟨hk⟩, HJ, HL, HI, ⟨hgo⟩, HB⟩ := hrel
    clear HG
    by_cases hlt : k < l2.length
    · have hM := HM.out
      obtain ⟨ad, A, c, rfl, hx0, hx1, hl, hi⟩ := at_T37 HR2.out (k : Int) (by omega) (by omega)
      obtain ⟨x, hx⟩ : ∃ x, rd_T37 l2 (k : Int) = x := ⟨_, rfl⟩
      have hmem : l2[k] = x := (rd_sm hlt).symm.trans hx
      rw [hx] at hx0 hx1 hl hi
      simp only [Int.toNat_natCast] at hx0 hx1
      replace hx0 := (HB.out.cell (World.block_lt_of_cell? _ _ hx0)).trans hx0
      replace hx1 := (HB.out.cell (World.block_lt_of_cell? _ _ hx1)).trans hx1
      have HRX := Aside0.mk hi
      have HCX := Aside0.mk hl
      have hsx : Sm64 x := by rw [← hmem]; exact HV.out.2 _ (List.getElem_mem hlt)
      have HSX := Aside0.mk hsx
      have HLT := Aside0.mk hlt
      have HW := Aside0.mk (Below.refl wr.heap.size wr)
      rw [List.drop_eq_getElem_cons hlt, hmem] at hgo
      clear hl hi hsx hx hmem hk
      by_cases he : e = 0
      · subst he
        rw [if_pos rfl] at hgo
        obtain rfl := HJ.out rfl
        have HL64 := Aside0.mk (HL.out rfl)
        clear HL HJ
        obtain ⟨⟨o, oe⟩, ho⟩ : ∃ p, offL l0 x.f0 x.f1 a1 = p := ⟨_, rfl⟩
        have hoi := offL_i64 l0 x.f0 x.f1 a1
        rw [ho] at hoi
        have HOI := Aside0.mk hoi
        have A5 : Aside0 (linear_Off.f l0 x.f0 x.f1 a1 = some (o, oe)) := ⟨(linear_Off.of _ _ _ _ ⟨HV.out.1, HSX.out.1, HSX.out.2⟩).trans (congrArg some ho)⟩
        unfold walkGo at hgo
        simp only [ho] at hgo
        clear ho hoi
        by_cases hoe : oe = 0
        · subst hoe
          rw [if_pos rfl] at hgo
          have HG := Aside0.mk hgo
          clear hgo
          go_wp2_with (first | ((with_reducible refine gate_dst (N := 11) rfl ?_); refine box_event ?hg (N := 11) ?hd (cs := #[.slice none 0 0, .int .i64 0]) (t := 37) ?hr ?_; (case hd => rfl); (case hg => rfl); (case hr => first | (go_simp; done) | (go_simp; rfl)); intro gb hg w1 hbox hb; have GE : Aside0 (wr.heap.size ≤ gb) := ⟨by rw [hg]; exact HW.out.size⟩; have n0 := Aside0.mk (((below_then HW.out HW.out.size hb).setCell (p := ⟨gb, 0, none⟩) GE.out (.slice A x.f0.length c)).setCell (p := ⟨gb, 1, none⟩) GE.out (.int .i64 x.f1)); have BK := Aside0.mk (blk_put (cs := #[.slice A x.f0.length c, .int .i64 0]) (blk_put (cs := #[.slice none 0 0, .int .i64 0]) hbox 0 (.slice A x.f0.length c) rfl) 1 (.int .i64 x.f1) (cs' := #[.slice A x.f0.length c, .int .i64 x.f1]) rfl); have hz0 : w1.cell? ⟨gb, 0, none⟩ = some (.slice none 0 0) := (blk_cell hbox 0).trans rfl; have hz1 : w1.cell? ⟨gb, 1, none⟩ = some (.int .i64 0) := (blk_cell hbox 1).trans rfl; have hf0 := blk_frozen hbox 0; have hf1 := blk_frozen hbox 1; clear HW; have HW := n0; clear n0 hb hbox hg) | (go_at_call 50; (with_reducible refine (linear_Off.calls A0 c0 l0 A c x.f0 x.f1 a1 o 0 _ (Kd.C_below HR0.out (below_then HB.out HB.out.size HW.out)) HC0.out (Kd.C_below HRX.out (below_then HB.out HB.out.size HW.out)) HCX.out A5.out).mono ?_); rintro ed W2 ⟨rfl, hb⟩; have n0 := Aside0.mk (below_then HW.out HW.out.size hb); have BK := Aside0.mk (blk_below BK.out hb); clear HW hb; have HW := n0; clear n0; have hz0 : W2.cell? ⟨gb, 0, none⟩ = some (.slice A x.f0.length c) := (blk_cell BK.out 0).trans rfl; have hz1 : W2.cell? ⟨gb, 1, none⟩ = some (.int .i64 x.f1) := (blk_cell BK.out 1).trans rfl) | (go_at_fn K; refine (HK.out j _ s x A c o HLT.out HL64.out HSX.out HOI.out (below_then HB.out HB.out.size HW.out) (HST.out _ _ _ _ HI.out HW.out) (Kd.C_below HRX.out (below_then HB.out HB.out.size HW.out)) HCX.out).mono ?_; rintro ed W3 ⟨rfl, hi3, hb3⟩; have HI3 := Aside0.mk hi3; have HB3 := Aside0.mk hb3; clear hi3 hb3))
          refine ⟨⟨j + 1, j + 1, (stp s x o).2, (stp s x o).1, rfl, by first | rfl | (rw [wrap64_of (show I64 ((j : Int) + 1) by unfold I64; omega)]; rfl), ⟨HLT.out⟩, ⟨fun _ => rfl⟩, ⟨fun _ => HL64.out⟩, HI3, ⟨?_⟩, HB3⟩, by have := HLT.out; have := HM.out; (try rw [wrap64_of (show I64 ((j : Int) + 1) by unfold I64; omega)]); simp [intOf]; omega⟩
          have hG := HG.out
          by_cases hse : (stp s x o).2 = 0
          · rw [if_pos hse] at hG ⊢; exact hG
          · rw [if_neg hse] at hG ⊢; exact hG
        · rw [if_neg hoe] at hgo
          have HG := Aside0.mk hgo
          have he0 : (oe == 0) = false := beq_eq_false_iff_ne.2 hoe
          have he1 : (oe != 0) = true := bne_iff_ne.2 hoe
          have HOE := Aside0.mk hoe
          clear hgo hoe
          go_wp2_with (first | ((with_reducible refine gate_dst (N := 11) rfl ?_); refine box_event ?hg (N := 11) ?hd (cs := #[.slice none 0 0, .int .i64 0]) (t := 37) ?hr ?_; (case hd => rfl); (case hg => rfl); (case hr => first | (go_simp; done) | (go_simp; rfl)); intro gb hg w1 hbox hb; have GE : Aside0 (wr.heap.size ≤ gb) := ⟨by rw [hg]; exact HW.out.size⟩; have n0 := Aside0.mk (((below_then HW.out HW.out.size hb).setCell (p := ⟨gb, 0, none⟩) GE.out (.slice A x.f0.length c)).setCell (p := ⟨gb, 1, none⟩) GE.out (.int .i64 x.f1)); have BK := Aside0.mk (blk_put (cs := #[.slice A x.f0.length c, .int .i64 0]) (blk_put (cs := #[.slice none 0 0, .int .i64 0]) hbox 0 (.slice A x.f0.length c) rfl) 1 (.int .i64 x.f1) (cs' := #[.slice A x.f0.length c, .int .i64 x.f1]) rfl); have hz0 : w1.cell? ⟨gb, 0, none⟩ = some (.slice none 0 0) := (blk_cell hbox 0).trans rfl; have hz1 : w1.cell? ⟨gb, 1, none⟩ = some (.int .i64 0) := (blk_cell hbox 1).trans rfl; have hf0 := blk_frozen hbox 0; have hf1 := blk_frozen hbox 1; clear HW; have HW := n0; clear n0 hb hbox hg) | (go_at_call 50; (with_reducible refine (linear_Off.calls A0 c0 l0 A c x.f0 x.f1 a1 o oe _ (Kd.C_below HR0.out (below_then HB.out HB.out.size HW.out)) HC0.out (Kd.C_below HRX.out (below_then HB.out HB.out.size HW.out)) HCX.out A5.out).mono ?_); rintro ed W2 ⟨rfl, hb⟩; have n0 := Aside0.mk (below_then HW.out HW.out.size hb); have BK := Aside0.mk (blk_below BK.out hb); clear HW hb; have HW := n0; clear n0; have hz0 : W2.cell? ⟨gb, 0, none⟩ = some (.slice A x.f0.length c) := (blk_cell BK.out 0).trans rfl; have hz1 : W2.cell? ⟨gb, 1, none⟩ = some (.int .i64 x.f1) := (blk_cell BK.out 1).trans rfl))
          exact ⟨⟨j + 1, j, oe, s, rfl, by first | rfl | (rw [wrap64_of (show I64 ((j : Int) + 1) by unfold I64; omega)]; rfl), ⟨HLT.out⟩, ⟨fun h => absurd h HOE.out⟩, ⟨fun h => absurd h HOE.out⟩, ⟨HST.out _ _ _ _ HI.out HW.out⟩, ⟨by rw [if_neg HOE.out]; exact HG.out⟩, ⟨below_then HB.out HB.out.size HW.out⟩⟩, by have := HLT.out; have := HM.out; (try rw [wrap64_of (show I64 ((j : Int) + 1) by unfold I64; omega)]); simp [intOf]; omega⟩
      · rw [if_neg he] at hgo
        have HG := Aside0.mk hgo
        have he0 : (e == 0) = false := beq_eq_false_iff_ne.2 he
        have he1 : (e != 0) = true := bne_iff_ne.2 he
        have HE := Aside0.mk he
        clear hgo he
        go_wp2_with ((with_reducible refine gate_dst (N := 11) rfl ?_); refine box_event ?hg (N := 11) ?hd (cs := #[.slice none 0 0, .int .i64 0]) (t := 37) ?hr ?_; (case hd => rfl); (case hg => rfl); (case hr => first | (go_simp; done) | (go_simp; rfl)); intro gb hg w1 hbox hb; have GE : Aside0 (wr.heap.size ≤ gb) := ⟨by rw [hg]; exact HW.out.size⟩; have n0 := Aside0.mk (((below_then HW.out HW.out.size hb).setCell (p := ⟨gb, 0, none⟩) GE.out (.slice A x.f0.length c)).setCell (p := ⟨gb, 1, none⟩) GE.out (.int .i64 x.f1)); have BK := Aside0.mk (blk_put (cs := #[.slice A x.f0.length c, .int .i64 0]) (blk_put (cs := #[.slice none 0 0, .int .i64 0]) hbox 0 (.slice A x.f0.length c) rfl) 1 (.int .i64 x.f1) (cs' := #[.slice A x.f0.length c, .int .i64 x.f1]) rfl); have hz0 : w1.cell? ⟨gb, 0, none⟩ = some (.slice none 0 0) := (blk_cell hbox 0).trans rfl; have hz1 : w1.cell? ⟨gb, 1, none⟩ = some (.int .i64 0) := (blk_cell hbox 1).trans rfl; have hf0 := blk_frozen hbox 0; have hf1 := blk_frozen hbox 1; clear HW; have HW := n0; clear n0 hb hbox hg)
        exact ⟨⟨k + 1, j, e, s, rfl, by first | rfl | (rw [wrap64_of (show I64 ((k : Int) + 1) by unfold I64; omega)]; rfl), ⟨HLT.out⟩, ⟨fun h => absurd h HE.out⟩, ⟨fun h => absurd h HE.out⟩, ⟨HST.out _ _ _ _ HI.out HW.out⟩, ⟨by rw [if_neg HE.out]; exact HG.out⟩, ⟨below_then HB.out HB.out.size HW.out⟩⟩, by have := HLT.out; have := HM.out; (try rw [wrap64_of (show I64 ((k : Int) + 1) by unfold I64; omega)]); simp [intOf]; omega⟩
    · have hkn : k = l2.length := by omega
      subst hkn
      rw [List.drop_length] at hgo
      have hef : e = ef ∧ s = sf := by
        by_cases he : e = 0
        · rw [if_pos he] at hgo; cases hgo; exact ⟨he, rfl⟩
        · rw [if_neg he] at hgo; cases hgo; exact ⟨rfl, rfl⟩
      obtain ⟨rfl, rfl⟩ := hef
      clear hgo hk
      go_wp2
      go_ret
      exact ⟨rfl, ⟨_, HI.out⟩, HB.out⟩


/-! ### vec_Check: function 25 -/
def vec_Check.f (l0 : List Int) : Option (Int) := if (l0.length : Int) > 4096 then (some 3) else (some 0)
set_option maxHeartbeats 8000000 in
set_option maxRecDepth 100000 in
theorem vec_Check.calls (A0 : Option Addr) (c0 : Nat) (l0 : List Int) (r : Int) (w : World) (hr0 : Kd.C (Kd.int .i64) w A0 l0.length l0) (hc0 : l0.length ≤ c0) (h : vec_Check.f l0 = some r) :
  Calls Try.prog 25 #[.slice A0 l0.length c0] w fun e w' => e = .returned (.int .i64 r) ∧ Drawn0 w w' := by
 have HR0 := Aside0.mk hr0
 have HC0 := Aside0.mk hc0
 clear hr0 hc0
 have H : (if (l0.length : Int) > 4096 then (some 3) else (some 0)) = some r := h
 clear h
 by_cases c2 : (l0.length : Int) > 4096
 ·
  rw [if_pos c2] at H
  have c2b0 : decide (4096 < (l0.length : Int)) = true := decide_eq_true c2
  have c2b1 : decide (4096 < l0.length) = true := decide_eq_true (by omega)
  clear c2
  obtain rfl := Option.some.inj H
  go_enter Try.func25, Try.ntmps25
  go_wp2
  go_ret
  exact ⟨by first | rfl | (simp; done) | (simp [*]; done), by repeat (first | exact ddR _ | apply ddS)⟩
 ·
  rw [if_neg c2] at H
  have c2b0 : decide (4096 < (l0.length : Int)) = false := decide_eq_false c2
  have c2b1 : decide (4096 < l0.length) = false := decide_eq_false (by omega)
  clear c2
  obtain rfl := Option.some.inj H
  go_enter Try.func25, Try.ntmps25
  go_wp2
  go_ret
  exact ⟨by first | rfl | (simp; done) | (simp [*]; done), by repeat (first | exact ddR _ | apply ddS)⟩

theorem vec_Check.of (l0 : List Int) : vec_Check.f l0 = some (checkE l0) := by
  unfold vec_Check.f checkE
  by_cases c : l0.length > 4096
  · rw [if_pos (by omega), if_pos c]
  · rw [if_neg (by omega), if_neg c]


/-! ### vec_each: function 48 -/
set_option maxHeartbeats 2000000 in
set_option maxRecDepth 100000 in
theorem vec_each.calls (K : Nat) (caps : Array Value) (g : Nat → Option (Int × Int)) (n : Nat) (hn : n ≤ 1000000) (w : World) (r1 : List Int) (r2 : Int)
    (hent : ∀ (args : Array Value) (w : World), (callFunc K args).run Try.prog w = .ok (.enter K args) w)
    (H : Tells Try.prog K caps g n w) (h : eachGo g n 0 [] = some (r1, r2)) :
    Calls Try.prog 48 #[.int .i64 n, .func (.func K) #[] caps] w fun e w' => ∃ v0_ : Value, e = .returned (.tuple #[v0_, .int .i64 r2]) ∧ Kd.R (Kd.int .i64) 2 w' w.heap.size (fun _ => True) v0_ r1 ∧ Below w.heap.size w w' := by
  have hmk := print_make (P := Try.prog) 26 2 .i64 8 Try.underlying26 info2 (by decide) n (by omega)
  have HH := Aside0.mk H
  have HG := Aside0.mk h
  clear H h
  go_enter Try.func48, Try.ntmps48
  go_wp2_with fail
  go_loopw [13] (fun i W => ∃ (k : Nat) (acc : List Int), i = .int .i64 k ∧ Aside0 (k ≤ n) ∧ Aside0 (acc.length = k) ∧ Aside0 (eachGo g (n - k) k acc = some (r1, r2)) ∧ Aside0 (Kd.R (Kd.int .i64) 2 W w.heap.size (fun _ => True) (.slice (some ⟨w.heap.size, 0, none⟩) n n) (acc ++ List.replicate (n - k) 0)) ∧ Aside0 (Below w.heap.size w W)) (fun i _ => n - (intOf i).toNat)
  case atStart => exact ⟨0, [], rfl, ⟨Nat.zero_le _⟩, ⟨rfl⟩, HG, ⟨by have ho := own_made w w.heap.size 2 .i64 n (Nat.le_refl _) (by omega); rw [show ([] : List Int) ++ List.replicate (n - 0) 0 = List.replicate n 0 by simp]; exact Kd.R_of_own (enc := Value.int .i64) (h1 := fun _ => rfl) (xs := List.replicate n (0 : Int)) (by rw [List.length_replicate]; exact ho) (fun _ _ => trivial)⟩, ⟨zzA (Below.refl _ _) _⟩⟩
  case round =>
    obtain ⟨k, acc, rfl, ⟨hk⟩, ⟨hacc⟩, ⟨hgo⟩, HO, HB⟩ := hrel
    clear HG
    by_cases hlt : k < n
    · obtain ⟨d, hd⟩ : ∃ d, n - k = d + 1 := ⟨n - k - 1, by omega⟩
      rw [hd, eachGo] at hgo
      obtain ⟨⟨x, e⟩, hgk, hgo⟩ := Option.bind_eq_some_iff.mp hgo
      have HC := Aside0.mk (HH.out k wr x e hlt HB.out hgk)
      have HHd := Aside0.mk hd
      clear hd hgk
      by_cases he : e = 0
      · subst he
        simp only [if_true] at hgo
        have HG := Aside0.mk hgo
        have HA := Aside0.mk hacc
        clear hgo hacc hk
        go_wp2_with (go_at_fn K; refine HC.out.mono ?_; rintro ed W1 ⟨rfl, hb⟩; have HO1 := Aside0.mk (Kd.R_below HO.out hb); have HB1 := Aside0.mk (below_then HB.out HB.out.size hb); clear hb; have hcell := (Kd.R_celln 0 HO1.out (k : Int) (by omega) (by omega)).1; have hfr := (Kd.R_celln 0 HO1.out (k : Int) (by omega) (by omega)).2; simp only [Int.toNat_natCast] at hcell hfr)
        have hp := Kd.R_putg HO1.out (k : Int) x
        have hset : (acc ++ List.replicate (n - k) 0).set (k : Int).toNat x = (acc ++ [x]) ++ List.replicate (n - (k + 1)) 0 := by
          rw [HHd.out, show n - (k + 1) = d by have := HHd.out; omega, Int.toNat_natCast, ← HA.out, List.set_append_right _ _ (Nat.le_refl _), Nat.sub_self, List.replicate_succ]
          simp
        rw [hset] at hp
        simp only [Int.toNat_natCast] at hp
        exact ⟨⟨k + 1, acc ++ [x], by go_num, ⟨by omega⟩, ⟨by have := HA.out; simp; omega⟩, ⟨by rw [show n - (k + 1) = d by have := HHd.out; omega]; exact HG.out⟩, ⟨hp.1⟩, ⟨HB1.out.setCell (Nat.le_refl _) _⟩⟩, by simp [intOf]; omega⟩
      · rw [if_neg he] at hgo
        cases hgo
        have he0 : (e == 0) = false := beq_eq_false_iff_ne.2 he
        have he1 : (e != 0) = true := bne_iff_ne.2 he
        clear he hacc hk
        go_wp2_with (go_at_fn K; refine HC.out.mono ?_; rintro ed W1 ⟨rfl, hb⟩; have HO1 := Aside0.mk (Kd.R_below HO.out hb); have HB1 := Aside0.mk (below_then HB.out HB.out.size hb); clear hb; have hcell := (Kd.R_celln 0 HO1.out (k : Int) (by omega) (by omega)).1; have hfr := (Kd.R_celln 0 HO1.out (k : Int) (by omega) (by omega)).2; simp only [Int.toNat_natCast] at hcell hfr)
        go_ret2
        exact ⟨_, rfl, Kd.R_nil _ _ _ _ _, HB1.out.setCell (Nat.le_refl _) _⟩
    · have hkn : n - k = 0 := by omega
      rw [hkn, eachGo] at hgo
      cases hgo
      have HO2 := HO.out
      rw [hkn, List.replicate_zero, List.append_nil] at HO2
      have HO3 := Aside0.mk HO2
      clear HO2 HO hkn hacc hk
      go_wp2
      go_ret2
      exact ⟨_, rfl, HO3.out, HB.out⟩


-- NOT PRINTED: function 52 (vec_Scale_1)

/-! ### vec_Scale: function 31 -/
set_option maxHeartbeats 2000000 in
set_option maxRecDepth 100000 in
theorem vec_Scale_1.calls (b1 b2 b3 : Nat) (A0 : Option Addr) (c0 : Nat) (l0 : List Int) (a1 : Int) (a2 : Int) (i : Nat) (W : World) (x e : Int)
    (hb1 : W.cell? ⟨b1, 0, none⟩ = some (.slice A0 l0.length c0)) (hb2 : W.cell? ⟨b2, 0, none⟩ = some (.int .i64 a1)) (hb3 : W.cell? ⟨b3, 0, none⟩ = some (.int .i64 a2))
    (hr0 : Kd.C (Kd.int .i64) W A0 l0.length l0) (h0 : i < l0.length)
    (h : fix_Mul.f (rd l0 i) a1 a2 = some (x, e)) :
    Calls Try.prog 52 #[.int .i64 i, .pointer (some ⟨b1, 0, none⟩), .pointer (some ⟨b2, 0, none⟩), .pointer (some ⟨b3, 0, none⟩)] W fun ed W' => ed = .returned (.tuple #[.int .i64 x, .int .i64 e]) ∧ Below W.heap.size W W' := by
  obtain ⟨ad0, rfl, hc0⟩ := Kd.at_int hr0 (i : Int) (by omega) (by omega)
  simp only [Int.toNat_natCast] at hc0
  have HC := Aside0.mk h
  clear hr0 h
  go_enter Try.func52, Try.ntmps52
  go_wp2
  go_region_held3 (fun w' => w'.cell? ⟨b1, 0, none⟩ = some (.slice (some ad0) l0.length c0) ∧ w'.cell? ⟨b2, 0, none⟩ = some (.int .i64 a1) ∧ w'.cell? ⟨b3, 0, none⟩ = some (.int .i64 a2) ∧ w'.cell? (ad0.add i) = some (.int .i64 (rd l0 i)))
    (first | go_keep | (go_split_ands; exact ⟨pw_cell_below hb (by assumption), pw_cell_below hb (by assumption), pw_cell_below hb (by assumption), pw_cell_below hb (by assumption)⟩))
    ((go_at_call 53; (with_reducible refine (fix_Mul.calls (rd l0 i) a1 a2 x e _ HC.out).mono ?_); rintro ed W2 ⟨rfl, hb⟩))
  go_wp2
  go_ret2
  exact ⟨rfl, below_then (below_drew (Below.refl _ _)) (Nat.le_refl _) hb⟩
def vec_Scale.f (l0 : List Int) (a1 a2 : Int) : Option (List Int × Int) := if V64 l0 ∧ I64 a1 then some (scaleV l0 a1 a2) else none
theorem vec_Scale.of (l0 : List Int) (a1 a2 : Int)  (h_ : V64 l0 ∧ I64 a1) : vec_Scale.f l0 a1 a2 = some (scaleV l0 a1 a2) := if_pos h_
set_option maxHeartbeats 2000000 in
set_option maxRecDepth 100000 in
theorem vec_Scale.calls (A0 : Option Addr) (c0 : Nat) (l0 : List Int) (a1 : Int) (a2 : Int) (r1 : List Int) (r2 : Int) (w : World) (hr0 : Kd.C (Kd.int .i64) w A0 l0.length l0) (hc0 : l0.length ≤ c0) (h : vec_Scale.f l0 a1 a2 = some (r1, r2)) :
    Calls Try.prog 31 #[.slice A0 l0.length c0, .int .i64 a1, .int .i64 a2] w fun e w' => ∃ v0_ : Value, e = .returned (.tuple #[v0_, .int .i64 r2]) ∧ Kd.R (Kd.int .i64) 2 w' w.heap.size (fun _ => True) v0_ r1 ∧ Below w.heap.size w w' := by
  unfold vec_Scale.f at h
  split at h
  case isFalse => cases h
  rename_i hv
  have h := Option.some.inj h
  unfold scaleV at h
  have HR0 := Aside0.mk hr0
  have HC0 := Aside0.mk hc0
  clear hr0 hc0
  have HV := Aside0.mk hv
  clear hv
  try have hu26 := Try.underlying26
  try have hu2 := Try.underlying2
  try have hu3 := Try.underlying3
  have HP0 : Aside0 (vec_Check.f l0 = some (checkE l0)) := ⟨vec_Check.of l0⟩
  by_cases hp0 : checkE l0 = 0
  · rw [if_pos hp0] at h
    rw [hp0] at HP0
    have HP1 : Aside0 (vec_behind.f a2 = some (fracE a2)) := ⟨vec_behind.of a2⟩
    by_cases hp1 : fracE a2 = 0
    · rw [if_pos hp1] at h
      rw [hp1] at HP1
      have HN : Aside0 (l0.length ≤ 4096) := ⟨checkE_le hp0⟩
      have HH := Aside0.mk h
      clear h hp0 hp1
      have HX0 : Aside0 ((((w.alloc (Obj.cells #[Value.slice A0 l0.length c0] 26)).alloc (Obj.cells #[Value.int .i64 a1] 2)).alloc (Obj.cells #[Value.int .i64 a2] 3)).cell? ⟨w.heap.size, 0, none⟩ = some (.slice A0 l0.length c0)) := ⟨by simp [go_sem]⟩
      have HX1 : Aside0 ((((w.alloc (Obj.cells #[Value.slice A0 l0.length c0] 26)).alloc (Obj.cells #[Value.int .i64 a1] 2)).alloc (Obj.cells #[Value.int .i64 a2] 3)).cell? ⟨w.heap.size + 1, 0, none⟩ = some (.int .i64 a1)) := ⟨by simp [go_sem]⟩
      have HX2 : Aside0 ((((w.alloc (Obj.cells #[Value.slice A0 l0.length c0] 26)).alloc (Obj.cells #[Value.int .i64 a1] 2)).alloc (Obj.cells #[Value.int .i64 a2] 3)).cell? ⟨w.heap.size + 2, 0, none⟩ = some (.int .i64 a2)) := ⟨by simp [go_sem]⟩
      have HB : Aside0 (Below w.heap.size w (((w.alloc (Obj.cells #[Value.slice A0 l0.length c0] 26)).alloc (Obj.cells #[Value.int .i64 a1] 2)).alloc (Obj.cells #[Value.int .i64 a2] 3))) := ⟨zzA (zzA (zzA (Below.refl _ _) _) _) _⟩
      go_enter Try.func31, Try.ntmps31
      go_wp2_with (first | (go_at_call 25; (with_reducible refine (vec_Check.calls A0 c0 l0 0 _ (Kd.C_below HR0.out HB.out) HC0.out HP0.out).mono ?_); rintro ed W1 ⟨rfl, hd⟩; have hb := hd.below; clear hd; have HB := Aside0.mk (below_then HB.out HB.out.size hb); have HX0 := Aside0.mk (pw_cell_below hb HX0.out); have HX1 := Aside0.mk (pw_cell_below hb HX1.out); have HX2 := Aside0.mk (pw_cell_below hb HX2.out); have hx0 := HX0.out; have hx1 := HX1.out; have hx2 := HX2.out; clear hb) | (go_at_call 51; (with_reducible refine (vec_behind.calls a2 0 _ HP1.out).mono ?_); rintro ed W1 ⟨rfl, hd⟩; have hb := hd; clear hd; have HB := Aside0.mk (below_then HB.out HB.out.size hb); have HX0 := Aside0.mk (pw_cell_below hb HX0.out); have HX1 := Aside0.mk (pw_cell_below hb HX1.out); have HX2 := Aside0.mk (pw_cell_below hb HX2.out); have hx0 := HX0.out; have hx1 := HX1.out; have hx2 := HX2.out; clear hb) | (go_at_call 48; (with_reducible refine (vec_each.calls 52 _ (fun i : Nat => fix_Mul.f (rd l0 i) a1 a2) l0.length (by have := HN.out; omega) _ r1 r2 ?ent ?tells ?go).mono ?_); (case ent => exact enters_of Try.func52 rfl rfl); (case tells => intro i W x e hi hb hg; refine (vec_Scale_1.calls (w.heap.size) (w.heap.size + 1) (w.heap.size + 2) A0 c0 l0 a1 a2 i W x e (pw_cell_below hb HX0.out) (pw_cell_below hb HX1.out) (pw_cell_below hb HX2.out) (Kd.C_below (Kd.C_below HR0.out HB.out) hb) (by omega) hg).mono ?_; rintro ed W' ⟨rfl, hd⟩; exact ⟨rfl, hd⟩); (case go => exact (each_spec (ps := l0.map fun x => mulF x a1 a2) (List.length_map _) (fun j h => by rw [map_get _ j h]; exact fix_Mul.of _ _ _ ⟨HV.out.1.rd _, HV.out.2⟩)).trans (congrArg some HH.out)); rintro ed W2 ⟨v_, rfl, hR, hb⟩; have HO := Aside0.mk (Kd.R_lower hR HB.out.size); have HB2 := Aside0.mk (below_then HB.out HB.out.size hb); clear hR hb))
      go_ret2
      exact ⟨_, rfl, HO.out, HB2.out⟩
    · rw [if_neg hp1] at h
      cases h
      have HX0 : Aside0 ((((w.alloc (Obj.cells #[Value.slice A0 l0.length c0] 26)).alloc (Obj.cells #[Value.int .i64 a1] 2)).alloc (Obj.cells #[Value.int .i64 a2] 3)).cell? ⟨w.heap.size, 0, none⟩ = some (.slice A0 l0.length c0)) := ⟨by simp [go_sem]⟩
      have HX1 : Aside0 ((((w.alloc (Obj.cells #[Value.slice A0 l0.length c0] 26)).alloc (Obj.cells #[Value.int .i64 a1] 2)).alloc (Obj.cells #[Value.int .i64 a2] 3)).cell? ⟨w.heap.size + 1, 0, none⟩ = some (.int .i64 a1)) := ⟨by simp [go_sem]⟩
      have HX2 : Aside0 ((((w.alloc (Obj.cells #[Value.slice A0 l0.length c0] 26)).alloc (Obj.cells #[Value.int .i64 a1] 2)).alloc (Obj.cells #[Value.int .i64 a2] 3)).cell? ⟨w.heap.size + 2, 0, none⟩ = some (.int .i64 a2)) := ⟨by simp [go_sem]⟩
      have HB : Aside0 (Below w.heap.size w (((w.alloc (Obj.cells #[Value.slice A0 l0.length c0] 26)).alloc (Obj.cells #[Value.int .i64 a1] 2)).alloc (Obj.cells #[Value.int .i64 a2] 3))) := ⟨zzA (zzA (zzA (Below.refl _ _) _) _) _⟩
      have he0 : (fracE a2 == 0) = false := beq_eq_false_iff_ne.2 hp1
      have he1 : (fracE a2 != 0) = true := bne_iff_ne.2 hp1
      obtain ⟨e_, hE⟩ : ∃ e_ : Int, fracE a2 = e_ := ⟨_, rfl⟩
      rw [hE] at HP1 he0 he1
      simp only [hE]
      clear hE hp1
      go_enter Try.func31, Try.ntmps31
      go_wp2_with (first | (go_at_call 25; (with_reducible refine (vec_Check.calls A0 c0 l0 0 _ (Kd.C_below HR0.out HB.out) HC0.out HP0.out).mono ?_); rintro ed W1 ⟨rfl, hd⟩; have hb := hd.below; clear hd; have HB := Aside0.mk (below_then HB.out HB.out.size hb); have HX0 := Aside0.mk (pw_cell_below hb HX0.out); have HX1 := Aside0.mk (pw_cell_below hb HX1.out); have HX2 := Aside0.mk (pw_cell_below hb HX2.out); have hx0 := HX0.out; have hx1 := HX1.out; have hx2 := HX2.out; clear hb) | (go_at_call 51; (with_reducible refine (vec_behind.calls a2 e_ _ HP1.out).mono ?_); rintro ed W1 ⟨rfl, hd⟩; have hb := hd; clear hd; have HB := Aside0.mk (below_then HB.out HB.out.size hb); have HX0 := Aside0.mk (pw_cell_below hb HX0.out); have HX1 := Aside0.mk (pw_cell_below hb HX1.out); have HX2 := Aside0.mk (pw_cell_below hb HX2.out); have hx0 := HX0.out; have hx1 := HX1.out; have hx2 := HX2.out; clear hb))
      go_ret2
      exact ⟨_, rfl, Kd.R_nil _ _ _ _ _, HB.out⟩
  · rw [if_neg hp0] at h
    cases h
    have HX0 : Aside0 ((((w.alloc (Obj.cells #[Value.slice A0 l0.length c0] 26)).alloc (Obj.cells #[Value.int .i64 a1] 2)).alloc (Obj.cells #[Value.int .i64 a2] 3)).cell? ⟨w.heap.size, 0, none⟩ = some (.slice A0 l0.length c0)) := ⟨by simp [go_sem]⟩
    have HX1 : Aside0 ((((w.alloc (Obj.cells #[Value.slice A0 l0.length c0] 26)).alloc (Obj.cells #[Value.int .i64 a1] 2)).alloc (Obj.cells #[Value.int .i64 a2] 3)).cell? ⟨w.heap.size + 1, 0, none⟩ = some (.int .i64 a1)) := ⟨by simp [go_sem]⟩
    have HX2 : Aside0 ((((w.alloc (Obj.cells #[Value.slice A0 l0.length c0] 26)).alloc (Obj.cells #[Value.int .i64 a1] 2)).alloc (Obj.cells #[Value.int .i64 a2] 3)).cell? ⟨w.heap.size + 2, 0, none⟩ = some (.int .i64 a2)) := ⟨by simp [go_sem]⟩
    have HB : Aside0 (Below w.heap.size w (((w.alloc (Obj.cells #[Value.slice A0 l0.length c0] 26)).alloc (Obj.cells #[Value.int .i64 a1] 2)).alloc (Obj.cells #[Value.int .i64 a2] 3))) := ⟨zzA (zzA (zzA (Below.refl _ _) _) _) _⟩
    have he0 : (checkE l0 == 0) = false := beq_eq_false_iff_ne.2 hp0
    have he1 : (checkE l0 != 0) = true := bne_iff_ne.2 hp0
    obtain ⟨e_, hE⟩ : ∃ e_ : Int, checkE l0 = e_ := ⟨_, rfl⟩
    rw [hE] at HP0 he0 he1
    simp only [hE]
    clear hE hp0
    go_enter Try.func31, Try.ntmps31
    go_wp2_with (first | (go_at_call 25; (with_reducible refine (vec_Check.calls A0 c0 l0 e_ _ (Kd.C_below HR0.out HB.out) HC0.out HP0.out).mono ?_); rintro ed W1 ⟨rfl, hd⟩; have hb := hd.below; clear hd; have HB := Aside0.mk (below_then HB.out HB.out.size hb); have HX0 := Aside0.mk (pw_cell_below hb HX0.out); have HX1 := Aside0.mk (pw_cell_below hb HX1.out); have HX2 := Aside0.mk (pw_cell_below hb HX2.out); have hx0 := HX0.out; have hx1 := HX1.out; have hx2 := HX2.out; clear hb))
    go_ret2
    exact ⟨_, rfl, Kd.R_nil _ _ _ _ _, HB.out⟩


-- NOT PRINTED: function 30 (linear_Grad_1)

/-! ### slices_Clone_int64_int64: function 79 -/
def slices_Clone_int64_int64.f (l0 : List Int) : Option (List Int) := if l0.length < 17592186044416 then some l0 else none
theorem slices_Clone_int64_int64.of (l0 : List Int)  (h_ : l0.length < 17592186044416) : slices_Clone_int64_int64.f l0 = some l0 := if_pos h_
set_option maxHeartbeats 2000000 in
set_option maxRecDepth 100000 in
theorem slices_Clone_int64_int64.calls (A0 : Option Addr) (c0 : Nat) (l0 : List Int) (r : List Int) (w : World) (hr0 : Kd.C (Kd.int .i64) w A0 l0.length l0) (hc0 : l0.length ≤ c0) (h : slices_Clone_int64_int64.f l0 = some r) :
    Calls Try.prog 79 #[.slice A0 l0.length c0] w fun e w' => ∃ v0_ : Value, e = .returned (v0_) ∧ Kd.R (Kd.int .i64) 2 w' w.heap.size (fun _ => True) v0_ r ∧ Below w.heap.size w w' := by
  unfold slices_Clone_int64_int64.f at h
  split at h
  case isFalse => cases h
  rename_i hl
  cases h
  have hu := Try.underlying26
  have hq : ∀ W : World, (Go.binOp .eql 26 (.slice A0 l0.length c0) (.slice none 0 0)).run Try.prog W = .ok (.bool A0.isNone) W := fun W => Go.Lib.run_eql_slice_nil W 26 2 A0 l0.length c0 0 0 hu
  by_cases hA : A0 = none
  · subst hA
    have hn : l0 = [] := by
      cases l0 with
      | nil => rfl
      | cons x l => obtain ⟨ad, e, _⟩ := Kd.at_int hr0 0 (by omega) (by simp); cases e
    subst hn
    have HR := Aside0.mk hr0
    clear hr0
    simp only [Option.isNone_none, List.length_nil] at hq
    go_enter Try.func79, Try.ntmps79
    go_wp2
    go_ret
    exact ⟨_, rfl, Kd.R_nil _ _ _ _ _, Below.refl _ _⟩
  · have hA : A0.isNone = false := by cases A0 <;> simp_all
    simp only [hA] at hq
    have HR := Aside0.mk hr0
    have HL := Aside0.mk hl
    clear hr0 hl
    go_enter Try.func79, Try.ntmps79
    have ho := own_made w w.heap.size 2 .i64 0 (Nat.le_refl _) (by omega)
    rw [show madeCells #[Value.int .i64 0] 0 = #[] by simp [madeCells]] at ho
    have HO : Aside0 (Kd.R (Kd.int .i64) 2 (w.alloc (Obj.cells #[] 2)) w.heap.size (fun _ => True) (.slice (some ⟨w.heap.size, 0, none⟩) 0 0) ([] : List Int)) := ⟨Kd.R_of_own (enc := Value.int .i64) (h1 := fun _ => rfl) (xs := ([] : List Int)) ho (fun _ _ => trivial)⟩
    clear ho
    go_wp2_with ((with_reducible refine gate_builtin (b := .append) (xs := #[.tmp 5, .tmp 6]) rfl ?_); at_builtin; refine Kd.R_append_rows (Kd.int .i64) (w0 := w) w.heap.size rfl (.tmp 5) (.tmp 6) 26 2 (.int .i64 0) 8 rfl Try.underlying26 info2 rfl (by decide) (by omega) (.slice (some ⟨w.heap.size, 0, none⟩) 0 0) ([] : List Int) l0 _ _ _ (fun _ => True) (fun _ => False) rfl rfl ?aO ?aR (fun _ _ h => h) (fun _ h => h.elim) ?aF ?aB ?aS ?aL ?_; (case aO => exact HO.out); (case aR => exact ccA HR.out _); (case aF => exact fun _ _ => trivial); (case aB => exact zzA (Below.refl _ _) _); (case aS => simp); (case aL => have := HL.out; simp only [List.length_nil]; omega); intro v1 w2 ho hb hg hat; have HO2 := Aside0.mk ho; have HB2 := Aside0.mk hb; clear ho hb hg hat)
    go_ret
    exact ⟨_, rfl, HO2.out, HB2.out⟩


-- NOT PRINTED: function 95 (vec_Add_1)

/-! ### vec_Add: function 80 -/
set_option maxHeartbeats 2000000 in
set_option maxRecDepth 100000 in
theorem vec_Add_1.calls (b1 b2 : Nat) (A0 : Option Addr) (c0 : Nat) (l0 : List Int) (A1 : Option Addr) (c1 : Nat) (l1 : List Int) (i : Nat) (W : World) (x e : Int)
    (hb1 : W.cell? ⟨b1, 0, none⟩ = some (.slice A0 l0.length c0)) (hb2 : W.cell? ⟨b2, 0, none⟩ = some (.slice A1 l1.length c1))
    (hr0 : Kd.C (Kd.int .i64) W A0 l0.length l0) (hr1 : Kd.C (Kd.int .i64) W A1 l1.length l1) (h0 : i < l0.length) (h1 : i < l1.length)
    (h : fix_Add.f (rd l0 i) (rd l1 i) = some (x, e)) :
    Calls Try.prog 95 #[.int .i64 i, .pointer (some ⟨b1, 0, none⟩), .pointer (some ⟨b2, 0, none⟩)] W fun ed W' => ed = .returned (.tuple #[.int .i64 x, .int .i64 e]) ∧ Drawn0 W W' := by
  obtain ⟨ad0, rfl, hc0⟩ := Kd.at_int hr0 (i : Int) (by omega) (by omega)
  obtain ⟨ad1, rfl, hc1⟩ := Kd.at_int hr1 (i : Int) (by omega) (by omega)
  simp only [Int.toNat_natCast] at hc0 hc1
  have HC := Aside0.mk h
  clear hr0 hr1 h
  go_enter Try.func95, Try.ntmps95
  go_wp2
  go_quiet ((go_at_call 44; (with_reducible refine (fix_Add.calls (rd l0 i) (rd l1 i) x e _ HC.out).mono ?_); rintro ed W2 ⟨rfl, ⟨nd, rfl⟩⟩; (try first | exact ⟨rfl, _, wwN _ _ _⟩ | exact ⟨rfl, _, ww3 _ _ _ _⟩ | exact ⟨rfl, _, rfl⟩)))
  go_wp2
  go_ret2
  exact ⟨rfl, ⟨_, rfl⟩⟩
def vec_Add.f (l0 l1 : List Int) : Option (List Int × Int) := if V64 l0 ∧ V64 l1 then some (addV l0 l1) else none
theorem vec_Add.of (l0 l1 : List Int)  (h_ : V64 l0 ∧ V64 l1) : vec_Add.f l0 l1 = some (addV l0 l1) := if_pos h_
set_option maxHeartbeats 2000000 in
set_option maxRecDepth 100000 in
theorem vec_Add.calls (A0 : Option Addr) (c0 : Nat) (l0 : List Int) (A1 : Option Addr) (c1 : Nat) (l1 : List Int) (r1 : List Int) (r2 : Int) (w : World) (hr0 : Kd.C (Kd.int .i64) w A0 l0.length l0) (hc0 : l0.length ≤ c0) (hr1 : Kd.C (Kd.int .i64) w A1 l1.length l1) (hc1 : l1.length ≤ c1) (h : vec_Add.f l0 l1 = some (r1, r2)) :
    Calls Try.prog 80 #[.slice A0 l0.length c0, .slice A1 l1.length c1] w fun e w' => ∃ v0_ : Value, e = .returned (.tuple #[v0_, .int .i64 r2]) ∧ Kd.R (Kd.int .i64) 2 w' w.heap.size (fun _ => True) v0_ r1 ∧ Below w.heap.size w w' := by
  unfold vec_Add.f at h
  split at h
  case isFalse => cases h
  rename_i hv
  have h := Option.some.inj h
  unfold addV at h
  have HR0 := Aside0.mk hr0
  have HC0 := Aside0.mk hc0
  have HR1 := Aside0.mk hr1
  have HC1 := Aside0.mk hc1
  clear hr0 hc0 hr1 hc1
  have HV := Aside0.mk hv
  clear hv
  try have hu26 := Try.underlying26
  have HP0 : Aside0 (vec_pair.f l0 l1 = some (pairE l0 l1)) := ⟨rfl⟩
  by_cases hp0 : pairE l0 l1 = 0
  · rw [if_pos hp0] at h
    rw [hp0] at HP0
    have HL : Aside0 (l0.length = l1.length) := ⟨pairE_len hp0⟩
    have HN : Aside0 (l0.length ≤ 4096) := ⟨pairE_le hp0⟩
    have HH := Aside0.mk h
    clear h hp0
    have HX0 : Aside0 (((w.alloc (Obj.cells #[Value.slice A0 l0.length c0] 26)).alloc (Obj.cells #[Value.slice A1 l1.length c1] 26)).cell? ⟨w.heap.size, 0, none⟩ = some (.slice A0 l0.length c0)) := ⟨by simp [go_sem]⟩
    have HX1 : Aside0 (((w.alloc (Obj.cells #[Value.slice A0 l0.length c0] 26)).alloc (Obj.cells #[Value.slice A1 l1.length c1] 26)).cell? ⟨w.heap.size + 1, 0, none⟩ = some (.slice A1 l1.length c1)) := ⟨by simp [go_sem]⟩
    have HB : Aside0 (Below w.heap.size w ((w.alloc (Obj.cells #[Value.slice A0 l0.length c0] 26)).alloc (Obj.cells #[Value.slice A1 l1.length c1] 26))) := ⟨zzA (zzA (Below.refl _ _) _) _⟩
    go_enter Try.func80, Try.ntmps80
    go_wp2_with (first | (go_at_call 70; (with_reducible refine (vec_pair.calls A0 c0 l0 A1 c1 l1 0 _ (Kd.C_below HR0.out HB.out) HC0.out (Kd.C_below HR1.out HB.out) HC1.out HP0.out).mono ?_); rintro ed W1 ⟨rfl, hd⟩; have hb := hd; clear hd; have HB := Aside0.mk (below_then HB.out HB.out.size hb); have HX0 := Aside0.mk (pw_cell_below hb HX0.out); have HX1 := Aside0.mk (pw_cell_below hb HX1.out); have hx0 := HX0.out; have hx1 := HX1.out; clear hb) | (go_at_call 48; (with_reducible refine (vec_each.calls 95 _ (fun i : Nat => fix_Add.f (rd l0 i) (rd l1 i)) l0.length (by have := HN.out; omega) _ r1 r2 ?ent ?tells ?go).mono ?_); (case ent => exact enters_of Try.func95 rfl rfl); (case tells => intro i W x e hi hb hg; refine (vec_Add_1.calls (w.heap.size) (w.heap.size + 1) A0 c0 l0 A1 c1 l1 i W x e (pw_cell_below hb HX0.out) (pw_cell_below hb HX1.out) (Kd.C_below (Kd.C_below HR0.out HB.out) hb) (Kd.C_below (Kd.C_below HR1.out HB.out) hb) (by have := HL.out; omega) (by have := HL.out; omega) hg).mono ?_; rintro ed W' ⟨rfl, hd⟩; exact ⟨rfl, hd.below⟩); (case go => exact (each_spec (ps := List.zipWith (fun x y => res (x + y)) l0 l1) (by have := HL.out; rw [List.length_zipWith]; omega) (fun j h => by rw [zip_get _ _ HL.out j h]; exact fix_Add.of _ _ ⟨HV.out.1.rd _, HV.out.2.rd _⟩)).trans (congrArg some HH.out)); rintro ed W2 ⟨v_, rfl, hR, hb⟩; have HO := Aside0.mk (Kd.R_lower hR HB.out.size); have HB2 := Aside0.mk (below_then HB.out HB.out.size hb); clear hR hb))
    go_ret2
    exact ⟨_, rfl, HO.out, HB2.out⟩
  · rw [if_neg hp0] at h
    cases h
    have HX0 : Aside0 (((w.alloc (Obj.cells #[Value.slice A0 l0.length c0] 26)).alloc (Obj.cells #[Value.slice A1 l1.length c1] 26)).cell? ⟨w.heap.size, 0, none⟩ = some (.slice A0 l0.length c0)) := ⟨by simp [go_sem]⟩
    have HX1 : Aside0 (((w.alloc (Obj.cells #[Value.slice A0 l0.length c0] 26)).alloc (Obj.cells #[Value.slice A1 l1.length c1] 26)).cell? ⟨w.heap.size + 1, 0, none⟩ = some (.slice A1 l1.length c1)) := ⟨by simp [go_sem]⟩
    have HB : Aside0 (Below w.heap.size w ((w.alloc (Obj.cells #[Value.slice A0 l0.length c0] 26)).alloc (Obj.cells #[Value.slice A1 l1.length c1] 26))) := ⟨zzA (zzA (Below.refl _ _) _) _⟩
    have he0 : (pairE l0 l1 == 0) = false := beq_eq_false_iff_ne.2 hp0
    have he1 : (pairE l0 l1 != 0) = true := bne_iff_ne.2 hp0
    obtain ⟨e_, hE⟩ : ∃ e_ : Int, pairE l0 l1 = e_ := ⟨_, rfl⟩
    rw [hE] at HP0 he0 he1
    simp only [hE]
    clear hE hp0
    go_enter Try.func80, Try.ntmps80
    go_wp2_with (first | (go_at_call 70; (with_reducible refine (vec_pair.calls A0 c0 l0 A1 c1 l1 e_ _ (Kd.C_below HR0.out HB.out) HC0.out (Kd.C_below HR1.out HB.out) HC1.out HP0.out).mono ?_); rintro ed W1 ⟨rfl, hd⟩; have hb := hd; clear hd; have HB := Aside0.mk (below_then HB.out HB.out.size hb); have HX0 := Aside0.mk (pw_cell_below hb HX0.out); have HX1 := Aside0.mk (pw_cell_below hb HX1.out); have hx0 := HX0.out; have hx1 := HX1.out; clear hb))
    go_ret2
    exact ⟨_, rfl, Kd.R_nil _ _ _ _ _, HB.out⟩


end Go.Proofs.Ytbnfejaeekljcaa.HD
