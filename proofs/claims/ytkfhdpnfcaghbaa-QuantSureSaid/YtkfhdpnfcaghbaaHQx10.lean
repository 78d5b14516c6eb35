/- What Go functions do, each as a plain Lean function with the same answers, and the proof of it, in every world: printed by the session's driver over the kit's print, with texts by hand. -/
import Derived.Test.YtkfhdpnfcaghbaaHQx0
import Derived.Test.YtkfhdpnfcaghbaaHQx1
import Derived.Test.YtkfhdpnfcaghbaaHQx9
namespace Go.Proofs.Ytkfhdpnfcaghbaa.HQ
open Go.RowKit Go.Proofs.YtkfhdpnfcaghbaaW.PrintWords Go.Proofs.YtkfhdpnfcaghbaaW.PrintLast Go.Proofs.YtkfhdpnfcaghbaaW.PrintMore
attribute [local go_sem] max2_int min2_int max_two min_two max_three min_three max_four min_four   -- for this text's walks alone
open Go.Proofs.Ytkfhdpnfcaghbaa.Sp
attribute [local go_sem] Go.Proofs.Ytkfhdpnfcaghbaa.Sp.u64_not
set_option linter.unusedVariables false
set_option linter.unusedSimpArgs false

/-! ### slices_IndexFunc_uint64_uint64: function 126 -/
set_option maxHeartbeats 2000000 in
set_option maxRecDepth 100000 in
theorem slices_IndexFunc_uint64_uint64.gen (K : Nat) (caps : Array Value) (g : Int → Bool) (A0 : Option Addr) (c0 : Nat) (l0 : List Int) (w : World)
    (hent : ∀ (args : Array Value) (w : World), (callFunc K args).run Try.prog w = .ok (.enter K args) w)
    (hr0 : Kd.C (Kd.int .u64) w A0 l0.length l0)
    (H : TellsD Try.prog K caps l0.length (fun i => Value.int .u64 (l0.getD i default)) (fun i => Value.bool (g (l0.getD i default))) w) :
    Calls Try.prog 126 #[.slice A0 l0.length c0, .func (.func K) #[] caps] w fun e w' => (∃ r : Int, e = .returned (.int .i64 r) ∧ decide (0 ≤ r) = l0.any g) ∧ Drawn0 w w' := by
  have hm := Kd.C_max hr0
  have HH := Aside0.mk H
  have HR := Aside0.mk hr0
  clear H hr0
  go_enter Try.func126, Try.ntmps126
  go_wp2_with fail
  go_loopw [8] (fun i W => ∃ (k m : Nat), i = .int .i64 k ∧ W = w.drewN m ∧ Aside0 (k ≤ l0.length) ∧ Aside0 ((l0.take k).any g = false)) (fun i _ => l0.length - (intOf i).toNat)
  case atStart => exact ⟨0, 0, rfl, rfl, ⟨Nat.zero_le _⟩, ⟨by simp⟩⟩
  case round =>
    obtain ⟨k, m, rfl, rfl, ⟨hk⟩, HN⟩ := hrel
    by_cases hlt : k < l0.length
    · obtain ⟨ad, rfl, hc⟩ := Kd.at_int HR.out (k : Int) (by omega) (by omega)
      simp only [Int.toNat_natCast] at hc
      rw [show rd l0 (k : Int) = l0.getD k default from rfl] at hc
      obtain ⟨x, hx⟩ : ∃ x, l0.getD k default = x := ⟨_, rfl⟩
      have hxe : l0[k] = x := by rw [← hx]; simp [List.getD_eq_getElem?_getD, List.getElem?_eq_getElem hlt]
      have hcl := HH.out k m hlt
      simp only [hx] at hcl hc
      by_cases hg : g x = true
      · rw [hg] at hcl
        have HC := Aside0.mk hcl
        have HA : Aside0 (l0.any g = true) := ⟨List.any_eq_true.2 ⟨x, by rw [← hxe]; exact List.getElem_mem hlt, hg⟩⟩
        clear hcl hx hxe hg
        go_wp2_with (go_at_fn K; refine HC.out.mono ?_; rintro ed W1 ⟨rfl, ⟨nd, rfl⟩⟩)
        go_ret
        exact ⟨⟨_, rfl, by rw [HA.out]; exact decide_eq_true (Int.natCast_nonneg _)⟩, by first | exact ⟨_, rfl⟩ | exact ⟨_, wwN _ _ _⟩⟩
      · have hgf : g x = false := by simpa using hg
        rw [hgf] at hcl
        have HC := Aside0.mk hcl
        have HA : Aside0 ((l0.take (k + 1)).any g = false) := ⟨by rw [List.take_add_one, List.getElem?_eq_getElem hlt, List.any_append, HN.out]; simp [hxe, hgf]⟩
        clear hcl hx hxe hg hgf hk
        go_wp2_with (go_at_fn K; refine HC.out.mono ?_; rintro ed W1 ⟨rfl, ⟨nd, rfl⟩⟩)
        exact ⟨⟨k + 1, m + nd, by first | rfl | (rw [wrap64_of (show I64 ((k : Int) + 1) by unfold I64; omega)]; rfl), by first | rfl | exact wwN _ _ _, ⟨hlt⟩, HA⟩, by (try rw [wrap64_of (show I64 ((k : Int) + 1) by unfold I64; omega)]); simp [intOf]; omega⟩
    · have hkn : k = l0.length := by omega
      subst hkn
      have HA := HN.out
      rw [List.take_length] at HA
      have HA := Aside0.mk HA
      clear hk
      go_wp2
      go_ret
      exact ⟨⟨_, rfl, by rw [HA.out]; rfl⟩, ⟨_, rfl⟩⟩


/-! ### slices_ContainsFunc_uint64_uint64: function 115 -/
set_option maxHeartbeats 2000000 in
set_option maxRecDepth 100000 in
theorem slices_ContainsFunc_uint64_uint64.gen (K : Nat) (caps : Array Value) (g : Int → Bool) (A0 : Option Addr) (c0 : Nat) (l0 : List Int) (w : World)
    (hent : ∀ (args : Array Value) (w : World), (callFunc K args).run Try.prog w = .ok (.enter K args) w)
    (hr0 : Kd.C (Kd.int .u64) w A0 l0.length l0)
    (H : TellsD Try.prog K caps l0.length (fun i => Value.int .u64 (l0.getD i default)) (fun i => Value.bool (g (l0.getD i default))) w) :
    Calls Try.prog 115 #[.slice A0 l0.length c0, .func (.func K) #[] caps] w fun e w' => e = .returned (.bool (l0.any g)) ∧ Drawn0 w w' := by
  have HH := Aside0.mk H
  have HR := Aside0.mk hr0
  have HE := Aside0.mk hent
  clear H hr0 hent
  go_enter Try.func115, Try.ntmps115
  go_wp2_with (go_at_call 126; (with_reducible refine (slices_IndexFunc_uint64_uint64.gen K caps g A0 c0 l0 _ HE.out HR.out HH.out).mono ?_); rintro ed W2 ⟨⟨r, rfl, hr⟩, ⟨nd, rfl⟩⟩; have HRR := Aside0.mk hr; clear hr)
  go_ret
  exact ⟨by rw [← HRR.out]; rfl, ⟨_, rfl⟩⟩


/-! ### plane_Width: function 117 -/
def plane_Width.f (a0 : Int) : Option (Int) := (bits_Len64.f a0).bind fun t170 => (some t170)
set_option maxHeartbeats 8000000 in
set_option maxRecDepth 100000 in
theorem plane_Width.calls (a0 : Int) (r : Int) (w : World) (h : plane_Width.f a0 = some r) :
  Calls Try.prog 117 #[.int .u64 a0] w fun e w' => e = .returned (.int .i64 r) ∧ Drawn0 w w' := by
 have H : ((bits_Len64.f a0).bind fun t170 => (some t170)) = some r := h
 clear h
 replace H := Option.bind_eq_some_iff.mp H
 obtain ⟨t170, A20, H⟩ := H
 replace H : (some t170) = some r := H
 have A2 := Aside0.mk A20
 clear A20
 obtain rfl := Option.some.inj H
 go_enter Try.func117, Try.ntmps117
 go_wp2_with (first | ((with_reducible refine gate_callee (f := 122) rfl ?_); refine goesL_ (some 4) rfl rfl Try.func122 (by kernel_rfl) rfl #[.int .u64 a0] rfl (by (try simp only [List.map_toArray, List.map_cons, List.map_nil]); first | done | rfl | (simp only [List.length_drop, List.length_take]; rfl)) ?_; (with_reducible refine (bits_Len64.calls a0 t170 _ A2.out).mono ?_); rintro e w' ⟨rfl, ⟨nd, rfl⟩⟩; refine ⟨_, rfl, ?_⟩))
 go_ret
 exact ⟨by first | rfl | (simp; done) | (simp [*]; done), by repeat (first | exact ddR _ | apply ddS)⟩

theorem plane_Width.of (n : Int) (h : U64 n) : plane_Width.f n = some (bl n.toNat : Int) := by
  unfold plane_Width.f
  rw [bits_Len64.of n h]; rfl


-- NOT PRINTED: function 116 (frame_bare_1)

/-! ### frame_bare: function 94 -/
theorem setCell_drewN_ (X : World) (n : Nat) (a : Addr) (v : Value) : (X.drewN n).setCell a v = (X.setCell a v).drewN n := rfl
attribute [local go_sem] setCell_drewN_
set_option maxHeartbeats 4000000 in
set_option maxRecDepth 100000 in
theorem frame_bare_1.calls (b : Nat) (n wide m : Int) (W : World) (hb : W.cell? ⟨b, 5, none⟩ = some (.int .i64 wide)) (h : plane_Width.f n = some m) :
    Calls Try.prog 116 #[.int .u64 n, .pointer (some ⟨b, 0, none⟩)] W fun ed W' => ed = .returned (.bool (decide (wide < m))) ∧ Drawn0 W W' := by
  have hu := Try.underlying30
  have HC := Aside0.mk h
  clear h
  go_enter Try.func116, Try.ntmps116
  go_wp2
  go_quiet ((go_at_call 117; (with_reducible refine (plane_Width.calls n m _ HC.out).mono ?_); rintro ed W2 ⟨rfl, ⟨nd, rfl⟩⟩; (try first | exact ⟨rfl, _, wwN _ _ _⟩ | exact ⟨rfl, _, ww3 _ _ _ _⟩ | exact ⟨rfl, _, rfl⟩)))
  go_wp2
  go_ret
  exact ⟨rfl, ⟨_, rfl⟩⟩
set_option maxHeartbeats 4000000 in
set_option maxRecDepth 100000 in
theorem frame_bare.d (a0_0 a0_1 : Int) (A0_2 : Option Addr) (c0_2 : Nat) (l0_2 : List Int) (A0_3 : Option Addr) (c0_3 : Nat) (l0_3 : List Int) (a0_4 a0_5 : Int) (A0_6 : Option Addr) (c0_6 : Nat) (l0_6 : List Int) (A0_7 : Option Addr) (c0_7 : Nat) (l0_7 : List Bool) (w : World) (hr0_2 : Kd.C (Kd.int .i64) w A0_2 l0_2.length l0_2) (hc0_2 : l0_2.length ≤ c0_2) (hr0_3 : Kd.C (Kd.int .i64) w A0_3 l0_3.length l0_3) (hc0_3 : l0_3.length ≤ c0_3) (hr0_6 : Kd.C (Kd.int .u64) w A0_6 l0_6.length l0_6) (hc0_6 : l0_6.length ≤ c0_6) (hr0_7 : Kd.C Kd.bool w A0_7 l0_7.length l0_7) (hc0_7 : l0_7.length ≤ c0_7) (h0 : a0_0 = 0) :
    Calls Try.prog 94 #[.agg #[.int .i64 a0_0, .int .i64 a0_1, .slice A0_2 l0_2.length c0_2, .slice A0_3 l0_3.length c0_3, .int .i64 a0_4, .int .i64 a0_5, .slice A0_6 l0_6.length c0_6, .slice A0_7 l0_7.length c0_7]] w fun e w' => e = .returned (.tuple #[.agg #[.int .i64 0, .int .i64 0, .slice A0_2 l0_2.length c0_2, .slice none 0 0, .int .i64 a0_4, .int .i64 a0_5, .slice A0_6 l0_6.length c0_6, .slice A0_7 l0_7.length c0_7], .bool (decide ((0 < a0_1 ∧ a0_1 ≤ 4096) ∧ (l0_3.length : Int) = a0_1))]) ∧ Below w.heap.size w w' := by
  have HR2 := Aside0.mk hr0_2
  have HC2 := Aside0.mk hc0_2
  have HR6 := Aside0.mk hr0_6
  have HC6 := Aside0.mk hc0_6
  clear hr0_2 hc0_2 hr0_3 hc0_3 hr0_6 hc0_6 hr0_7 hc0_7
  have hu := Try.underlying30
  subst h0
  rcases Bool.eq_false_or_eq_true (decide (0 < a0_1)) with c1 | c1
  · have C1 := Aside0.mk c1
    rcases Bool.eq_false_or_eq_true (decide (a0_1 ≤ 4096)) with c2 | c2
    · have C2 := Aside0.mk c2
      rcases Bool.eq_false_or_eq_true ((l0_3.length : Int) == a0_1) with c3 | c3
      · have C3 := Aside0.mk c3
        go_enter Try.func94, Try.ntmps94
        go_wp2
        (try simp only [Exit.inBlock, Exit.then])
        refine bodyPost_ret (results_ct rfl _ _ (w.heap.size + 1) 30 #[.int .i64 0, .int .i64 0, .slice A0_2 l0_2.length c0_2, .slice none 0 0, .int .i64 a0_4, .int .i64 a0_5, .slice A0_6 l0_6.length c0_6, .slice A0_7 l0_7.length c0_7] (0, 0) _ rfl (heap_mid w _ _ _) Try.underlying30 rfl (by kernel_rfl)) rfl ?_
        refine ⟨?_, by repeat (first | exact Below.refl _ _ | apply zzA | apply zzN)⟩
        have zc1 := C1.out
        have zc2 := C2.out
        have zc3 := C3.out
        simp only [decide_eq_true_eq, decide_eq_false_iff_not, beq_iff_eq, beq_eq_false_iff_ne, List.any_eq_true, List.any_eq_false, ne_eq] at zc1 zc2 zc3
        rw [decide_eq_true (show (0 < a0_1 ∧ a0_1 ≤ 4096) ∧ (l0_3.length : Int) = a0_1 from by first | omega | (refine ⟨?_, ?_⟩ <;> first | omega | simp_all))]
        rfl
      · have C3 := Aside0.mk c3
        go_enter Try.func94, Try.ntmps94
        go_wp2
        (try simp only [Exit.inBlock, Exit.then])
        refine bodyPost_ret (results_ct rfl _ _ (w.heap.size + 1) 30 #[.int .i64 0, .int .i64 0, .slice A0_2 l0_2.length c0_2, .slice none 0 0, .int .i64 a0_4, .int .i64 a0_5, .slice A0_6 l0_6.length c0_6, .slice A0_7 l0_7.length c0_7] (0, 0) _ rfl (heap_mid w _ _ _) Try.underlying30 rfl (by kernel_rfl)) rfl ?_
        refine ⟨?_, by repeat (first | exact Below.refl _ _ | apply zzA | apply zzN)⟩
        have zc1 := C1.out
        have zc2 := C2.out
        have zc3 := C3.out
        simp only [decide_eq_true_eq, decide_eq_false_iff_not, beq_iff_eq, beq_eq_false_iff_ne, List.any_eq_true, List.any_eq_false, ne_eq] at zc1 zc2 zc3
        rw [decide_eq_false (show ¬ ((0 < a0_1 ∧ a0_1 ≤ 4096) ∧ (l0_3.length : Int) = a0_1) from by first | omega | (intro hh; simp_all; done) | (intro hh; simp_all; omega))]
        rfl
    · have C2 := Aside0.mk c2
      go_enter Try.func94, Try.ntmps94
      go_wp2
      (try simp only [Exit.inBlock, Exit.then])
      refine bodyPost_ret (results_ct rfl _ _ (w.heap.size + 1) 30 #[.int .i64 0, .int .i64 0, .slice A0_2 l0_2.length c0_2, .slice none 0 0, .int .i64 a0_4, .int .i64 a0_5, .slice A0_6 l0_6.length c0_6, .slice A0_7 l0_7.length c0_7] (0, 0) _ rfl (heap_mid w _ _ _) Try.underlying30 rfl (by kernel_rfl)) rfl ?_
      refine ⟨?_, by repeat (first | exact Below.refl _ _ | apply zzA | apply zzN)⟩
      have zc1 := C1.out
      have zc2 := C2.out
      simp only [decide_eq_true_eq, decide_eq_false_iff_not, beq_iff_eq, beq_eq_false_iff_ne, List.any_eq_true, List.any_eq_false, ne_eq] at zc1 zc2
      rw [decide_eq_false (show ¬ ((0 < a0_1 ∧ a0_1 ≤ 4096) ∧ (l0_3.length : Int) = a0_1) from by first | omega | (intro hh; simp_all; done) | (intro hh; simp_all; omega))]
      rfl
  · have C1 := Aside0.mk c1
    go_enter Try.func94, Try.ntmps94
    go_wp2
    (try simp only [Exit.inBlock, Exit.then])
    refine bodyPost_ret (results_ct rfl _ _ (w.heap.size + 1) 30 #[.int .i64 0, .int .i64 0, .slice A0_2 l0_2.length c0_2, .slice none 0 0, .int .i64 a0_4, .int .i64 a0_5, .slice A0_6 l0_6.length c0_6, .slice A0_7 l0_7.length c0_7] (0, 0) _ rfl (heap_mid w _ _ _) Try.underlying30 rfl (by kernel_rfl)) rfl ?_
    refine ⟨?_, by repeat (first | exact Below.refl _ _ | apply zzA | apply zzN)⟩
    have zc1 := C1.out
    simp only [decide_eq_true_eq, decide_eq_false_iff_not, beq_iff_eq, beq_eq_false_iff_ne, List.any_eq_true, List.any_eq_false, ne_eq] at zc1
    rw [decide_eq_false (show ¬ ((0 < a0_1 ∧ a0_1 ≤ 4096) ∧ (l0_3.length : Int) = a0_1) from by first | omega | (intro hh; simp_all; done) | (intro hh; simp_all; omega))]
    rfl
set_option maxHeartbeats 4000000 in
set_option maxRecDepth 100000 in
theorem frame_bare.t (a0_0 a0_1 : Int) (A0_2 : Option Addr) (c0_2 : Nat) (l0_2 : List Int) (A0_3 : Option Addr) (c0_3 : Nat) (l0_3 : List Int) (a0_4 a0_5 : Int) (A0_6 : Option Addr) (c0_6 : Nat) (l0_6 : List Int) (A0_7 : Option Addr) (c0_7 : Nat) (l0_7 : List Bool) (w : World) (hr0_2 : Kd.C (Kd.int .i64) w A0_2 l0_2.length l0_2) (hc0_2 : l0_2.length ≤ c0_2) (hr0_3 : Kd.C (Kd.int .i64) w A0_3 l0_3.length l0_3) (hc0_3 : l0_3.length ≤ c0_3) (hr0_6 : Kd.C (Kd.int .u64) w A0_6 l0_6.length l0_6) (hc0_6 : l0_6.length ≤ c0_6) (hr0_7 : Kd.C Kd.bool w A0_7 l0_7.length l0_7) (hc0_7 : l0_7.length ≤ c0_7) (h0 : a0_0 = 1) :
    Calls Try.prog 94 #[.agg #[.int .i64 a0_0, .int .i64 a0_1, .slice A0_2 l0_2.length c0_2, .slice A0_3 l0_3.length c0_3, .int .i64 a0_4, .int .i64 a0_5, .slice A0_6 l0_6.length c0_6, .slice A0_7 l0_7.length c0_7]] w fun e w' => e = .returned (.tuple #[.agg #[.int .i64 0, .int .i64 0, .slice none 0 0, .slice none 0 0, .int .i64 a0_4, .int .i64 a0_5, .slice A0_6 l0_6.length c0_6, .slice A0_7 l0_7.length c0_7], .bool (decide (((0 < a0_1 ∧ a0_1 ≤ 4096) ∧ checkI a0_1 l0_2 = 0) ∧ (l0_2.length : Int) = (l0_3.length : Int)))]) ∧ Below w.heap.size w w' := by
  have HR2 := Aside0.mk hr0_2
  have HC2 := Aside0.mk hc0_2
  have HR6 := Aside0.mk hr0_6
  have HC6 := Aside0.mk hc0_6
  clear hr0_2 hc0_2 hr0_3 hc0_3 hr0_6 hc0_6 hr0_7 hc0_7
  have hu := Try.underlying30
  subst h0
  have HB : Aside0 (Below w.heap.size w (((w.alloc (Obj.cells #[Value.int .i64 1, Value.int .i64 a0_1, Value.slice A0_2 l0_2.length c0_2, Value.slice A0_3 l0_3.length c0_3, Value.int .i64 a0_4, Value.int .i64 a0_5, Value.slice A0_6 l0_6.length c0_6, Value.slice A0_7 l0_7.length c0_7] 30)).alloc (Obj.cells #[.int .i64 0, .int .i64 0, .slice none 0 0, .slice none 0 0, .int .i64 0, .int .i64 0, .slice none 0 0, .slice none 0 0] 30)).alloc (Obj.cells #[Value.int .i64 0, Value.int .i64 0, Value.slice A0_2 l0_2.length c0_2, Value.slice A0_3 l0_3.length c0_3, Value.int .i64 a0_4, Value.int .i64 a0_5, Value.slice A0_6 l0_6.length c0_6, Value.slice A0_7 l0_7.length c0_7] 30))) := ⟨zzA (zzA (zzA (Below.refl _ _) _) _) _⟩
  rcases Bool.eq_false_or_eq_true (decide (0 < a0_1)) with c1 | c1
  · have C1 := Aside0.mk c1
    rcases Bool.eq_false_or_eq_true (decide (a0_1 ≤ 4096)) with c2 | c2
    · have C2 := Aside0.mk c2
      rcases Bool.eq_false_or_eq_true (checkI a0_1 l0_2 == 0) with c4 | c4
      · have C4 := Aside0.mk c4
        rcases Bool.eq_false_or_eq_true ((l0_2.length : Int) == (l0_3.length : Int)) with c5 | c5
        · have C5 := Aside0.mk c5
          go_enter Try.func94, Try.ntmps94
          go_wp2_with (first | (go_at_call 114; (with_reducible refine (index_Check.calls a0_1 A0_2 c0_2 l0_2 _ _ (Kd.C_below HR2.out HB.out) HC2.out rfl).mono ?_); rintro ed W2 ⟨rfl, ⟨nd, rfl⟩⟩))
          (try simp only [Exit.inBlock, Exit.then])
          refine bodyPost_ret (results_ct rfl _ _ (w.heap.size + 1) 30 #[.int .i64 0, .int .i64 0, .slice none 0 0, .slice none 0 0, .int .i64 a0_4, .int .i64 a0_5, .slice A0_6 l0_6.length c0_6, .slice A0_7 l0_7.length c0_7] (0, 0) _ rfl (heap_mid w _ _ _) Try.underlying30 rfl (by kernel_rfl)) rfl ?_
          refine ⟨?_, by repeat (first | exact Below.refl _ _ | apply zzA | apply zzN)⟩
          have zc1 := C1.out
          have zc2 := C2.out
          have zc4 := C4.out
          have zc5 := C5.out
          simp only [decide_eq_true_eq, decide_eq_false_iff_not, beq_iff_eq, beq_eq_false_iff_ne, List.any_eq_true, List.any_eq_false, ne_eq] at zc1 zc2 zc4 zc5
          rw [decide_eq_true (show ((0 < a0_1 ∧ a0_1 ≤ 4096) ∧ checkI a0_1 l0_2 = 0) ∧ (l0_2.length : Int) = (l0_3.length : Int) from by first | omega | (refine ⟨?_, ?_⟩ <;> first | omega | simp_all))]
          rfl
        · have C5 := Aside0.mk c5
          go_enter Try.func94, Try.ntmps94
          go_wp2_with (first | (go_at_call 114; (with_reducible refine (index_Check.calls a0_1 A0_2 c0_2 l0_2 _ _ (Kd.C_below HR2.out HB.out) HC2.out rfl).mono ?_); rintro ed W2 ⟨rfl, ⟨nd, rfl⟩⟩))
          (try simp only [Exit.inBlock, Exit.then])
          refine bodyPost_ret (results_ct rfl _ _ (w.heap.size + 1) 30 #[.int .i64 0, .int .i64 0, .slice none 0 0, .slice none 0 0, .int .i64 a0_4, .int .i64 a0_5, .slice A0_6 l0_6.length c0_6, .slice A0_7 l0_7.length c0_7] (0, 0) _ rfl (heap_mid w _ _ _) Try.underlying30 rfl (by kernel_rfl)) rfl ?_
          refine ⟨?_, by repeat (first | exact Below.refl _ _ | apply zzA | apply zzN)⟩
          have zc1 := C1.out
          have zc2 := C2.out
          have zc4 := C4.out
          have zc5 := C5.out
          simp only [decide_eq_true_eq, decide_eq_false_iff_not, beq_iff_eq, beq_eq_false_iff_ne, List.any_eq_true, List.any_eq_false, ne_eq] at zc1 zc2 zc4 zc5
          rw [decide_eq_false (show ¬ (((0 < a0_1 ∧ a0_1 ≤ 4096) ∧ checkI a0_1 l0_2 = 0) ∧ (l0_2.length : Int) = (l0_3.length : Int)) from by first | omega | (intro hh; simp_all; done) | (intro hh; simp_all; omega))]
          rfl
      · have C4 := Aside0.mk c4
        go_enter Try.func94, Try.ntmps94
        go_wp2_with (first | (go_at_call 114; (with_reducible refine (index_Check.calls a0_1 A0_2 c0_2 l0_2 _ _ (Kd.C_below HR2.out HB.out) HC2.out rfl).mono ?_); rintro ed W2 ⟨rfl, ⟨nd, rfl⟩⟩))
        (try simp only [Exit.inBlock, Exit.then])
        refine bodyPost_ret (results_ct rfl _ _ (w.heap.size + 1) 30 #[.int .i64 0, .int .i64 0, .slice none 0 0, .slice none 0 0, .int .i64 a0_4, .int .i64 a0_5, .slice A0_6 l0_6.length c0_6, .slice A0_7 l0_7.length c0_7] (0, 0) _ rfl (heap_mid w _ _ _) Try.underlying30 rfl (by kernel_rfl)) rfl ?_
        refine ⟨?_, by repeat (first | exact Below.refl _ _ | apply zzA | apply zzN)⟩
        have zc1 := C1.out
        have zc2 := C2.out
        have zc4 := C4.out
        simp only [decide_eq_true_eq, decide_eq_false_iff_not, beq_iff_eq, beq_eq_false_iff_ne, List.any_eq_true, List.any_eq_false, ne_eq] at zc1 zc2 zc4
        rw [decide_eq_false (show ¬ (((0 < a0_1 ∧ a0_1 ≤ 4096) ∧ checkI a0_1 l0_2 = 0) ∧ (l0_2.length : Int) = (l0_3.length : Int)) from by first | omega | (intro hh; simp_all; done) | (intro hh; simp_all; omega))]
        rfl
    · have C2 := Aside0.mk c2
      go_enter Try.func94, Try.ntmps94
      go_wp2
      (try simp only [Exit.inBlock, Exit.then])
      refine bodyPost_ret (results_ct rfl _ _ (w.heap.size + 1) 30 #[.int .i64 0, .int .i64 0, .slice none 0 0, .slice none 0 0, .int .i64 a0_4, .int .i64 a0_5, .slice A0_6 l0_6.length c0_6, .slice A0_7 l0_7.length c0_7] (0, 0) _ rfl (heap_mid w _ _ _) Try.underlying30 rfl (by kernel_rfl)) rfl ?_
      refine ⟨?_, by repeat (first | exact Below.refl _ _ | apply zzA | apply zzN)⟩
      have zc1 := C1.out
      have zc2 := C2.out
      simp only [decide_eq_true_eq, decide_eq_false_iff_not, beq_iff_eq, beq_eq_false_iff_ne, List.any_eq_true, List.any_eq_false, ne_eq] at zc1 zc2
      rw [decide_eq_false (show ¬ (((0 < a0_1 ∧ a0_1 ≤ 4096) ∧ checkI a0_1 l0_2 = 0) ∧ (l0_2.length : Int) = (l0_3.length : Int)) from by first | omega | (intro hh; simp_all; done) | (intro hh; simp_all; omega))]
      rfl
  · have C1 := Aside0.mk c1
    go_enter Try.func94, Try.ntmps94
    go_wp2
    (try simp only [Exit.inBlock, Exit.then])
    refine bodyPost_ret (results_ct rfl _ _ (w.heap.size + 1) 30 #[.int .i64 0, .int .i64 0, .slice none 0 0, .slice none 0 0, .int .i64 a0_4, .int .i64 a0_5, .slice A0_6 l0_6.length c0_6, .slice A0_7 l0_7.length c0_7] (0, 0) _ rfl (heap_mid w _ _ _) Try.underlying30 rfl (by kernel_rfl)) rfl ?_
    refine ⟨?_, by repeat (first | exact Below.refl _ _ | apply zzA | apply zzN)⟩
    have zc1 := C1.out
    simp only [decide_eq_true_eq, decide_eq_false_iff_not, beq_iff_eq, beq_eq_false_iff_ne, List.any_eq_true, List.any_eq_false, ne_eq] at zc1
    rw [decide_eq_false (show ¬ (((0 < a0_1 ∧ a0_1 ≤ 4096) ∧ checkI a0_1 l0_2 = 0) ∧ (l0_2.length : Int) = (l0_3.length : Int)) from by first | omega | (intro hh; simp_all; done) | (intro hh; simp_all; omega))]
    rfl
set_option maxHeartbeats 4000000 in
set_option maxRecDepth 100000 in
theorem frame_bare.s (a0_0 a0_1 : Int) (A0_2 : Option Addr) (c0_2 : Nat) (l0_2 : List Int) (A0_3 : Option Addr) (c0_3 : Nat) (l0_3 : List Int) (a0_4 a0_5 : Int) (A0_6 : Option Addr) (c0_6 : Nat) (l0_6 : List Int) (A0_7 : Option Addr) (c0_7 : Nat) (l0_7 : List Bool) (w : World) (hr0_2 : Kd.C (Kd.int .i64) w A0_2 l0_2.length l0_2) (hc0_2 : l0_2.length ≤ c0_2) (hr0_3 : Kd.C (Kd.int .i64) w A0_3 l0_3.length l0_3) (hc0_3 : l0_3.length ≤ c0_3) (hr0_6 : Kd.C (Kd.int .u64) w A0_6 l0_6.length l0_6) (hc0_6 : l0_6.length ≤ c0_6) (hr0_7 : Kd.C Kd.bool w A0_7 l0_7.length l0_7) (hc0_7 : l0_7.length ≤ c0_7) (h0 : a0_0 = 3) :
    Calls Try.prog 94 #[.agg #[.int .i64 a0_0, .int .i64 a0_1, .slice A0_2 l0_2.length c0_2, .slice A0_3 l0_3.length c0_3, .int .i64 a0_4, .int .i64 a0_5, .slice A0_6 l0_6.length c0_6, .slice A0_7 l0_7.length c0_7]] w fun e w' => e = .returned (.tuple #[.agg #[.int .i64 0, .int .i64 0, .slice A0_2 l0_2.length c0_2, .slice A0_3 l0_3.length c0_3, .int .i64 0, .int .i64 a0_5, .slice A0_6 l0_6.length c0_6, .slice none 0 0], .bool (decide (((0 < a0_1 ∧ a0_1 ≤ 4096) ∧ 0 ≤ a0_4) ∧ (l0_7.length : Int) = a0_1))]) ∧ Below w.heap.size w w' := by
  have HR2 := Aside0.mk hr0_2
  have HC2 := Aside0.mk hc0_2
  have HR6 := Aside0.mk hr0_6
  have HC6 := Aside0.mk hc0_6
  clear hr0_2 hc0_2 hr0_3 hc0_3 hr0_6 hc0_6 hr0_7 hc0_7
  have hu := Try.underlying30
  subst h0
  rcases Bool.eq_false_or_eq_true (decide (0 < a0_1)) with c1 | c1
  · have C1 := Aside0.mk c1
    rcases Bool.eq_false_or_eq_true (decide (a0_1 ≤ 4096)) with c2 | c2
    · have C2 := Aside0.mk c2
      rcases Bool.eq_false_or_eq_true (decide (0 ≤ a0_4)) with d1 | d1
      · have D1 := Aside0.mk d1
        rcases Bool.eq_false_or_eq_true ((l0_7.length : Int) == a0_1) with d2 | d2
        · have D2 := Aside0.mk d2
          go_enter Try.func94, Try.ntmps94
          go_wp2
          (try simp only [Exit.inBlock, Exit.then])
          refine bodyPost_ret (results_ct rfl _ _ (w.heap.size + 1) 30 #[.int .i64 0, .int .i64 0, .slice A0_2 l0_2.length c0_2, .slice A0_3 l0_3.length c0_3, .int .i64 0, .int .i64 a0_5, .slice A0_6 l0_6.length c0_6, .slice none 0 0] (0, 0) _ rfl (heap_mid w _ _ _) Try.underlying30 rfl (by kernel_rfl)) rfl ?_
          refine ⟨?_, by repeat (first | exact Below.refl _ _ | apply zzA | apply zzN)⟩
          have zc1 := C1.out
          have zc2 := C2.out
          have zd1 := D1.out
          have zd2 := D2.out
          simp only [decide_eq_true_eq, decide_eq_false_iff_not, beq_iff_eq, beq_eq_false_iff_ne, List.any_eq_true, List.any_eq_false, ne_eq] at zc1 zc2 zd1 zd2
          rw [decide_eq_true (show ((0 < a0_1 ∧ a0_1 ≤ 4096) ∧ 0 ≤ a0_4) ∧ (l0_7.length : Int) = a0_1 from by first | omega | (refine ⟨?_, ?_⟩ <;> first | omega | simp_all))]
          rfl
        · have D2 := Aside0.mk d2
          go_enter Try.func94, Try.ntmps94
          go_wp2
          (try simp only [Exit.inBlock, Exit.then])
          refine bodyPost_ret (results_ct rfl _ _ (w.heap.size + 1) 30 #[.int .i64 0, .int .i64 0, .slice A0_2 l0_2.length c0_2, .slice A0_3 l0_3.length c0_3, .int .i64 0, .int .i64 a0_5, .slice A0_6 l0_6.length c0_6, .slice none 0 0] (0, 0) _ rfl (heap_mid w _ _ _) Try.underlying30 rfl (by kernel_rfl)) rfl ?_
          refine ⟨?_, by repeat (first | exact Below.refl _ _ | apply zzA | apply zzN)⟩
          have zc1 := C1.out
          have zc2 := C2.out
          have zd1 := D1.out
          have zd2 := D2.out
          simp only [decide_eq_true_eq, decide_eq_false_iff_not, beq_iff_eq, beq_eq_false_iff_ne, List.any_eq_true, List.any_eq_false, ne_eq] at zc1 zc2 zd1 zd2
          rw [decide_eq_false (show ¬ (((0 < a0_1 ∧ a0_1 ≤ 4096) ∧ 0 ≤ a0_4) ∧ (l0_7.length : Int) = a0_1) from by first | omega | (intro hh; simp_all; done) | (intro hh; simp_all; omega))]
          rfl
      · have D1 := Aside0.mk d1
        go_enter Try.func94, Try.ntmps94
        go_wp2
        (try simp only [Exit.inBlock, Exit.then])
        refine bodyPost_ret (results_ct rfl _ _ (w.heap.size + 1) 30 #[.int .i64 0, .int .i64 0, .slice A0_2 l0_2.length c0_2, .slice A0_3 l0_3.length c0_3, .int .i64 0, .int .i64 a0_5, .slice A0_6 l0_6.length c0_6, .slice none 0 0] (0, 0) _ rfl (heap_mid w _ _ _) Try.underlying30 rfl (by kernel_rfl)) rfl ?_
        refine ⟨?_, by repeat (first | exact Below.refl _ _ | apply zzA | apply zzN)⟩
        have zc1 := C1.out
        have zc2 := C2.out
        have zd1 := D1.out
        simp only [decide_eq_true_eq, decide_eq_false_iff_not, beq_iff_eq, beq_eq_false_iff_ne, List.any_eq_true, List.any_eq_false, ne_eq] at zc1 zc2 zd1
        rw [decide_eq_false (show ¬ (((0 < a0_1 ∧ a0_1 ≤ 4096) ∧ 0 ≤ a0_4) ∧ (l0_7.length : Int) = a0_1) from by first | omega | (intro hh; simp_all; done) | (intro hh; simp_all; omega))]
        rfl
    · have C2 := Aside0.mk c2
      go_enter Try.func94, Try.ntmps94
      go_wp2
      (try simp only [Exit.inBlock, Exit.then])
      refine bodyPost_ret (results_ct rfl _ _ (w.heap.size + 1) 30 #[.int .i64 0, .int .i64 0, .slice A0_2 l0_2.length c0_2, .slice A0_3 l0_3.length c0_3, .int .i64 0, .int .i64 a0_5, .slice A0_6 l0_6.length c0_6, .slice none 0 0] (0, 0) _ rfl (heap_mid w _ _ _) Try.underlying30 rfl (by kernel_rfl)) rfl ?_
      refine ⟨?_, by repeat (first | exact Below.refl _ _ | apply zzA | apply zzN)⟩
      have zc1 := C1.out
      have zc2 := C2.out
      simp only [decide_eq_true_eq, decide_eq_false_iff_not, beq_iff_eq, beq_eq_false_iff_ne, List.any_eq_true, List.any_eq_false, ne_eq] at zc1 zc2
      rw [decide_eq_false (show ¬ (((0 < a0_1 ∧ a0_1 ≤ 4096) ∧ 0 ≤ a0_4) ∧ (l0_7.length : Int) = a0_1) from by first | omega | (intro hh; simp_all; done) | (intro hh; simp_all; omega))]
      rfl
  · have C1 := Aside0.mk c1
    go_enter Try.func94, Try.ntmps94
    go_wp2
    (try simp only [Exit.inBlock, Exit.then])
    refine bodyPost_ret (results_ct rfl _ _ (w.heap.size + 1) 30 #[.int .i64 0, .int .i64 0, .slice A0_2 l0_2.length c0_2, .slice A0_3 l0_3.length c0_3, .int .i64 0, .int .i64 a0_5, .slice A0_6 l0_6.length c0_6, .slice none 0 0] (0, 0) _ rfl (heap_mid w _ _ _) Try.underlying30 rfl (by kernel_rfl)) rfl ?_
    refine ⟨?_, by repeat (first | exact Below.refl _ _ | apply zzA | apply zzN)⟩
    have zc1 := C1.out
    simp only [decide_eq_true_eq, decide_eq_false_iff_not, beq_iff_eq, beq_eq_false_iff_ne, List.any_eq_true, List.any_eq_false, ne_eq] at zc1
    rw [decide_eq_false (show ¬ (((0 < a0_1 ∧ a0_1 ≤ 4096) ∧ 0 ≤ a0_4) ∧ (l0_7.length : Int) = a0_1) from by first | omega | (intro hh; simp_all; done) | (intro hh; simp_all; omega))]
    rfl
set_option maxHeartbeats 4000000 in
set_option maxRecDepth 100000 in
theorem frame_bare.l (a0_0 a0_1 : Int) (A0_2 : Option Addr) (c0_2 : Nat) (l0_2 : List Int) (A0_3 : Option Addr) (c0_3 : Nat) (l0_3 : List Int) (a0_4 a0_5 : Int) (A0_6 : Option Addr) (c0_6 : Nat) (l0_6 : List Int) (A0_7 : Option Addr) (c0_7 : Nat) (l0_7 : List Bool) (w : World) (hr0_2 : Kd.C (Kd.int .i64) w A0_2 l0_2.length l0_2) (hc0_2 : l0_2.length ≤ c0_2) (hr0_3 : Kd.C (Kd.int .i64) w A0_3 l0_3.length l0_3) (hc0_3 : l0_3.length ≤ c0_3) (hr0_6 : Kd.C (Kd.int .u64) w A0_6 l0_6.length l0_6) (hc0_6 : l0_6.length ≤ c0_6) (hr0_7 : Kd.C Kd.bool w A0_7 l0_7.length l0_7) (hc0_7 : l0_7.length ≤ c0_7) (hu6 : U64L l0_6) (h0 : a0_0 = 2) :
    Calls Try.prog 94 #[.agg #[.int .i64 a0_0, .int .i64 a0_1, .slice A0_2 l0_2.length c0_2, .slice A0_3 l0_3.length c0_3, .int .i64 a0_4, .int .i64 a0_5, .slice A0_6 l0_6.length c0_6, .slice A0_7 l0_7.length c0_7]] w fun e w' => e = .returned (.tuple #[.agg #[.int .i64 0, .int .i64 0, .slice A0_2 l0_2.length c0_2, .slice A0_3 l0_3.length c0_3, .int .i64 0, .int .i64 0, .slice none 0 0, .slice none 0 0], .bool (decide (((0 < a0_1 ∧ a0_1 ≤ 4096) ∧ (0 < a0_5 ∧ a0_5 ≤ 8) ∧ (l0_6.length : Int) = a0_1 ∧ l0_6.any (fun n => decide (a0_5 < (bl n.toNat : Int))) = false) ∧ 0 ≤ a0_4 ∧ (l0_7.length : Int) = a0_1))]) ∧ Below w.heap.size w w' := by
  have HR2 := Aside0.mk hr0_2
  have HC2 := Aside0.mk hc0_2
  have HR6 := Aside0.mk hr0_6
  have HC6 := Aside0.mk hc0_6
  clear hr0_2 hc0_2 hr0_3 hc0_3 hr0_6 hc0_6 hr0_7 hc0_7
  have hu := Try.underlying30
  subst h0
  have HB : Aside0 (Below w.heap.size w (((w.alloc (Obj.cells #[Value.int .i64 2, Value.int .i64 a0_1, Value.slice A0_2 l0_2.length c0_2, Value.slice A0_3 l0_3.length c0_3, Value.int .i64 a0_4, Value.int .i64 a0_5, Value.slice A0_6 l0_6.length c0_6, Value.slice A0_7 l0_7.length c0_7] 30)).alloc (Obj.cells #[.int .i64 0, .int .i64 0, .slice none 0 0, .slice none 0 0, .int .i64 0, .int .i64 0, .slice none 0 0, .slice none 0 0] 30)).alloc (Obj.cells #[Value.int .i64 0, Value.int .i64 0, Value.slice A0_2 l0_2.length c0_2, Value.slice A0_3 l0_3.length c0_3, Value.int .i64 a0_4, Value.int .i64 a0_5, Value.slice A0_6 l0_6.length c0_6, Value.slice A0_7 l0_7.length c0_7] 30))) := ⟨zzA (zzA (zzA (Below.refl _ _) _) _) _⟩
  have HU := Aside0.mk hu6
  clear hu6
  have HX : Aside0 (∀ m : Nat, ((((w.alloc (Obj.cells #[Value.int .i64 2, Value.int .i64 a0_1, Value.slice A0_2 l0_2.length c0_2, Value.slice A0_3 l0_3.length c0_3, Value.int .i64 a0_4, Value.int .i64 a0_5, Value.slice A0_6 l0_6.length c0_6, Value.slice A0_7 l0_7.length c0_7] 30)).alloc (Obj.cells #[.int .i64 0, .int .i64 0, .slice none 0 0, .slice none 0 0, .int .i64 0, .int .i64 0, .slice none 0 0, .slice none 0 0] 30)).alloc (Obj.cells #[Value.int .i64 0, Value.int .i64 0, Value.slice A0_2 l0_2.length c0_2, Value.slice A0_3 l0_3.length c0_3, Value.int .i64 a0_4, Value.int .i64 a0_5, Value.slice A0_6 l0_6.length c0_6, Value.slice A0_7 l0_7.length c0_7] 30)).drewN m).cell? ⟨w.heap.size, 5, none⟩ = some (.int .i64 a0_5)) := ⟨fun m => by simp [go_sem]⟩
  rcases Bool.eq_false_or_eq_true (decide (0 < a0_1)) with c1 | c1
  · have C1 := Aside0.mk c1
    rcases Bool.eq_false_or_eq_true (decide (a0_1 ≤ 4096)) with c2 | c2
    · have C2 := Aside0.mk c2
      rcases Bool.eq_false_or_eq_true (decide (0 < a0_5)) with c7 | c7
      · have C7 := Aside0.mk c7
        rcases Bool.eq_false_or_eq_true (decide (a0_5 ≤ 8)) with c8 | c8
        · have C8 := Aside0.mk c8
          rcases Bool.eq_false_or_eq_true ((l0_6.length : Int) == a0_1) with c9 | c9
          · have C9 := Aside0.mk c9
            rcases Bool.eq_false_or_eq_true (l0_6.any (fun n => decide (a0_5 < (bl n.toNat : Int)))) with c6 | c6
            · have C6 := Aside0.mk c6
              go_enter Try.func94, Try.ntmps94
              go_wp2_with (first | (go_at_call 115; (with_reducible refine (slices_ContainsFunc_uint64_uint64.gen 116 _ (fun n => decide (a0_5 < (bl n.toNat : Int))) A0_6 c0_6 l0_6 _ ?ent (Kd.C_below HR6.out HB.out) ?tells).mono ?_); (case ent => exact enters_of Try.func116 rfl rfl); (case tells => intro i m hi; exact frame_bare_1.calls w.heap.size _ a0_5 _ _ (HX.out m) (plane_Width.of _ (HU.out _ (getD_mem hi)))); rintro ed W2 ⟨rfl, ⟨nd, rfl⟩⟩))
              (try simp only [Exit.inBlock, Exit.then])
              refine bodyPost_ret (results_ct rfl _ _ (w.heap.size + 1) 30 #[.int .i64 0, .int .i64 0, .slice A0_2 l0_2.length c0_2, .slice A0_3 l0_3.length c0_3, .int .i64 0, .int .i64 0, .slice none 0 0, .slice none 0 0] (0, 0) _ rfl (heap_mid w _ _ _) Try.underlying30 rfl (by kernel_rfl)) rfl ?_
              refine ⟨?_, by repeat (first | exact Below.refl _ _ | apply zzA | apply zzN)⟩
              have zc1 := C1.out
              have zc2 := C2.out
              have zc7 := C7.out
              have zc8 := C8.out
              have zc9 := C9.out
              have zc6 := C6.out
              simp only [decide_eq_true_eq, decide_eq_false_iff_not, beq_iff_eq, beq_eq_false_iff_ne, List.any_eq_true, List.any_eq_false, ne_eq] at zc1 zc2 zc7 zc8 zc9 zc6
              rw [decide_eq_false (show ¬ (((0 < a0_1 ∧ a0_1 ≤ 4096) ∧ (0 < a0_5 ∧ a0_5 ≤ 8) ∧ (l0_6.length : Int) = a0_1 ∧ l0_6.any (fun n => decide (a0_5 < (bl n.toNat : Int))) = false) ∧ 0 ≤ a0_4 ∧ (l0_7.length : Int) = a0_1) from by first | omega | (intro hh; simp_all; done) | (intro hh; simp_all; omega))]
              rfl
            · have C6 := Aside0.mk c6
              rcases Bool.eq_false_or_eq_true (decide (0 ≤ a0_4)) with d1 | d1
              · have D1 := Aside0.mk d1
                rcases Bool.eq_false_or_eq_true ((l0_7.length : Int) == a0_1) with d2 | d2
                · have D2 := Aside0.mk d2
                  go_enter Try.func94, Try.ntmps94
                  go_wp2_with (first | (go_at_call 115; (with_reducible refine (slices_ContainsFunc_uint64_uint64.gen 116 _ (fun n => decide (a0_5 < (bl n.toNat : Int))) A0_6 c0_6 l0_6 _ ?ent (Kd.C_below HR6.out HB.out) ?tells).mono ?_); (case ent => exact enters_of Try.func116 rfl rfl); (case tells => intro i m hi; exact frame_bare_1.calls w.heap.size _ a0_5 _ _ (HX.out m) (plane_Width.of _ (HU.out _ (getD_mem hi)))); rintro ed W2 ⟨rfl, ⟨nd, rfl⟩⟩))
                  (try simp only [Exit.inBlock, Exit.then])
                  refine bodyPost_ret (results_ct rfl _ _ (w.heap.size + 1) 30 #[.int .i64 0, .int .i64 0, .slice A0_2 l0_2.length c0_2, .slice A0_3 l0_3.length c0_3, .int .i64 0, .int .i64 0, .slice none 0 0, .slice none 0 0] (0, 0) _ rfl (heap_mid w _ _ _) Try.underlying30 rfl (by kernel_rfl)) rfl ?_
                  refine ⟨?_, by repeat (first | exact Below.refl _ _ | apply zzA | apply zzN)⟩
                  have zc1 := C1.out
                  have zc2 := C2.out
                  have zc7 := C7.out
                  have zc8 := C8.out
                  have zc9 := C9.out
                  have zc6 := C6.out
                  have zd1 := D1.out
                  have zd2 := D2.out
                  simp only [decide_eq_true_eq, decide_eq_false_iff_not, beq_iff_eq, beq_eq_false_iff_ne, List.any_eq_true, List.any_eq_false, ne_eq] at zc1 zc2 zc7 zc8 zc9 zc6 zd1 zd2
                  rw [decide_eq_true (show ((0 < a0_1 ∧ a0_1 ≤ 4096) ∧ (0 < a0_5 ∧ a0_5 ≤ 8) ∧ (l0_6.length : Int) = a0_1 ∧ l0_6.any (fun n => decide (a0_5 < (bl n.toNat : Int))) = false) ∧ 0 ≤ a0_4 ∧ (l0_7.length : Int) = a0_1 from by first | omega | (refine ⟨?_, ?_⟩ <;> first | omega | simp_all))]
                  rfl
                · have D2 := Aside0.mk d2
                  go_enter Try.func94, Try.ntmps94
                  go_wp2_with (first | (go_at_call 115; (with_reducible refine (slices_ContainsFunc_uint64_uint64.gen 116 _ (fun n => decide (a0_5 < (bl n.toNat : Int))) A0_6 c0_6 l0_6 _ ?ent (Kd.C_below HR6.out HB.out) ?tells).mono ?_); (case ent => exact enters_of Try.func116 rfl rfl); (case tells => intro i m hi; exact frame_bare_1.calls w.heap.size _ a0_5 _ _ (HX.out m) (plane_Width.of _ (HU.out _ (getD_mem hi)))); rintro ed W2 ⟨rfl, ⟨nd, rfl⟩⟩))
                  (try simp only [Exit.inBlock, Exit.then])
                  refine bodyPost_ret (results_ct rfl _ _ (w.heap.size + 1) 30 #[.int .i64 0, .int .i64 0, .slice A0_2 l0_2.length c0_2, .slice A0_3 l0_3.length c0_3, .int .i64 0, .int .i64 0, .slice none 0 0, .slice none 0 0] (0, 0) _ rfl (heap_mid w _ _ _) Try.underlying30 rfl (by kernel_rfl)) rfl ?_
                  refine ⟨?_, by repeat (first | exact Below.refl _ _ | apply zzA | apply zzN)⟩
                  have zc1 := C1.out
                  have zc2 := C2.out
                  have zc7 := C7.out
                  have zc8 := C8.out
                  have zc9 := C9.out
                  have zc6 := C6.out
                  have zd1 := D1.out
                  have zd2 := D2.out
                  simp only [decide_eq_true_eq, decide_eq_false_iff_not, beq_iff_eq, beq_eq_false_iff_ne, List.any_eq_true, List.any_eq_false, ne_eq] at zc1 zc2 zc7 zc8 zc9 zc6 zd1 zd2
                  rw [decide_eq_false (show ¬ (((0 < a0_1 ∧ a0_1 ≤ 4096) ∧ (0 < a0_5 ∧ a0_5 ≤ 8) ∧ (l0_6.length : Int) = a0_1 ∧ l0_6.any (fun n => decide (a0_5 < (bl n.toNat : Int))) = false) ∧ 0 ≤ a0_4 ∧ (l0_7.length : Int) = a0_1) from by first | omega | (intro hh; simp_all; done) | (intro hh; simp_all; omega))]
                  rfl
              · have D1 := Aside0.mk d1
                go_enter Try.func94, Try.ntmps94
                go_wp2_with (first | (go_at_call 115; (with_reducible refine (slices_ContainsFunc_uint64_uint64.gen 116 _ (fun n => decide (a0_5 < (bl n.toNat : Int))) A0_6 c0_6 l0_6 _ ?ent (Kd.C_below HR6.out HB.out) ?tells).mono ?_); (case ent => exact enters_of Try.func116 rfl rfl); (case tells => intro i m hi; exact frame_bare_1.calls w.heap.size _ a0_5 _ _ (HX.out m) (plane_Width.of _ (HU.out _ (getD_mem hi)))); rintro ed W2 ⟨rfl, ⟨nd, rfl⟩⟩))
                (try simp only [Exit.inBlock, Exit.then])
                refine bodyPost_ret (results_ct rfl _ _ (w.heap.size + 1) 30 #[.int .i64 0, .int .i64 0, .slice A0_2 l0_2.length c0_2, .slice A0_3 l0_3.length c0_3, .int .i64 0, .int .i64 0, .slice none 0 0, .slice none 0 0] (0, 0) _ rfl (heap_mid w _ _ _) Try.underlying30 rfl (by kernel_rfl)) rfl ?_
                refine ⟨?_, by repeat (first | exact Below.refl _ _ | apply zzA | apply zzN)⟩
                have zc1 := C1.out
                have zc2 := C2.out
                have zc7 := C7.out
                have zc8 := C8.out
                have zc9 := C9.out
                have zc6 := C6.out
                have zd1 := D1.out
                simp only [decide_eq_true_eq, decide_eq_false_iff_not, beq_iff_eq, beq_eq_false_iff_ne, List.any_eq_true, List.any_eq_false, ne_eq] at zc1 zc2 zc7 zc8 zc9 zc6 zd1
                rw [decide_eq_false (show ¬ (((0 < a0_1 ∧ a0_1 ≤ 4096) ∧ (0 < a0_5 ∧ a0_5 ≤ 8) ∧ (l0_6.length : Int) = a0_1 ∧ l0_6.any (fun n => decide (a0_5 < (bl n.toNat : Int))) = false) ∧ 0 ≤ a0_4 ∧ (l0_7.length : Int) = a0_1) from by first | omega | (intro hh; simp_all; done) | (intro hh; simp_all; omega))]
                rfl
          · have C9 := Aside0.mk c9
            go_enter Try.func94, Try.ntmps94
            go_wp2
            (try simp only [Exit.inBlock, Exit.then])
            refine bodyPost_ret (results_ct rfl _ _ (w.heap.size + 1) 30 #[.int .i64 0, .int .i64 0, .slice A0_2 l0_2.length c0_2, .slice A0_3 l0_3.length c0_3, .int .i64 0, .int .i64 0, .slice none 0 0, .slice none 0 0] (0, 0) _ rfl (heap_mid w _ _ _) Try.underlying30 rfl (by kernel_rfl)) rfl ?_
            refine ⟨?_, by repeat (first | exact Below.refl _ _ | apply zzA | apply zzN)⟩
            have zc1 := C1.out
            have zc2 := C2.out
            have zc7 := C7.out
            have zc8 := C8.out
            have zc9 := C9.out
            simp only [decide_eq_true_eq, decide_eq_false_iff_not, beq_iff_eq, beq_eq_false_iff_ne, List.any_eq_true, List.any_eq_false, ne_eq] at zc1 zc2 zc7 zc8 zc9
            rw [decide_eq_false (show ¬ (((0 < a0_1 ∧ a0_1 ≤ 4096) ∧ (0 < a0_5 ∧ a0_5 ≤ 8) ∧ (l0_6.length : Int) = a0_1 ∧ l0_6.any (fun n => decide (a0_5 < (bl n.toNat : Int))) = false) ∧ 0 ≤ a0_4 ∧ (l0_7.length : Int) = a0_1) from by first | omega | (intro hh; simp_all; done) | (intro hh; simp_all; omega))]
            rfl
        · have C8 := Aside0.mk c8
          go_enter Try.func94, Try.ntmps94
          go_wp2
          (try simp only [Exit.inBlock, Exit.then])
          refine bodyPost_ret (results_ct rfl _ _ (w.heap.size + 1) 30 #[.int .i64 0, .int .i64 0, .slice A0_2 l0_2.length c0_2, .slice A0_3 l0_3.length c0_3, .int .i64 0, .int .i64 0, .slice none 0 0, .slice none 0 0] (0, 0) _ rfl (heap_mid w _ _ _) Try.underlying30 rfl (by kernel_rfl)) rfl ?_
          refine ⟨?_, by repeat (first | exact Below.refl _ _ | apply zzA | apply zzN)⟩
          have zc1 := C1.out
          have zc2 := C2.out
          have zc7 := C7.out
          have zc8 := C8.out
          simp only [decide_eq_true_eq, decide_eq_false_iff_not, beq_iff_eq, beq_eq_false_iff_ne, List.any_eq_true, List.any_eq_false, ne_eq] at zc1 zc2 zc7 zc8
          rw [decide_eq_false (show ¬ (((0 < a0_1 ∧ a0_1 ≤ 4096) ∧ (0 < a0_5 ∧ a0_5 ≤ 8) ∧ (l0_6.length : Int) = a0_1 ∧ l0_6.any (fun n => decide (a0_5 < (bl n.toNat : Int))) = false) ∧ 0 ≤ a0_4 ∧ (l0_7.length : Int) = a0_1) from by first | omega | (intro hh; simp_all; done) | (intro hh; simp_all; omega))]
          rfl
      · have C7 := Aside0.mk c7
        go_enter Try.func94, Try.ntmps94
        go_wp2
        (try simp only [Exit.inBlock, Exit.then])
        refine bodyPost_ret (results_ct rfl _ _ (w.heap.size + 1) 30 #[.int .i64 0, .int .i64 0, .slice A0_2 l0_2.length c0_2, .slice A0_3 l0_3.length c0_3, .int .i64 0, .int .i64 0, .slice none 0 0, .slice none 0 0] (0, 0) _ rfl (heap_mid w _ _ _) Try.underlying30 rfl (by kernel_rfl)) rfl ?_
        refine ⟨?_, by repeat (first | exact Below.refl _ _ | apply zzA | apply zzN)⟩
        have zc1 := C1.out
        have zc2 := C2.out
        have zc7 := C7.out
        simp only [decide_eq_true_eq, decide_eq_false_iff_not, beq_iff_eq, beq_eq_false_iff_ne, List.any_eq_true, List.any_eq_false, ne_eq] at zc1 zc2 zc7
        rw [decide_eq_false (show ¬ (((0 < a0_1 ∧ a0_1 ≤ 4096) ∧ (0 < a0_5 ∧ a0_5 ≤ 8) ∧ (l0_6.length : Int) = a0_1 ∧ l0_6.any (fun n => decide (a0_5 < (bl n.toNat : Int))) = false) ∧ 0 ≤ a0_4 ∧ (l0_7.length : Int) = a0_1) from by first | omega | (intro hh; simp_all; done) | (intro hh; simp_all; omega))]
        rfl
    · have C2 := Aside0.mk c2
      go_enter Try.func94, Try.ntmps94
      go_wp2
      (try simp only [Exit.inBlock, Exit.then])
      refine bodyPost_ret (results_ct rfl _ _ (w.heap.size + 1) 30 #[.int .i64 0, .int .i64 0, .slice A0_2 l0_2.length c0_2, .slice A0_3 l0_3.length c0_3, .int .i64 0, .int .i64 0, .slice none 0 0, .slice none 0 0] (0, 0) _ rfl (heap_mid w _ _ _) Try.underlying30 rfl (by kernel_rfl)) rfl ?_
      refine ⟨?_, by repeat (first | exact Below.refl _ _ | apply zzA | apply zzN)⟩
      have zc1 := C1.out
      have zc2 := C2.out
      simp only [decide_eq_true_eq, decide_eq_false_iff_not, beq_iff_eq, beq_eq_false_iff_ne, List.any_eq_true, List.any_eq_false, ne_eq] at zc1 zc2
      rw [decide_eq_false (show ¬ (((0 < a0_1 ∧ a0_1 ≤ 4096) ∧ (0 < a0_5 ∧ a0_5 ≤ 8) ∧ (l0_6.length : Int) = a0_1 ∧ l0_6.any (fun n => decide (a0_5 < (bl n.toNat : Int))) = false) ∧ 0 ≤ a0_4 ∧ (l0_7.length : Int) = a0_1) from by first | omega | (intro hh; simp_all; done) | (intro hh; simp_all; omega))]
      rfl
  · have C1 := Aside0.mk c1
    go_enter Try.func94, Try.ntmps94
    go_wp2
    (try simp only [Exit.inBlock, Exit.then])
    refine bodyPost_ret (results_ct rfl _ _ (w.heap.size + 1) 30 #[.int .i64 0, .int .i64 0, .slice A0_2 l0_2.length c0_2, .slice A0_3 l0_3.length c0_3, .int .i64 0, .int .i64 0, .slice none 0 0, .slice none 0 0] (0, 0) _ rfl (heap_mid w _ _ _) Try.underlying30 rfl (by kernel_rfl)) rfl ?_
    refine ⟨?_, by repeat (first | exact Below.refl _ _ | apply zzA | apply zzN)⟩
    have zc1 := C1.out
    simp only [decide_eq_true_eq, decide_eq_false_iff_not, beq_iff_eq, beq_eq_false_iff_ne, List.any_eq_true, List.any_eq_false, ne_eq] at zc1
    rw [decide_eq_false (show ¬ (((0 < a0_1 ∧ a0_1 ≤ 4096) ∧ (0 < a0_5 ∧ a0_5 ≤ 8) ∧ (l0_6.length : Int) = a0_1 ∧ l0_6.any (fun n => decide (a0_5 < (bl n.toNat : Int))) = false) ∧ 0 ≤ a0_4 ∧ (l0_7.length : Int) = a0_1) from by first | omega | (intro hh; simp_all; done) | (intro hh; simp_all; omega))]
    rfl
set_option maxHeartbeats 4000000 in
set_option maxRecDepth 100000 in
theorem frame_bare.x (a0_0 a0_1 : Int) (A0_2 : Option Addr) (c0_2 : Nat) (l0_2 : List Int) (A0_3 : Option Addr) (c0_3 : Nat) (l0_3 : List Int) (a0_4 a0_5 : Int) (A0_6 : Option Addr) (c0_6 : Nat) (l0_6 : List Int) (A0_7 : Option Addr) (c0_7 : Nat) (l0_7 : List Bool) (w : World) (hr0_2 : Kd.C (Kd.int .i64) w A0_2 l0_2.length l0_2) (hc0_2 : l0_2.length ≤ c0_2) (hr0_3 : Kd.C (Kd.int .i64) w A0_3 l0_3.length l0_3) (hc0_3 : l0_3.length ≤ c0_3) (hr0_6 : Kd.C (Kd.int .u64) w A0_6 l0_6.length l0_6) (hc0_6 : l0_6.length ≤ c0_6) (hr0_7 : Kd.C Kd.bool w A0_7 l0_7.length l0_7) (hc0_7 : l0_7.length ≤ c0_7) (h0 : a0_0 ≠ 0) (h1 : a0_0 ≠ 1) (h2 : a0_0 ≠ 2) (h3 : a0_0 ≠ 3) :
    Calls Try.prog 94 #[.agg #[.int .i64 a0_0, .int .i64 a0_1, .slice A0_2 l0_2.length c0_2, .slice A0_3 l0_3.length c0_3, .int .i64 a0_4, .int .i64 a0_5, .slice A0_6 l0_6.length c0_6, .slice A0_7 l0_7.length c0_7]] w fun e w' => (∃ v, e = .returned (.tuple #[v, .bool false])) ∧ Below w.heap.size w w' := by
  have HR2 := Aside0.mk hr0_2
  have HC2 := Aside0.mk hc0_2
  have HR6 := Aside0.mk hr0_6
  have HC6 := Aside0.mk hc0_6
  clear hr0_2 hc0_2 hr0_3 hc0_3 hr0_6 hc0_6 hr0_7 hc0_7
  have hu := Try.underlying30
  have k0 : (a0_0 == 0) = false := beq_eq_false_iff_ne.2 h0
  have k1 : (a0_0 == 1) = false := beq_eq_false_iff_ne.2 h1
  have k2 : (a0_0 == 2) = false := beq_eq_false_iff_ne.2 h2
  have k3 : (a0_0 == 3) = false := beq_eq_false_iff_ne.2 h3
  clear h0 h1 h2 h3
  rcases Bool.eq_false_or_eq_true (decide (0 < a0_1)) with c1 | c1
  · rcases Bool.eq_false_or_eq_true (decide (a0_1 ≤ 4096)) with c2 | c2
    · go_enter Try.func94, Try.ntmps94
      go_wp2
      (try simp only [Exit.inBlock, Exit.then])
      refine bodyPost_ret (results_ct rfl _ _ (w.heap.size + 1) 30 #[.int .i64 0, .int .i64 0, .slice A0_2 l0_2.length c0_2, .slice A0_3 l0_3.length c0_3, .int .i64 a0_4, .int .i64 a0_5, .slice A0_6 l0_6.length c0_6, .slice A0_7 l0_7.length c0_7] (0, 0) _ rfl (heap_mid w _ _ _) Try.underlying30 rfl (by kernel_rfl)) rfl ?_
      exact ⟨⟨_, rfl⟩, by repeat (first | exact Below.refl _ _ | apply zzA | apply zzN)⟩
    · go_enter Try.func94, Try.ntmps94
      go_wp2
      (try simp only [Exit.inBlock, Exit.then])
      refine bodyPost_ret (results_ct rfl _ _ (w.heap.size + 1) 30 #[.int .i64 0, .int .i64 0, .slice A0_2 l0_2.length c0_2, .slice A0_3 l0_3.length c0_3, .int .i64 a0_4, .int .i64 a0_5, .slice A0_6 l0_6.length c0_6, .slice A0_7 l0_7.length c0_7] (0, 0) _ rfl (heap_mid w _ _ _) Try.underlying30 rfl (by kernel_rfl)) rfl ?_
      exact ⟨⟨_, rfl⟩, by repeat (first | exact Below.refl _ _ | apply zzA | apply zzN)⟩
  · go_enter Try.func94, Try.ntmps94
    go_wp2
    (try simp only [Exit.inBlock, Exit.then])
    refine bodyPost_ret (results_ct rfl _ _ (w.heap.size + 1) 30 #[.int .i64 0, .int .i64 0, .slice A0_2 l0_2.length c0_2, .slice A0_3 l0_3.length c0_3, .int .i64 a0_4, .int .i64 a0_5, .slice A0_6 l0_6.length c0_6, .slice A0_7 l0_7.length c0_7] (0, 0) _ rfl (heap_mid w _ _ _) Try.underlying30 rfl (by kernel_rfl)) rfl ?_
    exact ⟨⟨_, rfl⟩, by repeat (first | exact Below.refl _ _ | apply zzA | apply zzN)⟩


end Go.Proofs.Ytkfhdpnfcaghbaa.HQ
