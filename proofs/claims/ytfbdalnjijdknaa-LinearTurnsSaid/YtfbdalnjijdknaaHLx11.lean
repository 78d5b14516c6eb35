/- What Go functions do, each as a plain Lean function with the same answers, and the proof of it, in every world: printed by the session's driver over the kit's print, with texts by hand. -/
import Derived.Test.YtfbdalnjijdknaaHLx0
import Derived.Test.YtfbdalnjijdknaaHLx4
import Derived.Test.YtfbdalnjijdknaaHLx6
import Derived.Test.YtfbdalnjijdknaaHLx10
namespace Go.Proofs.Ytfbdalnjijdknaa.HL
open Go.RowKit Go.Proofs.YtfbdalnjijdknaaW.PrintWords Go.Proofs.YtfbdalnjijdknaaW.PrintLast Go.Proofs.YtfbdalnjijdknaaW.PrintMore
attribute [local go_sem] max2_int min2_int max_two min_two max_three min_three max_four min_four   -- for this text's walks alone
open Go.Proofs.Ytfbdalnjijdknaa.Sp
attribute [local go_sem] Go.Proofs.Ytfbdalnjijdknaa.Sp.u64_not
set_option linter.unusedVariables false
set_option linter.unusedSimpArgs false

/-! ### fix_QuotP: function 124 -/
def fix_QuotP.f (a0 : Int) (a1 : Int) : Option (Int × Int) := (fix_Div.f a0 a1 0).bind fun bt139 => (some (bt139.1, bt139.2))
set_option maxHeartbeats 8000000 in
set_option maxRecDepth 100000 in
theorem fix_QuotP.calls (a0 : Int) (a1 : Int) (r1 : Int) (r2 : Int) (w : World) (h : fix_QuotP.f a0 a1 = some (r1, r2)) :
    Calls Try.prog 124 #[.int .i64 a0, .int .i64 a1] w fun e w' => e = .returned (.tuple #[.int .i64 r1, .int .i64 r2]) ∧ Drawn0 w w' := by
  have H : ((fix_Div.f a0 a1 0).bind fun bt139 => (some (bt139.1, bt139.2))) = some (r1, r2) := h
  clear h
  replace H := Option.bind_eq_some_iff.mp H
  obtain ⟨⟨t139, t140⟩, A30, H⟩ := H
  replace H : (some (t139, t140)) = some (r1, r2) := H
  have A3 := Aside0.mk A30
  clear A30
  simp only [Option.some.injEq, Prod.mk.injEq] at H
  obtain ⟨rfl, rfl⟩ := H
  go_enter Try.func124, Try.ntmps124
  go_wp2_with (first | ((with_reducible refine gate_callee (f := 113) rfl ?_); refine goesL_ (some 8) rfl rfl Try.func113 (by kernel_rfl) rfl #[.int .i64 a0, .int .i64 a1, .int .i64 0] rfl (by (try simp only [List.map_toArray, List.map_cons, List.map_nil]); first | done | rfl | (simp only [List.length_drop, List.length_take]; rfl)) ?_; (with_reducible refine (fix_Div.calls a0 a1 0 t139 t140 _ A3.out).mono ?_); rintro e w' ⟨rfl, ⟨nd, rfl⟩⟩; refine ⟨_, rfl, ?_⟩))
  go_ret2
  exact ⟨by first | rfl | (simp; done) | (simp [*]; done), by repeat (first | exact Drawn0.refl _ | apply Drawn0.step)⟩

def fix_Quot.f (a0 a1 : Int) : Option (Int × Int) := if I64 a0 ∧ I64 a1 then some (divF a0 a1 0) else none
theorem fix_Quot.of (a0 a1 : Int)  (h_ : I64 a0 ∧ I64 a1) : fix_Quot.f a0 a1 = some (divF a0 a1 0) := if_pos h_
theorem fix_Quot.calls (a0 : Int) (a1 : Int) (r1 : Int) (r2 : Int) (w : World) (h : fix_Quot.f a0 a1 = some (r1, r2)) :
    Calls Try.prog 124 #[.int .i64 a0, .int .i64 a1] w fun e w' => e = .returned (.tuple #[.int .i64 r1, .int .i64 r2]) ∧ Drawn0 w w' := by
  unfold fix_Quot.f at h
  split at h
  · rename_i hu
    refine fix_QuotP.calls a0 a1 r1 r2 w (Eq.trans ?_ h)
    unfold fix_QuotP.f fix_Div.f
    rw [if_pos hu]; simp
  · cases h


/-! ### linear_Mean: function 65 -/
def linear_Mean.f (a0 : Int) (l1 : List (List Int)) : Option (List Int × Int) := if I64 a0 ∧ (∀ v ∈ l1, V64 v) ∧ fewV l1 = true then some (meanL a0 l1) else none
theorem linear_Mean.of (a0 : Int) (l1 : List (List Int)) (h : I64 a0 ∧ (∀ v ∈ l1, V64 v) ∧ fewV l1 = true) : linear_Mean.f a0 l1 = some (meanL a0 l1) := if_pos h
set_option maxHeartbeats 4000000 in
set_option maxRecDepth 100000 in
theorem linear_Mean.calls (a0 : Int) (A1 : Option Addr) (c1 : Nat) (l1 : List (List Int)) (r1 : List Int) (r2 : Int) (w : World) (hr1 : Kd.C (Kd.slice 2 (Kd.int .i64)) w A1 l1.length l1) (hc1 : l1.length ≤ c1) (h : linear_Mean.f a0 l1 = some (r1, r2)) :
    Calls Try.prog 65 #[.int .i64 a0, .slice A1 l1.length c1] w fun e w' => ∃ v0_ : Value, e = .returned (.tuple #[v0_, .int .i64 r2]) ∧ Kd.R (Kd.int .i64) 2 w' w.heap.size (fun _ => True) v0_ r1 ∧ Below w.heap.size w w' := by
  unfold linear_Mean.f at h
  split at h
  case isFalse => cases h
  rename_i hv
  have h := Option.some.inj h
  have HV := Aside0.mk hv
  clear hv
  unfold meanL at h
  have HR1 := Aside0.mk hr1
  have HC1 := Aside0.mk hc1
  clear hr1 hc1
  by_cases c : a0 < 1
  · rw [if_pos c] at h
    cases h
    have cb : decide (a0 < 1) = true := decide_eq_true c
    clear c
    go_enter Try.func65, Try.ntmps65
    go_wp2
    go_ret2
    exact ⟨_, rfl, Kd.R_nil _ _ _ _ _, by repeat (first | exact Below.refl _ _ | apply pw_below_drewN)⟩
  · rw [if_neg c] at h
    have cb : decide (a0 < 1) = false := decide_eq_false c
    clear c
    obtain ⟨⟨t, e⟩, ht⟩ : ∃ p, sumsV l1 = p := ⟨_, rfl⟩
    have hlen := sumsV_lle l1
    have hv64 := sumsV_v64 l1 HV.out.2.1
    rw [ht] at h hlen hv64
    simp only [] at h hlen hv64
    have HL := Aside0.mk hlen
    have HT := Aside0.mk hv64
    have A4 : Aside0 (vec_Sum.f l1 = some (t, e)) := ⟨(show vec_Sum.f l1 = some (sumsV l1) from if_pos HV.out.2).trans (congrArg some ht)⟩
    clear hlen hv64 ht
    by_cases he : e = 0
    · rw [if_pos he] at h
      subst he
      rw [← seqFrom_start] at h
      have HG := Aside0.mk h
      clear h
      go_enter Try.func65, Try.ntmps65
      go_wp2_with (go_at_call 123; (with_reducible refine (vec_Sum.calls A1 c1 l1 t 0 _ HR1.out HC1.out A4.out).mono ?_); rintro ed W1 ⟨v_, rfl, hR, hb⟩; have HO := Aside0.mk (Kd.R_lower hR (Nat.le_refl _)); have HB := Aside0.mk hb; clear hR hb; obtain ⟨Ao, co, eo⟩ := Kd.R_slice HO.out; subst eo)
      go_loopw [22] (fun i W => ∃ (k : Nat) (acc : List Int), i = .int .i64 k ∧ Aside0 (k ≤ t.length) ∧ Aside0 (acc.length = k) ∧ Aside0 (seqFrom (fun x => divF x a0 0) (t.drop k) acc = (r1, r2)) ∧ Aside0 (Kd.R (Kd.int .i64) 2 W w.heap.size (fun _ => True) (.slice Ao t.length co) (acc ++ t.drop k)) ∧ Aside0 (Below w.heap.size w W)) (fun i _ => t.length - (intOf i).toNat)
      case atStart => exact ⟨0, [], rfl, ⟨Nat.zero_le _⟩, ⟨rfl⟩, ⟨by rw [List.drop_zero]; exact HG.out⟩, ⟨by rw [List.drop_zero, List.nil_append]; exact HO.out⟩, HB⟩
      case round =>
        obtain ⟨k, acc, rfl, ⟨hk⟩, ⟨hacc⟩, ⟨hgo⟩, HO, HB⟩ := hrel
        clear HG
        by_cases hlt : k < t.length
        · obtain ⟨g, hg⟩ : ∃ g, Ao = some ⟨g, 0, none⟩ := by
            have hx := HO.out
            obtain ⟨g, cap, he, _⟩ := Kd.R_form hx (by rw [List.length_append, List.length_drop]; omega)
            injection he with h1 _ _
            exact ⟨g, h1⟩
          subst hg
          have hrd : rd (acc ++ t.drop k) (k : Int) = rd t k := by
            rw [rd_nat hlt, rd_nat (by rw [List.length_append, List.length_drop]; omega), List.getElem_append_right (by omega)]
            simp [hacc]
          have hcell := (Kd.R_celln 0 HO.out (k : Int) (by omega) (by omega)).1
          have hfr := (Kd.R_celln 0 HO.out (k : Int) (by omega) (by omega)).2
          rw [show rdOf 0 (acc ++ t.drop k) (k : Int) = rd t k from hrd] at hcell
          simp only [Int.toNat_natCast] at hcell hfr
          rw [List.drop_eq_getElem_cons hlt] at hgo
          obtain ⟨⟨q, f⟩, hq⟩ : ∃ p, divF (rd t k) a0 0 = p := ⟨_, rfl⟩
          have HA : Aside0 (fix_Quot.f (rd t k) a0 = some (q, f)) := ⟨(fix_Quot.of _ _ ⟨HT.out.rd _, HV.out.1⟩).trans (congrArg some hq)⟩
          have e1 : t[k] = rd t k := (rd_nat hlt).symm
          have hset : (acc ++ t.drop k).set k q = (acc ++ [q]) ++ t.drop (k + 1) := by
            rw [List.set_append_right _ _ (by omega), hacc, Nat.sub_self, List.drop_eq_getElem_cons hlt, List.set_cons_zero]
            simp
          have HS := Aside0.mk hset
          have HKL := Aside0.mk hacc
          have HLT := Aside0.mk hlt
          clear hset hrd hacc hk
          by_cases hf : f = 0
          · rw [seqFrom_ok (g := fun x => divF x a0 0) (by rw [e1, hq]; exact hf), e1, hq] at hgo
            subst hf
            have HG := Aside0.mk hgo
            clear hgo hq e1
            go_wp2_with (go_at_call 124; (with_reducible refine (fix_Quot.calls (rd t k) a0 q 0 _ HA.out).mono ?_); rintro ed W2 ⟨rfl, ⟨nd, rfl⟩⟩)
            have hp := (Kd.R_putg (Kd.R_drewN HO.out nd) (k : Int) q).1
            simp only [Int.toNat_natCast] at hp
            rw [HS.out] at hp
            have hL := HL.out
            exact ⟨⟨k + 1, acc ++ [q], by rw [wrap64_of (show I64 ((k : Int) + 1) by unfold I64; omega)]; rfl, ⟨HLT.out⟩, ⟨by have := HKL.out; simp; omega⟩, HG, ⟨hp⟩, ⟨(pw_below_drewN HB.out _).setCell (by obtain ⟨_, _, he, hb, _⟩ := Kd.R_form HO.out (by have := HKL.out; have := HLT.out; rw [List.length_append, List.length_drop]; omega); injection he with h1 _ _; injection h1 with h1; injection h1 with h1 _ _; show w.heap.size ≤ g; rw [h1]; exact hb) _⟩⟩, by rw [wrap64_of (show I64 ((k : Int) + 1) by unfold I64; omega)]; simp [intOf]; omega⟩
          · rw [seqFrom_bad (g := fun x => divF x a0 0) (by rw [e1, hq]; exact hf), e1, hq] at hgo
            obtain ⟨h1, h2⟩ : [] = r1 ∧ f = r2 := by cases hgo; exact ⟨rfl, rfl⟩
            clear hgo
            subst h1
            subst h2
            have he0 : (f == 0) = false := beq_eq_false_iff_ne.2 hf
            have he1 : (f != 0) = true := bne_iff_ne.2 hf
            clear hf hq e1
            go_wp2_with (go_at_call 124; (with_reducible refine (fix_Quot.calls (rd t k) a0 q f _ HA.out).mono ?_); rintro ed W2 ⟨rfl, ⟨nd, rfl⟩⟩)
            go_ret2
            exact ⟨_, rfl, Kd.R_nil _ _ _ _ _, (pw_below_drewN HB.out _).setCell (by obtain ⟨_, _, he, hb, _⟩ := Kd.R_form HO.out (by have := HKL.out; have := HLT.out; rw [List.length_append, List.length_drop]; omega); injection he with h1 _ _; injection h1 with h1; injection h1 with h1 _ _; show w.heap.size ≤ g; rw [h1]; exact hb) _⟩
        · have hkn : k = t.length := by omega
          rw [hkn, List.drop_length, seqFrom_nil] at hgo
          cases hgo
          have HO2 := HO.out
          rw [hkn, List.drop_length, List.append_nil] at HO2
          have HO3 := Aside0.mk HO2
          subst hkn
          clear HO2 HO hk
          go_wp2
          go_ret2
          exact ⟨_, rfl, HO3.out, HB.out⟩
    · rw [if_neg he] at h
      obtain ⟨h1, h2⟩ : r1 = [] ∧ r2 = e := by cases h; exact ⟨rfl, rfl⟩
      rw [h1, h2]
      clear h h1 h2
      have he0 : (e == 0) = false := beq_eq_false_iff_ne.2 he
      have he1 : (e != 0) = true := bne_iff_ne.2 he
      clear he
      go_enter Try.func65, Try.ntmps65
      go_wp2_with (go_at_call 123; (with_reducible refine (vec_Sum.calls A1 c1 l1 t e _ HR1.out HC1.out A4.out).mono ?_); rintro ed W1 ⟨v_, rfl, hR, hb⟩; have HO := Aside0.mk (Kd.R_lower hR (Nat.le_refl _)); have HB := Aside0.mk hb; clear hR hb; obtain ⟨Ao, co, eo⟩ := Kd.R_slice HO.out; subst eo)
      go_ret2
      exact ⟨_, rfl, Kd.R_nil _ _ _ _ _, HB.out⟩


/-! ### fix_SubP: function 107 -/
def fix_SubP.f (a0 : Int) (a1 : Int) : Option (Int × Int) := if (Go.bits .and .i64 (Go.bits .xor .i64 a0 a1) (Go.bits .xor .i64 a0 (wrap64 (a0 - a1)))) < 0 then (some (0, 2)) else (some (wrap64 (a0 - a1), 0))
set_option maxHeartbeats 8000000 in
set_option maxRecDepth 100000 in
theorem fix_SubP.calls (a0 : Int) (a1 : Int) (r1 : Int) (r2 : Int) (w : World) (h : fix_SubP.f a0 a1 = some (r1, r2)) :
    Calls Try.prog 107 #[.int .i64 a0, .int .i64 a1] w fun e w' => e = .returned (.tuple #[.int .i64 r1, .int .i64 r2]) ∧ Drawn0 w w' := by
  have H : (if (Go.bits .and .i64 (Go.bits .xor .i64 a0 a1) (Go.bits .xor .i64 a0 (wrap64 (a0 - a1)))) < 0 then (some (0, 2)) else (some (wrap64 (a0 - a1), 0))) = some (r1, r2) := h
  clear h
  by_cases c3 : (Go.bits .and .i64 (Go.bits .xor .i64 a0 a1) (Go.bits .xor .i64 a0 (wrap64 (a0 - a1)))) < 0
  · rw [if_pos c3] at H
    have c3b0 : decide ((Go.bits .and .i64 (Go.bits .xor .i64 a0 a1) (Go.bits .xor .i64 a0 (wrap64 (a0 - a1)))) < 0) = true := decide_eq_true c3
    clear c3
    simp only [Option.some.injEq, Prod.mk.injEq] at H
    obtain ⟨rfl, rfl⟩ := H
    go_enter Try.func107, Try.ntmps107
    go_wp2
    go_ret2
    exact ⟨by first | rfl | (simp; done) | (simp [*]; done), by repeat (first | exact Drawn0.refl _ | apply Drawn0.step)⟩
  · rw [if_neg c3] at H
    have c3b0 : decide ((Go.bits .and .i64 (Go.bits .xor .i64 a0 a1) (Go.bits .xor .i64 a0 (wrap64 (a0 - a1)))) < 0) = false := decide_eq_false c3
    clear c3
    simp only [Option.some.injEq, Prod.mk.injEq] at H
    obtain ⟨rfl, rfl⟩ := H
    go_enter Try.func107, Try.ntmps107
    go_wp2
    go_ret2
    exact ⟨by first | rfl | (simp; done) | (simp [*]; done), by repeat (first | exact Drawn0.refl _ | apply Drawn0.step)⟩

def fix_Sub.f (a0 a1 : Int) : Option (Int × Int) := if I64 a0 ∧ I64 a1 then some (res (a0 - a1)) else none
theorem fix_Sub.of (a0 a1 : Int)  (h_ : I64 a0 ∧ I64 a1) : fix_Sub.f a0 a1 = some (res (a0 - a1)) := if_pos h_
theorem fix_Sub.calls (a0 : Int) (a1 : Int) (r1 : Int) (r2 : Int) (w : World) (h : fix_Sub.f a0 a1 = some (r1, r2)) :
    Calls Try.prog 107 #[.int .i64 a0, .int .i64 a1] w fun e w' => e = .returned (.tuple #[.int .i64 r1, .int .i64 r2]) ∧ Drawn0 w w' := by
  unfold fix_Sub.f at h
  split at h
  · rename_i hu
    refine fix_SubP.calls a0 a1 r1 r2 w (Eq.trans ?_ h)
    unfold fix_SubP.f
    have hw := wrap64_i64 (a0 - a1)
    have t := and_neg (xor_i64_i64 a0 a1) (xor_i64_i64 a0 (wrap64 (a0 - a1)))
    rw [xor_neg hu.1 hu.2, xor_neg hu.1 hw] at t
    obtain ⟨h0, h1⟩ := hu
    by_cases c : I64 (a0 - a1)
    · rw [res_of c, wrap64_of c] at *
      rw [if_neg (by rw [t]; omega)]
    · rw [res_not c]
      unfold I64 at h0 h1 c
      rw [if_pos (by rw [t, wrap64_def]; omega)]
  · cases h


/-! ### linear_OffP: function 63 -/
def linear_OffP.f (l0 : List Int) (l1_0 : List Int) (a1_1 : Int) (a2 : Int) : Option (Int × Int) := (linear_Tell.f l0 l1_0 a2).bind fun bt142 => (if bt142.2 = 0 then ((fix_Sub.f bt142.1 a1_1).bind fun bt144 => (some (bt144.1, bt144.2))) else (some (0, bt142.2)))
set_option maxHeartbeats 8000000 in
set_option maxRecDepth 100000 in
theorem linear_OffP.calls (A0 : Option Addr) (c0 : Nat) (l0 : List Int) (A1_0 : Option Addr) (c1_0 : Nat) (l1_0 : List Int) (a1_1 : Int) (a2 : Int) (r1 : Int) (r2 : Int) (w : World) (hr0 : Kd.C (Kd.int .i64) w A0 l0.length l0) (hc0 : l0.length ≤ c0) (hr1_0 : Kd.C (Kd.int .i64) w A1_0 l1_0.length l1_0) (hc1_0 : l1_0.length ≤ c1_0) (h : linear_OffP.f l0 l1_0 a1_1 a2 = some (r1, r2)) :
    Calls Try.prog 63 #[.slice A0 l0.length c0, .agg #[.slice A1_0 l1_0.length c1_0, .int .i64 a1_1], .int .i64 a2] w fun e w' => e = .returned (.tuple #[.int .i64 r1, .int .i64 r2]) ∧ Below w.heap.size w w' := by
  have hu26 := Try.underlying26
  have HR0 := Aside0.mk hr0
  have HC0 := Aside0.mk hc0
  clear hr0 hc0
  have HR1_0 := Aside0.mk hr1_0
  have HC1_0 := Aside0.mk hc1_0
  clear hr1_0 hc1_0
  have HB := Aside0.mk (Below.refl w.heap.size w)
  have H : ((linear_Tell.f l0 l1_0 a2).bind fun bt142 => (if bt142.2 = 0 then ((fix_Sub.f bt142.1 a1_1).bind fun bt144 => (some (bt144.1, bt144.2))) else (some (0, bt142.2)))) = some (r1, r2) := h
  clear h
  replace H := Option.bind_eq_some_iff.mp H
  obtain ⟨⟨t142, t143⟩, A40, H⟩ := H
  replace H : (if t143 = 0 then ((fix_Sub.f t142 a1_1).bind fun bt144 => (some (bt144.1, bt144.2))) else (some (0, t143))) = some (r1, r2) := H
  have A4 := Aside0.mk A40
  clear A40
  by_cases c5 : t143 = 0
  · rw [if_pos c5] at H
    have c5b0 : (t143 == 0) = true := beq_iff_eq.mpr c5
    have c5b1 : (t143 != 0) = false := bne_eq_false_iff_eq.mpr c5
    clear c5
    replace H := Option.bind_eq_some_iff.mp H
    obtain ⟨⟨t144, t145⟩, A60, H⟩ := H
    replace H : (some (t144, t145)) = some (r1, r2) := H
    have A6 := Aside0.mk A60
    clear A60
    simp only [Option.some.injEq, Prod.mk.injEq] at H
    obtain ⟨rfl, rfl⟩ := H
    go_enter Try.func63, Try.ntmps63
    go_wp2_with (first | ((with_reducible refine gate_dst (N := 4) rfl ?_); refine box_event ?hg (N := 4) ?hd (cs := #[.slice A1_0 l1_0.length c1_0, .int .i64 a1_1]) (t := 26) ?hr ?_; (case hd => rfl); (case hg => rfl); (case hr => first | (go_simp; done) | (go_simp; rfl)); intro gb141 hg w7 hbox hb; have n0_ := Aside0.mk (below_step (by repeat (first | (with_reducible first | exact HB.out | apply below_alloc | apply pw_below_drewN | apply below_drew1) | exact HB.out)) hb); have n1_ := Aside0.mk (hbox); have n2_ := Aside0.mk ((by rw [hg]; exact (below_size (by repeat (first | (with_reducible first | exact HB.out | apply below_alloc | apply pw_below_drewN | apply below_drew1) | exact HB.out))) : w.heap.size ≤ gb141)); have n3_ := Aside0.mk ((by rw [hg]; exact (below_size (by repeat (first | (with_reducible first | exact HB.out | apply below_alloc | apply pw_below_drewN | apply below_drew1) | exact HB.out))) : w.heap.size ≤ gb141)); clear HB; have HB := n0_; have BK141 := n1_; have GW141 := n2_; have GE141 := n3_; clear n0_ n1_ n2_ n3_; clear hb hbox hg; have hcz8_0 : w7.cell? ⟨gb141, 0, none⟩ = some (.slice A1_0 l1_0.length c1_0) := (blk_cell BK141.out 0).trans rfl; have hcz8_1 : w7.cell? ⟨gb141, 1, none⟩ = some (.int .i64 a1_1) := (blk_cell BK141.out 1).trans rfl; have hfz8_0 := blk_frozen BK141.out 0; have hfz8_1 := blk_frozen BK141.out 1) | ((with_reducible refine gate_callee (f := 33) rfl ?_); refine goesL_ (some 15) rfl rfl Try.func33 (by kernel_rfl) rfl #[.slice A0 l0.length c0, .slice A1_0 l1_0.length c1_0, .int .i64 a2] rfl (by (try simp only [List.map_toArray, List.map_cons, List.map_nil]); first | done | rfl | (simp only [List.length_drop, List.length_take]; rfl)) ?_; (with_reducible refine (linear_Tell.calls _ _ l0 (fun k_ => k_ < w.heap.size) _ _ l1_0 a2 t142 t143 _ ?side1 ?side2 ?side3 A4.out).mono ?_); (case side1 => repeat (first | exact (Kd.C_below HR0.out HB.out) | (with_reducible refine Kd.C_alloc ?_ _) | (with_reducible refine Kd.C_drewN ?_ _) | (with_reducible refine Kd.C_drew ?_))); (case side2 => exact HC0.out); (case side3 => exact Kd.V_mk HC1_0.out (Kd.F_below (Kd.C_F (Kd.heap_int .i64) HR1_0.out) (by repeat (first | (with_reducible first | exact HB.out | apply below_alloc | apply pw_below_drewN | apply below_drew1 | refine below_set ?_ GE141.out) | exact HB.out)))); rintro e w9 ⟨rfl, hb⟩; refine ⟨_, rfl, ?_⟩; have n0_ := Aside0.mk (blk_below (g := gb141) (o := .cells #[.slice A1_0 l1_0.length c1_0, .int .i64 a1_1] 26 (0, 0)) (by (with_reducible repeat (first | refine blk_drewN ?_ _ | refine blk_drew ?_ | refine blk_alloc ?_ _)); exact BK141.out) hb); have n1_ := Aside0.mk (below_step (by repeat (first | (with_reducible first | exact HB.out | apply below_alloc | apply pw_below_drewN | apply below_drew1 | refine below_set ?_ GE141.out) | exact HB.out)) hb); clear BK141; clear HB; have BK141 := n0_; have HB := n1_; clear n0_ n1_; (try clear hb); (try clear hb2); (try clear hk); (try clear hi); have hcz10_0 : w9.cell? ⟨gb141, 0, none⟩ = some (.slice A1_0 l1_0.length c1_0) := (blk_cell BK141.out 0).trans rfl; have hcz10_1 : w9.cell? ⟨gb141, 1, none⟩ = some (.int .i64 a1_1) := (blk_cell BK141.out 1).trans rfl; have hfz10_0 := blk_frozen BK141.out 0; have hfz10_1 := blk_frozen BK141.out 1) | ((with_reducible refine gate_callee (f := 107) rfl ?_); refine goesL_ (some 24) rfl rfl Try.func107 (by kernel_rfl) rfl #[.int .i64 t142, .int .i64 a1_1] rfl (by (try simp only [List.map_toArray, List.map_cons, List.map_nil]); first | done | rfl | (simp only [List.length_drop, List.length_take]; rfl)) ?_; (with_reducible refine (fix_Sub.calls t142 a1_1 t144 t145 _ A6.out).mono ?_); rintro e w' ⟨rfl, ⟨nd, rfl⟩⟩; refine ⟨_, rfl, ?_⟩))
    go_ret2
    exact ⟨by first | rfl | (simp [errW_none, errW_some] <;> rfl) | (simp [*, errW_none, errW_some] <;> rfl), by repeat (first | (with_reducible first | exact HB.out | apply below_alloc | apply pw_below_drewN | apply below_drew1 | refine below_set ?_ GE141.out) | exact HB.out)⟩
  · rw [if_neg c5] at H
    have c5b0 : (t143 == 0) = false := beq_eq_false_iff_ne.mpr c5
    have c5b1 : (t143 != 0) = true := bne_iff_ne.mpr c5
    simp only [Option.some.injEq, Prod.mk.injEq] at H
    obtain ⟨rfl, rfl⟩ := H
    go_enter Try.func63, Try.ntmps63
    go_wp2_with (first | ((with_reducible refine gate_dst (N := 4) rfl ?_); refine box_event ?hg (N := 4) ?hd (cs := #[.slice A1_0 l1_0.length c1_0, .int .i64 a1_1]) (t := 26) ?hr ?_; (case hd => rfl); (case hg => rfl); (case hr => first | (go_simp; done) | (go_simp; rfl)); intro gb141 hg w11 hbox hb; have n0_ := Aside0.mk (below_step (by repeat (first | (with_reducible first | exact HB.out | apply below_alloc | apply pw_below_drewN | apply below_drew1) | exact HB.out)) hb); have n1_ := Aside0.mk (hbox); have n2_ := Aside0.mk ((by rw [hg]; exact (below_size (by repeat (first | (with_reducible first | exact HB.out | apply below_alloc | apply pw_below_drewN | apply below_drew1) | exact HB.out))) : w.heap.size ≤ gb141)); have n3_ := Aside0.mk ((by rw [hg]; exact (below_size (by repeat (first | (with_reducible first | exact HB.out | apply below_alloc | apply pw_below_drewN | apply below_drew1) | exact HB.out))) : w.heap.size ≤ gb141)); clear HB; have HB := n0_; have BK141 := n1_; have GW141 := n2_; have GE141 := n3_; clear n0_ n1_ n2_ n3_; clear hb hbox hg; have hcz12_0 : w11.cell? ⟨gb141, 0, none⟩ = some (.slice A1_0 l1_0.length c1_0) := (blk_cell BK141.out 0).trans rfl; have hcz12_1 : w11.cell? ⟨gb141, 1, none⟩ = some (.int .i64 a1_1) := (blk_cell BK141.out 1).trans rfl; have hfz12_0 := blk_frozen BK141.out 0; have hfz12_1 := blk_frozen BK141.out 1) | ((with_reducible refine gate_callee (f := 33) rfl ?_); refine goesL_ (some 15) rfl rfl Try.func33 (by kernel_rfl) rfl #[.slice A0 l0.length c0, .slice A1_0 l1_0.length c1_0, .int .i64 a2] rfl (by (try simp only [List.map_toArray, List.map_cons, List.map_nil]); first | done | rfl | (simp only [List.length_drop, List.length_take]; rfl)) ?_; (with_reducible refine (linear_Tell.calls _ _ l0 (fun k_ => k_ < w.heap.size) _ _ l1_0 a2 t142 t143 _ ?side1 ?side2 ?side3 A4.out).mono ?_); (case side1 => repeat (first | exact (Kd.C_below HR0.out HB.out) | (with_reducible refine Kd.C_alloc ?_ _) | (with_reducible refine Kd.C_drewN ?_ _) | (with_reducible refine Kd.C_drew ?_))); (case side2 => exact HC0.out); (case side3 => exact Kd.V_mk HC1_0.out (Kd.F_below (Kd.C_F (Kd.heap_int .i64) HR1_0.out) (by repeat (first | (with_reducible first | exact HB.out | apply below_alloc | apply pw_below_drewN | apply below_drew1 | refine below_set ?_ GE141.out) | exact HB.out)))); rintro e w13 ⟨rfl, hb⟩; refine ⟨_, rfl, ?_⟩; have n0_ := Aside0.mk (blk_below (g := gb141) (o := .cells #[.slice A1_0 l1_0.length c1_0, .int .i64 a1_1] 26 (0, 0)) (by (with_reducible repeat (first | refine blk_drewN ?_ _ | refine blk_drew ?_ | refine blk_alloc ?_ _)); exact BK141.out) hb); have n1_ := Aside0.mk (below_step (by repeat (first | (with_reducible first | exact HB.out | apply below_alloc | apply pw_below_drewN | apply below_drew1 | refine below_set ?_ GE141.out) | exact HB.out)) hb); clear BK141; clear HB; have BK141 := n0_; have HB := n1_; clear n0_ n1_; (try clear hb); (try clear hb2); (try clear hk); (try clear hi)))
    go_ret2
    exact ⟨by first | rfl | (simp [errW_none, errW_some] <;> rfl) | (simp [*, errW_none, errW_some] <;> rfl), by repeat (first | (with_reducible first | exact HB.out | apply below_alloc | apply pw_below_drewN | apply below_drew1 | refine below_set ?_ GE141.out) | exact HB.out)⟩

def linear_Off.f (l0 l1_0 : List Int) (a1_1 a2 : Int) : Option (Int × Int) := if V64 l0 ∧ V64 l1_0 ∧ I64 a1_1 then some (offL l0 l1_0 a1_1 a2) else none
theorem linear_Off.of (l0 l1_0 : List Int) (a1_1 a2 : Int)  (h_ : V64 l0 ∧ V64 l1_0 ∧ I64 a1_1) : linear_Off.f l0 l1_0 a1_1 a2 = some (offL l0 l1_0 a1_1 a2) := if_pos h_
theorem linear_OffP.is (l0 l1_0 : List Int) (a1_1 a2 : Int) (h0 : V64 l0) (h1 : V64 l1_0) (h2 : I64 a1_1) : linear_OffP.f l0 l1_0 a1_1 a2 = some (offL l0 l1_0 a1_1 a2) := by
  unfold linear_OffP.f offL
  rw [linear_Tell.of _ _ _ ⟨h0, h1⟩]
  simp only [Option.bind_some]
  by_cases d : (tellL l0 l1_0 a2).2 = 0
  · rw [if_pos d, if_pos d, fix_Sub.of _ _ ⟨tellL_i64 _ _ _, h2⟩]; rfl
  · rw [if_neg d, if_neg d]
theorem linear_Off.calls (A0 : Option Addr) (c0 : Nat) (l0 : List Int) (A1_0 : Option Addr) (c1_0 : Nat) (l1_0 : List Int) (a1_1 : Int) (a2 : Int) (r1 : Int) (r2 : Int) (w : World) (hr0 : Kd.C (Kd.int .i64) w A0 l0.length l0) (hc0 : l0.length ≤ c0) (hr1_0 : Kd.C (Kd.int .i64) w A1_0 l1_0.length l1_0) (hc1_0 : l1_0.length ≤ c1_0) (h : linear_Off.f l0 l1_0 a1_1 a2 = some (r1, r2)) :
    Calls Try.prog 63 #[.slice A0 l0.length c0, .agg #[.slice A1_0 l1_0.length c1_0, .int .i64 a1_1], .int .i64 a2] w fun e w' => e = .returned (.tuple #[.int .i64 r1, .int .i64 r2]) ∧ Below w.heap.size w w' := by
  unfold linear_Off.f at h
  split at h
  case isFalse => cases h
  rename_i hv
  exact linear_OffP.calls A0 c0 l0 A1_0 c1_0 l1_0 a1_1 a2 r1 r2 w hr0 hc0 hr1_0 hc1_0 ((linear_OffP.is l0 l1_0 a1_1 a2 hv.1 hv.2.1 hv.2.2).trans h)


end Go.Proofs.Ytfbdalnjijdknaa.HL
