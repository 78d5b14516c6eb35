/- What Go functions do, each as a plain Lean function with the same answers, and the proof of it, in every world: printed by the session's driver over the kit's print, with texts by hand. -/
import Derived.Test.YtfbdalnjijdknaaHLx0
import Derived.Test.YtfbdalnjijdknaaHLx1
import Derived.Test.YtfbdalnjijdknaaHLx2
import Derived.Test.YtfbdalnjijdknaaHLx3
import Derived.Test.YtfbdalnjijdknaaHLx4
import Derived.Test.YtfbdalnjijdknaaHLx7
namespace Go.Proofs.Ytfbdalnjijdknaa.HL
open Go.RowKit Go.Proofs.YtfbdalnjijdknaaW.PrintWords Go.Proofs.YtfbdalnjijdknaaW.PrintLast Go.Proofs.YtfbdalnjijdknaaW.PrintMore
attribute [local go_sem] max2_int min2_int max_two min_two max_three min_three max_four min_four   -- for this text's walks alone
open Go.Proofs.Ytfbdalnjijdknaa.Sp
attribute [local go_sem] Go.Proofs.Ytfbdalnjijdknaa.Sp.u64_not
set_option linter.unusedVariables false
set_option linter.unusedSimpArgs false

/-! ### linear_Mean: function 65 -/
def linear_Mean.f (a0 : Int) (l1 : List (List Int)) : Option (List Int × Int) := if I64 a0 ∧ (∀ v ∈ l1, V64 v) ∧ fewV l1 = true then some (meanL a0 l1) else none
theorem linear_Mean.of (a0 : Int) (l1 : List (List Int)) (h : I64 a0 ∧ (∀ v ∈ l1, V64 v) ∧ fewV l1 = true) : linear_Mean.f a0 l1 = some (meanL a0 l1) := if_pos h
set_option maxHeartbeats 4000000 in
set_option maxRecDepth 100000 in
theorem linear_Mean.calls (a0 : Int) (A1 : Option Addr) (c1 : Nat) (l1 : List (List Int)) (r1 : List Int) (r2 : Int) (w : World) (hr1 : Kd.C (Kd.slice 2 (Kd.int .i64)) w A1 l1.length l1) (hc1 : l1.length ≤ c1) (h : linear_Mean.f a0 l1 = some (r1, r2)) :
    Calls Try.prog 65 #[.int .i64 a0, .slice A1 l1.length c1] w fun e w' => ∃ v0_ : Value, e = .returned (.tuple #[v0_, .int .i64 r2]) ∧ Kd.R (Kd.int .i64) 2 w' w.heap.size (fun _ => True) v0_ r1 ∧ Below w.heap.size w w' := by
  unfold linear_Mean.f at h
  split at h
  case isFalse => cases h
  rename_i hv
  have h := Option.some.inj h
  have HV := Aside0.mk hv
  clear hv
  unfold meanL at h
  have HR1 := Aside0.mk hr1
  have HC1 := Aside0.mk hc1
  clear hr1 hc1
  by_cases c : a0 < 1
  · rw [if_pos c] at h
    cases h
    have cb : decide (a0 < 1) = true := decide_eq_true c
    clear c
    go_enter Try.func65, Try.ntmps65
    go_wp2
    go_ret2
    exact ⟨_, rfl, Kd.R_nil _ _ _ _ _, by repeat (first | exact Below.refl _ _ | apply zzN)⟩
  · rw [if_neg c] at h
    have cb : decide (a0 < 1) = false := decide_eq_false c
    clear c
    obtain ⟨⟨t, e⟩, ht⟩ : ∃ p, sumsV l1 = p := ⟨_, rfl⟩
    have hlen := sumsV_lle l1
    have hv64 := sumsV_v64 l1 HV.out.2.1
    rw [ht] at h hlen hv64
    simp only [] at h hlen hv64
    have HL := Aside0.mk hlen
    have HT := Aside0.mk hv64
    have A4 : Aside0 (vec_Sum.f l1 = some (t, e)) := ⟨(show vec_Sum.f l1 = some (sumsV l1) from if_pos HV.out.2).trans (congrArg some ht)⟩
    clear hlen hv64 ht
    by_cases he : e = 0
    · rw [if_pos he] at h
      subst he
      rw [← seqFrom_start] at h
      have HG := Aside0.mk h
      clear h
      go_enter Try.func65, Try.ntmps65
      go_wp2_with (go_at_call 123; (with_reducible refine (vec_Sum.calls A1 c1 l1 t 0 _ HR1.out HC1.out A4.out).mono ?_); rintro ed W1 ⟨v_, rfl, hR, hb⟩; have HO := Aside0.mk (Kd.R_lower hR (Nat.le_refl _)); have HB := Aside0.mk hb; clear hR hb; obtain ⟨Ao, co, eo⟩ := Kd.R_slice HO.out; subst eo)
      go_loopw [22] (fun i W => ∃ (k : Nat) (acc : List Int), i = .int .i64 k ∧ Aside0 (k ≤ t.length) ∧ Aside0 (acc.length = k) ∧ Aside0 (seqFrom (fun x => divF x a0 0) (t.drop k) acc = (r1, r2)) ∧ Aside0 (Kd.R (Kd.int .i64) 2 W w.heap.size (fun _ => True) (.slice Ao t.length co) (acc ++ t.drop k)) ∧ Aside0 (Below w.heap.size w W)) (fun i _ => t.length - (intOf i).toNat)
      case atStart => exact ⟨0, [], rfl, ⟨Nat.zero_le _⟩, ⟨rfl⟩, ⟨by rw [List.drop_zero]; exact HG.out⟩, ⟨by rw [List.drop_zero, List.nil_append]; exact HO.out⟩, HB⟩
      case round =>
        obtain ⟨k, acc, rfl, ⟨hk⟩, ⟨hacc⟩, ⟨hgo⟩, HO, HB⟩ := hrel
        clear HG
        by_cases hlt : k < t.length
        · obtain ⟨g, hg⟩ : ∃ g, Ao = some ⟨g, 0, none⟩ := by
            have hx := HO.out
            obtain ⟨g, cap, he, _⟩ := Kd.R_form hx (by rw [List.length_append, List.length_drop]; omega)
            injection he with h1 _ _
            exact ⟨g, h1⟩
          subst hg
          have hrd : rd (acc ++ t.drop k) (k : Int) = rd t k := by
            rw [rd_nat hlt, rd_nat (by rw [List.length_append, List.length_drop]; omega), List.getElem_append_right (by omega)]
            simp [hacc]
          have hcell := (Kd.R_celln 0 HO.out (k : Int) (by omega) (by omega)).1
          have hfr := (Kd.R_celln 0 HO.out (k : Int) (by omega) (by omega)).2
          rw [show rdOf 0 (acc ++ t.drop k) (k : Int) = rd t k from hrd] at hcell
          simp only [Int.toNat_natCast] at hcell hfr
          rw [List.drop_eq_getElem_cons hlt] at hgo
          obtain ⟨⟨q, f⟩, hq⟩ : ∃ p, divF (rd t k) a0 0 = p := ⟨_, rfl⟩
          have HA : Aside0 (fix_Quot.f (rd t k) a0 = some (q, f)) := ⟨(fix_Quot.of _ _ ⟨HT.out.rd _, HV.out.1⟩).trans (congrArg some hq)⟩
          have e1 : t[k] = rd t k := (rd_nat hlt).symm
          have hset : (acc ++ t.drop k).set k q = (acc ++ [q]) ++ t.drop (k + 1) := by
            rw [List.set_append_right _ _ (by omega), hacc, Nat.sub_self, List.drop_eq_getElem_cons hlt, List.set_cons_zero]
            simp
          have HS := Aside0.mk hset
          have HKL := Aside0.mk hacc
          have HLT := Aside0.mk hlt
          clear hset hrd hacc hk
          by_cases hf : f = 0
          · rw [seqFrom_ok (g := fun x => divF x a0 0) (by rw [e1, hq]; exact hf), e1, hq] at hgo
            subst hf
            have HG := Aside0.mk hgo
            clear hgo hq e1
            go_wp2_with (go_at_call 124; (with_reducible refine (fix_Quot.calls (rd t k) a0 q 0 _ HA.out).mono ?_); rintro ed W2 ⟨rfl, ⟨nd, rfl⟩⟩)
            have hp := (Kd.R_putg (rrN HO.out nd) (k : Int) q).1
            simp only [Int.toNat_natCast] at hp
            rw [HS.out] at hp
            have hL := HL.out
            exact ⟨⟨k + 1, acc ++ [q], by rw [wrap64_of (show I64 ((k : Int) + 1) by unfold I64; omega)]; rfl, ⟨HLT.out⟩, ⟨by have := HKL.out; simp; omega⟩, HG, ⟨hp⟩, ⟨(zzN HB.out _).setCell (by obtain ⟨_, _, he, hb, _⟩ := Kd.R_form HO.out (by have := HKL.out; have := HLT.out; rw [List.length_append, List.length_drop]; omega); injection he with h1 _ _; injection h1 with h1; injection h1 with h1 _ _; show w.heap.size ≤ g; rw [h1]; exact hb) _⟩⟩, by rw [wrap64_of (show I64 ((k : Int) + 1) by unfold I64; omega)]; simp [intOf]; omega⟩
          · rw [seqFrom_bad (g := fun x => divF x a0 0) (by rw [e1, hq]; exact hf), e1, hq] at hgo
            obtain ⟨h1, h2⟩ : [] = r1 ∧ f = r2 := by cases hgo; exact ⟨rfl, rfl⟩
            clear hgo
            subst h1
            subst h2
            have he0 : (f == 0) = false := beq_eq_false_iff_ne.2 hf
            have he1 : (f != 0) = true := bne_iff_ne.2 hf
            clear hf hq e1
            go_wp2_with (go_at_call 124; (with_reducible refine (fix_Quot.calls (rd t k) a0 q f _ HA.out).mono ?_); rintro ed W2 ⟨rfl, ⟨nd, rfl⟩⟩)
            go_ret2
            exact ⟨_, rfl, Kd.R_nil _ _ _ _ _, (zzN HB.out _).setCell (by obtain ⟨_, _, he, hb, _⟩ := Kd.R_form HO.out (by have := HKL.out; have := HLT.out; rw [List.length_append, List.length_drop]; omega); injection he with h1 _ _; injection h1 with h1; injection h1 with h1 _ _; show w.heap.size ≤ g; rw [h1]; exact hb) _⟩
        · have hkn : k = t.length := by omega
          rw [hkn, List.drop_length, seqFrom_nil] at hgo
          cases hgo
          have HO2 := HO.out
          rw [hkn, List.drop_length, List.append_nil] at HO2
          have HO3 := Aside0.mk HO2
          subst hkn
          clear HO2 HO hk
          go_wp2
          go_ret2
          exact ⟨_, rfl, HO3.out, HB.out⟩
    · rw [if_neg he] at h
      obtain ⟨h1, h2⟩ : r1 = [] ∧ r2 = e := by cases h; exact ⟨rfl, rfl⟩
      rw [h1, h2]
      clear h h1 h2
      have he0 : (e == 0) = false := beq_eq_false_iff_ne.2 he
      have he1 : (e != 0) = true := bne_iff_ne.2 he
      clear he
      go_enter Try.func65, Try.ntmps65
      go_wp2_with (go_at_call 123; (with_reducible refine (vec_Sum.calls A1 c1 l1 t e _ HR1.out HC1.out A4.out).mono ?_); rintro ed W1 ⟨v_, rfl, hR, hb⟩; have HO := Aside0.mk (Kd.R_lower hR (Nat.le_refl _)); have HB := Aside0.mk hb; clear hR hb; obtain ⟨Ao, co, eo⟩ := Kd.R_slice HO.out; subst eo)
      go_ret2
      exact ⟨_, rfl, Kd.R_nil _ _ _ _ _, HB.out⟩


/-! ### fix_SubP: function 107 -/
def fix_SubP.f (a0 : Int) (a1 : Int) : Option (Int × Int) := if (Go.bits .and .i64 (Go.bits .xor .i64 a0 a1) (Go.bits .xor .i64 a0 (wrap64 (a0 - a1)))) < 0 then (some (0, 2)) else (some (wrap64 (a0 - a1), 0))
set_option maxHeartbeats 8000000 in
set_option maxRecDepth 100000 in
theorem fix_SubP.calls (a0 : Int) (a1 : Int) (r1 : Int) (r2 : Int) (w : World) (h : fix_SubP.f a0 a1 = some (r1, r2)) :
  Calls Try.prog 107 #[.int .i64 a0, .int .i64 a1] w fun e w' => e = .returned (.tuple #[.int .i64 r1, .int .i64 r2]) ∧ Drawn0 w w' := by
 have H : (if (Go.bits .and .i64 (Go.bits .xor .i64 a0 a1) (Go.bits .xor .i64 a0 (wrap64 (a0 - a1)))) < 0 then (some (0, 2)) else (some (wrap64 (a0 - a1), 0))) = some (r1, r2) := h
 clear h
 by_cases c3 : (Go.bits .and .i64 (Go.bits .xor .i64 a0 a1) (Go.bits .xor .i64 a0 (wrap64 (a0 - a1)))) < 0
 ·
  rw [if_pos c3] at H
  have c3b0 : decide ((Go.bits .and .i64 (Go.bits .xor .i64 a0 a1) (Go.bits .xor .i64 a0 (wrap64 (a0 - a1)))) < 0) = true := decide_eq_true c3
  clear c3
  simp only [Option.some.injEq, Prod.mk.injEq] at H
  obtain ⟨rfl, rfl⟩ := H
  go_enter Try.func107, Try.ntmps107
  go_wp2
  go_ret2
  exact ⟨by first | rfl | (simp; done) | (simp [*]; done), by repeat (first | exact ddR _ | apply ddS)⟩
 ·
  rw [if_neg c3] at H
  have c3b0 : decide ((Go.bits .and .i64 (Go.bits .xor .i64 a0 a1) (Go.bits .xor .i64 a0 (wrap64 (a0 - a1)))) < 0) = false := decide_eq_false c3
  clear c3
  simp only [Option.some.injEq, Prod.mk.injEq] at H
  obtain ⟨rfl, rfl⟩ := H
  go_enter Try.func107, Try.ntmps107
  go_wp2
  go_ret2
  exact ⟨by first | rfl | (simp; done) | (simp [*]; done), by repeat (first | exact ddR _ | apply ddS)⟩

def fix_Sub.f (a0 a1 : Int) : Option (Int × Int) := if I64 a0 ∧ I64 a1 then some (res (a0 - a1)) else none
theorem fix_Sub.of (a0 a1 : Int)  (h_ : I64 a0 ∧ I64 a1) : fix_Sub.f a0 a1 = some (res (a0 - a1)) := if_pos h_
theorem fix_Sub.calls (a0 : Int) (a1 : Int) (r1 : Int) (r2 : Int) (w : World) (h : fix_Sub.f a0 a1 = some (r1, r2)) :
    Calls Try.prog 107 #[.int .i64 a0, .int .i64 a1] w fun e w' => e = .returned (.tuple #[.int .i64 r1, .int .i64 r2]) ∧ Drawn0 w w' := by
  unfold fix_Sub.f at h
  split at h
  · rename_i hu
    refine fix_SubP.calls a0 a1 r1 r2 w (Eq.trans ?_ h)
    unfold fix_SubP.f
    have hw := wrap64_i64 (a0 - a1)
    have t := and_neg (xor_i64_i64 a0 a1) (xor_i64_i64 a0 (wrap64 (a0 - a1)))
    rw [xor_neg hu.1 hu.2, xor_neg hu.1 hw] at t
    obtain ⟨h0, h1⟩ := hu
    by_cases c : I64 (a0 - a1)
    · rw [res_of c, wrap64_of c] at *
      rw [if_neg (by rw [t]; omega)]
    · rw [res_not c]
      unfold I64 at h0 h1 c
      rw [if_pos (by rw [t, wrap64_def]; omega)]
  · cases h


/-! ### linear_OffP: function 63 -/
def linear_OffP.f (l0 : List Int) (l1_0 : List Int) (a1_1 : Int) (a2 : Int) : Option (Int × Int) := (linear_Tell.f l0 l1_0 a2).bind fun bt142 => (if bt142.2 = 0 then ((fix_Sub.f bt142.1 a1_1).bind fun bt144 => (some (bt144.1, bt144.2))) else (some (0, bt142.2)))
set_option maxHeartbeats 8000000 in
set_option maxRecDepth 100000 in
theorem linear_OffP.calls (A0 : Option Addr) (c0 : Nat) (l0 : List Int) (A1_0 : Option Addr) (c1_0 : Nat) (l1_0 : List Int) (a1_1 : Int) (a2 : Int) (r1 : Int) (r2 : Int) (w : World) (hr0 : Kd.C (Kd.int .i64) w A0 l0.length l0) (hc0 : l0.length ≤ c0) (hr1_0 : Kd.C (Kd.int .i64) w A1_0 l1_0.length l1_0) (hc1_0 : l1_0.length ≤ c1_0) (h : linear_OffP.f l0 l1_0 a1_1 a2 = some (r1, r2)) :
  Calls Try.prog 63 #[.slice A0 l0.length c0, .agg #[.slice A1_0 l1_0.length c1_0, .int .i64 a1_1], .int .i64 a2] w fun e w' => e = .returned (.tuple #[.int .i64 r1, .int .i64 r2]) ∧ Below w.heap.size w w' := by
 have hu26 := Try.underlying26
 have HR0 := Aside0.mk hr0
 have HC0 := Aside0.mk hc0
 clear hr0 hc0
 have HR1_0 := Aside0.mk hr1_0
 have HC1_0 := Aside0.mk hc1_0
 clear hr1_0 hc1_0
 have HB := Aside0.mk (Below.refl w.heap.size w)
 have H : ((linear_Tell.f l0 l1_0 a2).bind fun bt142 => (if bt142.2 = 0 then ((fix_Sub.f bt142.1 a1_1).bind fun bt144 => (some (bt144.1, bt144.2))) else (some (0, bt142.2)))) = some (r1, r2) := h
 clear h
 replace H := Option.bind_eq_some_iff.mp H
 obtain ⟨⟨t142, t143⟩, A40, H⟩ := H
 replace H : (if t143 = 0 then ((fix_Sub.f t142 a1_1).bind fun bt144 => (some (bt144.1, bt144.2))) else (some (0, t143))) = some (r1, r2) := H
 have A4 := Aside0.mk A40
 clear A40
 by_cases c5 : t143 = 0
 ·
  rw [if_pos c5] at H
  have c5b0 : (t143 == 0) = true := beq_iff_eq.mpr c5
  have c5b1 : (t143 != 0) = false := bne_eq_false_iff_eq.mpr c5
  clear c5
  replace H := Option.bind_eq_some_iff.mp H
  obtain ⟨⟨t144, t145⟩, A60, H⟩ := H
  replace H : (some (t144, t145)) = some (r1, r2) := H
  have A6 := Aside0.mk A60
  clear A60
  simp only [Option.some.injEq, Prod.mk.injEq] at H
  obtain ⟨rfl, rfl⟩ := H
  go_enter Try.func63, Try.ntmps63
  go_wp2_with (first | ((with_reducible refine gate_dst (N := 4) rfl ?_); refine box_event ?hg (N := 4) ?hd (cs := #[.slice A1_0 l1_0.length c1_0, .int .i64 a1_1]) (t := 26) ?hr ?_; (case hd => rfl); (case hg => rfl); (case hr => first | (go_simp; done) | (go_simp; rfl)); intro gb141 hg w7 hbox hb; have n0_ := Aside0.mk (zzT (by repeat (first | (with_reducible first | exact HB.out | apply zzA | apply zzN | apply zzD) | exact HB.out)) hb); have n1_ := Aside0.mk (hbox); have n2_ := Aside0.mk ((by rw [hg]; exact (zzS (by repeat (first | (with_reducible first | exact HB.out | apply zzA | apply zzN | apply zzD) | exact HB.out))) : w.heap.size ≤ gb141)); have n3_ := Aside0.mk ((by rw [hg]; exact (zzS (by repeat (first | (with_reducible first | exact HB.out | apply zzA | apply zzN | apply zzD) | exact HB.out))) : w.heap.size ≤ gb141)); clear HB; have HB := n0_; have BK141 := n1_; have GW141 := n2_; have GE141 := n3_; clear n0_ n1_ n2_ n3_; clear hb hbox hg; have hcz8_0 : w7.cell? ⟨gb141, 0, none⟩ = some (.slice A1_0 l1_0.length c1_0) := (blk_cell BK141.out 0).trans rfl; have hcz8_1 : w7.cell? ⟨gb141, 1, none⟩ = some (.int .i64 a1_1) := (blk_cell BK141.out 1).trans rfl; have hfz8_0 := blk_frozen BK141.out 0; have hfz8_1 := blk_frozen BK141.out 1) | ((with_reducible refine gate_callee (f := 33) rfl ?_); refine goesL_ (some 15) rfl rfl Try.func33 (by kernel_rfl) rfl #[.slice A0 l0.length c0, .slice A1_0 l1_0.length c1_0, .int .i64 a2] rfl (by (try simp only [List.map_toArray, List.map_cons, List.map_nil]); first | done | rfl | (simp only [List.length_drop, List.length_take]; rfl)) ?_; (with_reducible refine (linear_Tell.calls _ _ l0 (fun k_ => k_ < w.heap.size) _ _ l1_0 a2 t142 t143 _ ?side1 ?side2 ?side3 A4.out).mono ?_); (case side1 => repeat (first | exact (Kd.C_below HR0.out HB.out) | (with_reducible refine ccA ?_ _) | (with_reducible refine ccN ?_ _) | (with_reducible refine ccD ?_))); (case side2 => exact HC0.out); (case side3 => exact Kd.V_mk HC1_0.out (Kd.F_below (Kd.C_F (Kd.heap_int .i64) HR1_0.out) (by repeat (first | (with_reducible first | exact HB.out | apply zzA | apply zzN | apply zzD | refine below_set ?_ GE141.out) | exact HB.out)))); rintro e w9 ⟨rfl, hb⟩; refine ⟨_, rfl, ?_⟩; have n0_ := Aside0.mk (blk_below (g := gb141) (o := .cells #[.slice A1_0 l1_0.length c1_0, .int .i64 a1_1] 26 (0, 0)) (by (with_reducible repeat (first | refine kkN ?_ _ | refine kkD ?_ | refine kkA ?_ _)); exact BK141.out) hb); have n1_ := Aside0.mk (zzT (by repeat (first | (with_reducible first | exact HB.out | apply zzA | apply zzN | apply zzD | refine below_set ?_ GE141.out) | exact HB.out)) hb); clear BK141; clear HB; have BK141 := n0_; have HB := n1_; clear n0_ n1_; (try clear hb); (try clear hb2); (try clear hk); (try clear hi); have hcz10_0 : w9.cell? ⟨gb141, 0, none⟩ = some (.slice A1_0 l1_0.length c1_0) := (blk_cell BK141.out 0).trans rfl; have hcz10_1 : w9.cell? ⟨gb141, 1, none⟩ = some (.int .i64 a1_1) := (blk_cell BK141.out 1).trans rfl; have hfz10_0 := blk_frozen BK141.out 0; have hfz10_1 := blk_frozen BK141.out 1) | ((with_reducible refine gate_callee (f := 107) rfl ?_); refine goesL_ (some 24) rfl rfl Try.func107 (by kernel_rfl) rfl #[.int .i64 t142, .int .i64 a1_1] rfl (by (try simp only [List.map_toArray, List.map_cons, List.map_nil]); first | done | rfl | (simp only [List.length_drop, List.length_take]; rfl)) ?_; (with_reducible refine (fix_Sub.calls t142 a1_1 t144 t145 _ A6.out).mono ?_); rintro e w' ⟨rfl, ⟨nd, rfl⟩⟩; refine ⟨_, rfl, ?_⟩))
  go_ret2
  exact ⟨by first | rfl | (simp [errW_none, errW_some] <;> rfl) | (simp [*, errW_none, errW_some] <;> rfl), by repeat (first | (with_reducible first | exact HB.out | apply zzA | apply zzN | apply zzD | refine below_set ?_ GE141.out) | exact HB.out)⟩
 ·
  rw [if_neg c5] at H
  have c5b0 : (t143 == 0) = false := beq_eq_false_iff_ne.mpr c5
  have c5b1 : (t143 != 0) = true := bne_iff_ne.mpr c5
  simp only [Option.some.injEq, Prod.mk.injEq] at H
  obtain ⟨rfl, rfl⟩ := H
  go_enter Try.func63, Try.ntmps63
  go_wp2_with (first | ((with_reducible refine gate_dst (N := 4) rfl ?_); refine box_event ?hg (N := 4) ?hd (cs := #[.slice A1_0 l1_0.length c1_0, .int .i64 a1_1]) (t := 26) ?hr ?_; (case hd => rfl); (case hg => rfl); (case hr => first | (go_simp; done) | (go_simp; rfl)); intro gb141 hg w11 hbox hb; have n0_ := Aside0.mk (zzT (by repeat (first | (with_reducible first | exact HB.out | apply zzA | apply zzN | apply zzD) | exact HB.out)) hb); have n1_ := Aside0.mk (hbox); have n2_ := Aside0.mk ((by rw [hg]; exact (zzS (by repeat (first | (with_reducible first | exact HB.out | apply zzA | apply zzN | apply zzD) | exact HB.out))) : w.heap.size ≤ gb141)); have n3_ := Aside0.mk ((by rw [hg]; exact (zzS (by repeat (first | (with_reducible first | exact HB.out | apply zzA | apply zzN | apply zzD) | exact HB.out))) : w.heap.size ≤ gb141)); clear HB; have HB := n0_; have BK141 := n1_; have GW141 := n2_; have GE141 := n3_; clear n0_ n1_ n2_ n3_; clear hb hbox hg; have hcz12_0 : w11.cell? ⟨gb141, 0, none⟩ = some (.slice A1_0 l1_0.length c1_0) := (blk_cell BK141.out 0).trans rfl; have hcz12_1 : w11.cell? ⟨gb141, 1, none⟩ = some (.int .i64 a1_1) := (blk_cell BK141.out 1).trans rfl; have hfz12_0 := blk_frozen BK141.out 0; have hfz12_1 := blk_frozen BK141.out 1) | ((with_reducible refine gate_callee (f := 33) rfl ?_); refine goesL_ (some 15) rfl rfl Try.func33 (by kernel_rfl) rfl #[.slice A0 l0.length c0, .slice A1_0 l1_0.length c1_0, .int .i64 a2] rfl (by (try simp only [List.map_toArray, List.map_cons, List.map_nil]); first | done | rfl | (simp only [List.length_drop, List.length_take]; rfl)) ?_; (with_reducible refine (linear_Tell.calls _ _ l0 (fun k_ => k_ < w.heap.size) _ _ l1_0 a2 t142 t143 _ ?side1 ?side2 ?side3 A4.out).mono ?_); (case side1 => repeat (first | exact (Kd.C_below HR0.out HB.out) | (with_reducible refine ccA ?_ _) | (with_reducible refine ccN ?_ _) | (with_reducible refine ccD ?_))); (case side2 => exact HC0.out); (case side3 => exact Kd.V_mk HC1_0.out (Kd.F_below (Kd.C_F (Kd.heap_int .i64) HR1_0.out) (by repeat (first | (with_reducible first | exact HB.out | apply zzA | apply zzN | apply zzD | refine below_set ?_ GE141.out) | exact HB.out)))); rintro e w13 ⟨rfl, hb⟩; refine ⟨_, rfl, ?_⟩; have n0_ := Aside0.mk (blk_below (g := gb141) (o := .cells #[.slice A1_0 l1_0.length c1_0, .int .i64 a1_1] 26 (0, 0)) (by (with_reducible repeat (first | refine kkN ?_ _ | refine kkD ?_ | refine kkA ?_ _)); exact BK141.out) hb); have n1_ := Aside0.mk (zzT (by repeat (first | (with_reducible first | exact HB.out | apply zzA | apply zzN | apply zzD | refine below_set ?_ GE141.out) | exact HB.out)) hb); clear BK141; clear HB; have BK141 := n0_; have HB := n1_; clear n0_ n1_; (try clear hb); (try clear hb2); (try clear hk); (try clear hi)))
  go_ret2
  exact ⟨by first | rfl | (simp [errW_none, errW_some] <;> rfl) | (simp [*, errW_none, errW_some] <;> rfl), by repeat (first | (with_reducible first | exact HB.out | apply zzA | apply zzN | apply zzD | refine below_set ?_ GE141.out) | exact HB.out)⟩

def linear_Off.f (l0 l1_0 : List Int) (a1_1 a2 : Int) : Option (Int × Int) := if V64 l0 ∧ V64 l1_0 ∧ I64 a1_1 then some (offL l0 l1_0 a1_1 a2) else none
theorem linear_Off.of (l0 l1_0 : List Int) (a1_1 a2 : Int)  (h_ : V64 l0 ∧ V64 l1_0 ∧ I64 a1_1) : linear_Off.f l0 l1_0 a1_1 a2 = some (offL l0 l1_0 a1_1 a2) := if_pos h_
theorem linear_OffP.is (l0 l1_0 : List Int) (a1_1 a2 : Int) (h0 : V64 l0) (h1 : V64 l1_0) (h2 : I64 a1_1) : linear_OffP.f l0 l1_0 a1_1 a2 = some (offL l0 l1_0 a1_1 a2) := by
  unfold linear_OffP.f offL
  rw [linear_Tell.of _ _ _ ⟨h0, h1⟩]
  simp only [Option.bind_some]
  by_cases d : (tellL l0 l1_0 a2).2 = 0
  · rw [if_pos d, if_pos d, fix_Sub.of _ _ ⟨tellL_i64 _ _ _, h2⟩]; rfl
  · rw [if_neg d, if_neg d]
theorem linear_Off.calls (A0 : Option Addr) (c0 : Nat) (l0 : List Int) (A1_0 : Option Addr) (c1_0 : Nat) (l1_0 : List Int) (a1_1 : Int) (a2 : Int) (r1 : Int) (r2 : Int) (w : World) (hr0 : Kd.C (Kd.int .i64) w A0 l0.length l0) (hc0 : l0.length ≤ c0) (hr1_0 : Kd.C (Kd.int .i64) w A1_0 l1_0.length l1_0) (hc1_0 : l1_0.length ≤ c1_0) (h : linear_Off.f l0 l1_0 a1_1 a2 = some (r1, r2)) :
    Calls Try.prog 63 #[.slice A0 l0.length c0, .agg #[.slice A1_0 l1_0.length c1_0, .int .i64 a1_1], .int .i64 a2] w fun e w' => e = .returned (.tuple #[.int .i64 r1, .int .i64 r2]) ∧ Below w.heap.size w w' := by
  unfold linear_Off.f at h
  split at h
  case isFalse => cases h
  rename_i hv
  exact linear_OffP.calls A0 c0 l0 A1_0 c1_0 l1_0 a1_1 a2 r1 r2 w hr0 hc0 hr1_0 hc1_0 ((linear_OffP.is l0 l1_0 a1_1 a2 hv.1 hv.2.1 hv.2.2).trans h)


/-! ### linear_walk: function 127 -/
/-- What a walk through samples comes to. -/
def walkGo {σ α : Type} (off : α → Int × Int) (stp : σ → α → Int → σ × Int) : List α → σ → σ × Int
  | [], s => (s, 0)
  | x :: l, s => if (off x).2 = 0 then (if (stp s x (off x).1).2 = 0 then walkGo off stp l (stp s x (off x).1).1 else stp s x (off x).1) else (s, (off x).2)
def walkF {σ : Type} (w : List Int) (f : Int) (l : List S26) (stp : σ → S26 → Int → σ × Int) (s : σ) : σ × Int :=
  if checkL (wrap64 ((w.length : Int) - 1)) w (l.map sm) = 0 then walkGo (fun x : S26 => offL w x.f0 x.f1 f) stp l s else (s, checkL (wrap64 ((w.length : Int) - 1)) w (l.map sm))
set_option maxHeartbeats 4000000 in
set_option maxRecDepth 100000 in
theorem linear_walk.calls {σ : Type} (K : Nat) (caps : Array Value) (I : Nat → World → σ → Prop) (stp : σ → S26 → Int → σ × Int) (A0 : Option Addr) (c0 : Nat) (l0 : List Int) (a1 : Int) (A2 : Option Addr) (c2 : Nat) (l2 : List S26) (w0 w : World) (s0 sf : σ) (ef : Int)
    (hent : ∀ (args : Array Value) (w : World), (callFunc K args).run Try.prog w = .ok (.enter K args) w)
    (hr0 : Kd.C (Kd.int .i64) w0 A0 l0.length l0) (hc0 : l0.length ≤ c0) (hr2 : Kd.C k26 w0 A2 l2.length l2) (hc2 : l2.length ≤ c2) (hv : V64 l0 ∧ ∀ s ∈ l2, Sm64 s)
    (hB : Below w0.heap.size w0 w) (hI : I 0 w s0) (hst : ∀ k W W' s, I k W s → Below W.heap.size W W' → I k W' s)
    (hK : ∀ k W s (x : S26) A c o, k < l2.length → l2.length ≤ 64 → Sm64 x → I64 o → Below w0.heap.size w0 W → I k W s → Kd.C (Kd.int .i64) W A x.f0.length x.f0 → x.f0.length ≤ c →
      Calls Try.prog K (#[.agg #[.slice A x.f0.length c, .int .i64 x.f1], .int .i64 o] ++ caps) W fun ed W' => ed = .returned (.int .i64 (stp s x o).2) ∧ I (k + 1) W' (stp s x o).1 ∧ Below w0.heap.size w0 W')
    (h : walkF l0 a1 l2 stp s0 = (sf, ef)) :
    Calls Try.prog 127 #[.slice A0 l0.length c0, .int .i64 a1, .slice A2 l2.length c2, .func (.func K) #[] caps] w fun e w' => e = .returned (.int .i64 ef) ∧ (∃ k, I k w' sf) ∧ Below w0.heap.size w0 w' := by
  have hu := Try.underlying26
  have HR0 := Aside0.mk hr0
  have HC0 := Aside0.mk hc0
  have HR2 := Aside0.mk hr2
  have HC2 := Aside0.mk hc2
  have HB := Aside0.mk hB
  have HI := Aside0.mk hI
  have HK := Aside0.mk hK
  have HST := Aside0.mk hst
  have HV := Aside0.mk hv
  have hmx := Kd.C_max hr2
  have HM := Aside0.mk hmx
  obtain ⟨ce, hce⟩ : ∃ c, checkL (wrap64 ((l0.length : Int) - 1)) l0 (l2.map sm) = c := ⟨_, rfl⟩
  have A3 : Aside0 (linear_Check.f (wrap64 ((l0.length : Int) - 1)) l0 l2 = some ce) := ⟨congrArg some hce⟩
  have hlen : ce = 0 → l2.length ≤ 64 := fun e => by have := (checkL_len (hce.trans e)).2.2.2.2.2; rwa [List.length_map] at this
  have HL := Aside0.mk hlen
  unfold walkF at h
  rw [hce] at h
  have hstart : (if ce = 0 then walkGo (fun x : S26 => offL l0 x.f0 x.f1 a1) stp l2 s0 else (s0, ce)) = (sf, ef) := h
  have HG := Aside0.mk hstart
  clear hr0 hc0 hr2 hc2 hB hI hK hst hv hmx h hstart hlen hce
  go_enter Try.func127, Try.ntmps127
  go_wp2_with (go_at_call 69; (with_reducible refine (linear_Check.calls (wrap64 ((l0.length : Int) - 1)) A0 c0 l0 A2 c2 l2 ce _ (Kd.C_below HR0.out HB.out) HC0.out (Kd.C_below HR2.out HB.out) HC2.out A3.out).mono ?_); rintro ed W1 ⟨rfl, hb⟩; have n0 := Aside0.mk (below_then HB.out HB.out.size hb); have n1 := Aside0.mk (HST.out _ _ _ _ HI.out hb); clear HB HI hb; have HB := n0; have HI := n1; clear n0 n1)
  go_loopw [9, 21] (fun ve vi W => ∃ (k j : Nat) (e : Int) (s : σ), ve = .int .i64 e ∧ vi = .int .i64 k ∧ Aside0 (k ≤ l2.length) ∧ Aside0 (e = 0 → j = k) ∧ Aside0 (e = 0 → l2.length ≤ 64) ∧ Aside0 (I j W s) ∧ Aside0 ((if e = 0 then walkGo (fun x : S26 => offL l0 x.f0 x.f1 a1) stp (l2.drop k) s else (s, e)) = (sf, ef)) ∧ Aside0 (Below w0.heap.size w0 W)) (fun _ i _ => l2.length - (intOf i).toNat)
  case atStart => exact ⟨0, 0, ce, s0, rfl, rfl, ⟨Nat.zero_le _⟩, ⟨fun _ => rfl⟩, HL, HI, ⟨by rw [List.drop_zero]; exact HG.out⟩, HB⟩
  case round =>
    obtain ⟨k, j, e, s, rfl, rfl, ⟨hk⟩, HJ, HL, HI, ⟨hgo⟩, HB⟩ := hrel
    clear HG
    by_cases hlt : k < l2.length
    · have hM := HM.out
      obtain ⟨ad, A, c, rfl, hx0, hx1, hl, hi⟩ := at_T26 HR2.out (k : Int) (by omega) (by omega)
      obtain ⟨x, hx⟩ : ∃ x, rd_T26 l2 (k : Int) = x := ⟨_, rfl⟩
      have hmem : l2[k] = x := (rd_sm hlt).symm.trans hx
      rw [hx] at hx0 hx1 hl hi
      simp only [Int.toNat_natCast] at hx0 hx1
      replace hx0 := (HB.out.cell (World.block_lt_of_cell? _ _ hx0)).trans hx0
      replace hx1 := (HB.out.cell (World.block_lt_of_cell? _ _ hx1)).trans hx1
      have HRX := Aside0.mk hi
      have HCX := Aside0.mk hl
      have hsx : Sm64 x := by rw [← hmem]; exact HV.out.2 _ (List.getElem_mem hlt)
      have HSX := Aside0.mk hsx
      have HLT := Aside0.mk hlt
      have HW := Aside0.mk (Below.refl wr.heap.size wr)
      rw [List.drop_eq_getElem_cons hlt, hmem] at hgo
      clear hl hi hsx hx hmem hk
      by_cases he : e = 0
      · subst he
        rw [if_pos rfl] at hgo
        obtain rfl := HJ.out rfl
        have HL64 := Aside0.mk (HL.out rfl)
        clear HL HJ
        obtain ⟨⟨o, oe⟩, ho⟩ : ∃ p, offL l0 x.f0 x.f1 a1 = p := ⟨_, rfl⟩
        have hoi := offL_i64 l0 x.f0 x.f1 a1
        rw [ho] at hoi
        have HOI := Aside0.mk hoi
        have A5 : Aside0 (linear_Off.f l0 x.f0 x.f1 a1 = some (o, oe)) := ⟨(linear_Off.of _ _ _ _ ⟨HV.out.1, HSX.out.1, HSX.out.2⟩).trans (congrArg some ho)⟩
        unfold walkGo at hgo
        simp only [ho] at hgo
        clear ho hoi
        by_cases hoe : oe = 0
        · subst hoe
          rw [if_pos rfl] at hgo
          have HG := Aside0.mk hgo
          clear hgo
          go_wp2_with (first | ((with_reducible refine gate_dst (N := 11) rfl ?_); refine box_event ?hg (N := 11) ?hd (cs := #[.slice none 0 0, .int .i64 0]) (t := 26) ?hr ?_; (case hd => rfl); (case hg => rfl); (case hr => first | (go_simp; done) | (go_simp; rfl)); intro gb hg w1 hbox hb; have GE : Aside0 (wr.heap.size ≤ gb) := ⟨by rw [hg]; exact HW.out.size⟩; have n0 := Aside0.mk (((below_then HW.out HW.out.size hb).setCell (p := ⟨gb, 0, none⟩) GE.out (.slice A x.f0.length c)).setCell (p := ⟨gb, 1, none⟩) GE.out (.int .i64 x.f1)); have BK := Aside0.mk (blk_put (cs := #[.slice A x.f0.length c, .int .i64 0]) (blk_put (cs := #[.slice none 0 0, .int .i64 0]) hbox 0 (.slice A x.f0.length c) rfl) 1 (.int .i64 x.f1) (cs' := #[.slice A x.f0.length c, .int .i64 x.f1]) rfl); have hz0 : w1.cell? ⟨gb, 0, none⟩ = some (.slice none 0 0) := (blk_cell hbox 0).trans rfl; have hz1 : w1.cell? ⟨gb, 1, none⟩ = some (.int .i64 0) := (blk_cell hbox 1).trans rfl; have hf0 := blk_frozen hbox 0; have hf1 := blk_frozen hbox 1; clear HW; have HW := n0; clear n0 hb hbox hg) | (go_at_call 63; (with_reducible refine (linear_Off.calls A0 c0 l0 A c x.f0 x.f1 a1 o 0 _ (Kd.C_below HR0.out (below_then HB.out HB.out.size HW.out)) HC0.out (Kd.C_below HRX.out (below_then HB.out HB.out.size HW.out)) HCX.out A5.out).mono ?_); rintro ed W2 ⟨rfl, hb⟩; have n0 := Aside0.mk (below_then HW.out HW.out.size hb); have BK := Aside0.mk (blk_below BK.out hb); clear HW hb; have HW := n0; clear n0; have hz0 : W2.cell? ⟨gb, 0, none⟩ = some (.slice A x.f0.length c) := (blk_cell BK.out 0).trans rfl; have hz1 : W2.cell? ⟨gb, 1, none⟩ = some (.int .i64 x.f1) := (blk_cell BK.out 1).trans rfl) | (go_at_fn K; refine (HK.out j _ s x A c o HLT.out HL64.out HSX.out HOI.out (below_then HB.out HB.out.size HW.out) (HST.out _ _ _ _ HI.out HW.out) (Kd.C_below HRX.out (below_then HB.out HB.out.size HW.out)) HCX.out).mono ?_; rintro ed W3 ⟨rfl, hi3, hb3⟩; have HI3 := Aside0.mk hi3; have HB3 := Aside0.mk hb3; clear hi3 hb3))
          refine ⟨⟨j + 1, j + 1, (stp s x o).2, (stp s x o).1, rfl, by first | rfl | (rw [wrap64_of (show I64 ((j : Int) + 1) by unfold I64; omega)]; rfl), ⟨HLT.out⟩, ⟨fun _ => rfl⟩, ⟨fun _ => HL64.out⟩, HI3, ⟨?_⟩, HB3⟩, by have := HLT.out; have := HM.out; (try rw [wrap64_of (show I64 ((j : Int) + 1) by unfold I64; omega)]); simp [intOf]; omega⟩
          have hG := HG.out
          by_cases hse : (stp s x o).2 = 0
          · rw [if_pos hse] at hG ⊢; exact hG
          · rw [if_neg hse] at hG ⊢; exact hG
        · rw [if_neg hoe] at hgo
          have HG := Aside0.mk hgo
          have he0 : (oe == 0) = false := beq_eq_false_iff_ne.2 hoe
          have he1 : (oe != 0) = true := bne_iff_ne.2 hoe
          have HOE := Aside0.mk hoe
          clear hgo hoe
          go_wp2_with (first | ((with_reducible refine gate_dst (N := 11) rfl ?_); refine box_event ?hg (N := 11) ?hd (cs := #[.slice none 0 0, .int .i64 0]) (t := 26) ?hr ?_; (case hd => rfl); (case hg => rfl); (case hr => first | (go_simp; done) | (go_simp; rfl)); intro gb hg w1 hbox hb; have GE : Aside0 (wr.heap.size ≤ gb) := ⟨by rw [hg]; exact HW.out.size⟩; have n0 := Aside0.mk (((below_then HW.out HW.out.size hb).setCell (p := ⟨gb, 0, none⟩) GE.out (.slice A x.f0.length c)).setCell (p := ⟨gb, 1, none⟩) GE.out (.int .i64 x.f1)); have BK := Aside0.mk (blk_put (cs := #[.slice A x.f0.length c, .int .i64 0]) (blk_put (cs := #[.slice none 0 0, .int .i64 0]) hbox 0 (.slice A x.f0.length c) rfl) 1 (.int .i64 x.f1) (cs' := #[.slice A x.f0.length c, .int .i64 x.f1]) rfl); have hz0 : w1.cell? ⟨gb, 0, none⟩ = some (.slice none 0 0) := (blk_cell hbox 0).trans rfl; have hz1 : w1.cell? ⟨gb, 1, none⟩ = some (.int .i64 0) := (blk_cell hbox 1).trans rfl; have hf0 := blk_frozen hbox 0; have hf1 := blk_frozen hbox 1; clear HW; have HW := n0; clear n0 hb hbox hg) | (go_at_call 63; (with_reducible refine (linear_Off.calls A0 c0 l0 A c x.f0 x.f1 a1 o oe _ (Kd.C_below HR0.out (below_then HB.out HB.out.size HW.out)) HC0.out (Kd.C_below HRX.out (below_then HB.out HB.out.size HW.out)) HCX.out A5.out).mono ?_); rintro ed W2 ⟨rfl, hb⟩; have n0 := Aside0.mk (below_then HW.out HW.out.size hb); have BK := Aside0.mk (blk_below BK.out hb); clear HW hb; have HW := n0; clear n0; have hz0 : W2.cell? ⟨gb, 0, none⟩ = some (.slice A x.f0.length c) := (blk_cell BK.out 0).trans rfl; have hz1 : W2.cell? ⟨gb, 1, none⟩ = some (.int .i64 x.f1) := (blk_cell BK.out 1).trans rfl))
          exact ⟨⟨j + 1, j, oe, s, rfl, by first | rfl | (rw [wrap64_of (show I64 ((j : Int) + 1) by unfold I64; omega)]; rfl), ⟨HLT.out⟩, ⟨fun h => absurd h HOE.out⟩, ⟨fun h => absurd h HOE.out⟩, ⟨HST.out _ _ _ _ HI.out HW.out⟩, ⟨by rw [if_neg HOE.out]; exact HG.out⟩, ⟨below_then HB.out HB.out.size HW.out⟩⟩, by have := HLT.out; have := HM.out; (try rw [wrap64_of (show I64 ((j : Int) + 1) by unfold I64; omega)]); simp [intOf]; omega⟩
      · rw [if_neg he] at hgo
        have HG := Aside0.mk hgo
        have he0 : (e == 0) = false := beq_eq_false_iff_ne.2 he
        have he1 : (e != 0) = true := bne_iff_ne.2 he
        have HE := Aside0.mk he
        clear hgo he
        go_wp2_with ((with_reducible refine gate_dst (N := 11) rfl ?_); refine box_event ?hg (N := 11) ?hd (cs := #[.slice none 0 0, .int .i64 0]) (t := 26) ?hr ?_; (case hd => rfl); (case hg => rfl); (case hr => first | (go_simp; done) | (go_simp; rfl)); intro gb hg w1 hbox hb; have GE : Aside0 (wr.heap.size ≤ gb) := ⟨by rw [hg]; exact HW.out.size⟩; have n0 := Aside0.mk (((below_then HW.out HW.out.size hb).setCell (p := ⟨gb, 0, none⟩) GE.out (.slice A x.f0.length c)).setCell (p := ⟨gb, 1, none⟩) GE.out (.int .i64 x.f1)); have BK := Aside0.mk (blk_put (cs := #[.slice A x.f0.length c, .int .i64 0]) (blk_put (cs := #[.slice none 0 0, .int .i64 0]) hbox 0 (.slice A x.f0.length c) rfl) 1 (.int .i64 x.f1) (cs' := #[.slice A x.f0.length c, .int .i64 x.f1]) rfl); have hz0 : w1.cell? ⟨gb, 0, none⟩ = some (.slice none 0 0) := (blk_cell hbox 0).trans rfl; have hz1 : w1.cell? ⟨gb, 1, none⟩ = some (.int .i64 0) := (blk_cell hbox 1).trans rfl; have hf0 := blk_frozen hbox 0; have hf1 := blk_frozen hbox 1; clear HW; have HW := n0; clear n0 hb hbox hg)
        exact ⟨⟨k + 1, j, e, s, rfl, by first | rfl | (rw [wrap64_of (show I64 ((k : Int) + 1) by unfold I64; omega)]; rfl), ⟨HLT.out⟩, ⟨fun h => absurd h HE.out⟩, ⟨fun h => absurd h HE.out⟩, ⟨HST.out _ _ _ _ HI.out HW.out⟩, ⟨by rw [if_neg HE.out]; exact HG.out⟩, ⟨below_then HB.out HB.out.size HW.out⟩⟩, by have := HLT.out; have := HM.out; (try rw [wrap64_of (show I64 ((k : Int) + 1) by unfold I64; omega)]); simp [intOf]; omega⟩
    · have hkn : k = l2.length := by omega
      subst hkn
      rw [List.drop_length] at hgo
      have hef : e = ef ∧ s = sf := by
        by_cases he : e = 0
        · rw [if_pos he] at hgo; cases hgo; exact ⟨he, rfl⟩
        · rw [if_neg he] at hgo; cases hgo; exact ⟨rfl, rfl⟩
      obtain ⟨rfl, rfl⟩ := hef
      clear hgo hk
      go_wp2
      go_ret
      exact ⟨rfl, ⟨_, HI.out⟩, HB.out⟩


-- NOT PRINTED: function 135 (vec_Scale_1)

/-! ### vec_Scale: function 75 -/
set_option maxHeartbeats 2000000 in
set_option maxRecDepth 100000 in
theorem vec_Scale_1.calls (b1 b2 b3 : Nat) (A0 : Option Addr) (c0 : Nat) (l0 : List Int) (a1 : Int) (a2 : Int) (i : Nat) (W : World) (x e : Int)
    (hb1 : W.cell? ⟨b1, 0, none⟩ = some (.slice A0 l0.length c0)) (hb2 : W.cell? ⟨b2, 0, none⟩ = some (.int .i64 a1)) (hb3 : W.cell? ⟨b3, 0, none⟩ = some (.int .i64 a2))
    (hr0 : Kd.C (Kd.int .i64) W A0 l0.length l0) (h0 : i < l0.length)
    (h : fix_Mul.f (rd l0 i) a1 a2 = some (x, e)) :
    Calls Try.prog 135 #[.int .i64 i, .pointer (some ⟨b1, 0, none⟩), .pointer (some ⟨b2, 0, none⟩), .pointer (some ⟨b3, 0, none⟩)] W fun ed W' => ed = .returned (.tuple #[.int .i64 x, .int .i64 e]) ∧ Below W.heap.size W W' := by
  obtain ⟨ad0, rfl, hc0⟩ := Kd.at_int hr0 (i : Int) (by omega) (by omega)
  simp only [Int.toNat_natCast] at hc0
  have HC := Aside0.mk h
  clear hr0 h
  go_enter Try.func135, Try.ntmps135
  go_wp2
  go_region_held3 (fun w' => w'.cell? ⟨b1, 0, none⟩ = some (.slice (some ad0) l0.length c0) ∧ w'.cell? ⟨b2, 0, none⟩ = some (.int .i64 a1) ∧ w'.cell? ⟨b3, 0, none⟩ = some (.int .i64 a2) ∧ w'.cell? (ad0.add i) = some (.int .i64 (rd l0 i)))
    (first | go_keep | (go_split_ands; exact ⟨pw_cell_below hb (by assumption), pw_cell_below hb (by assumption), pw_cell_below hb (by assumption), pw_cell_below hb (by assumption)⟩))
    ((go_at_call 131; (with_reducible refine (fix_Mul.calls (rd l0 i) a1 a2 x e _ HC.out).mono ?_); rintro ed W2 ⟨rfl, hb⟩))
  go_wp2
  go_ret2
  exact ⟨rfl, below_then (below_drew (Below.refl _ _)) (Nat.le_refl _) hb⟩
def vec_Scale.f (l0 : List Int) (a1 a2 : Int) : Option (List Int × Int) := if V64 l0 ∧ I64 a1 then some (scaleV l0 a1 a2) else none
theorem vec_Scale.of (l0 : List Int) (a1 a2 : Int)  (h_ : V64 l0 ∧ I64 a1) : vec_Scale.f l0 a1 a2 = some (scaleV l0 a1 a2) := if_pos h_
set_option maxHeartbeats 2000000 in
set_option maxRecDepth 100000 in
theorem vec_Scale.calls (A0 : Option Addr) (c0 : Nat) (l0 : List Int) (a1 : Int) (a2 : Int) (r1 : List Int) (r2 : Int) (w : World) (hr0 : Kd.C (Kd.int .i64) w A0 l0.length l0) (hc0 : l0.length ≤ c0) (h : vec_Scale.f l0 a1 a2 = some (r1, r2)) :
    Calls Try.prog 75 #[.slice A0 l0.length c0, .int .i64 a1, .int .i64 a2] w fun e w' => ∃ v0_ : Value, e = .returned (.tuple #[v0_, .int .i64 r2]) ∧ Kd.R (Kd.int .i64) 2 w' w.heap.size (fun _ => True) v0_ r1 ∧ Below w.heap.size w w' := by
  unfold vec_Scale.f at h
  split at h
  case isFalse => cases h
  rename_i hv
  have h := Option.some.inj h
  unfold scaleV at h
  have HR0 := Aside0.mk hr0
  have HC0 := Aside0.mk hc0
  clear hr0 hc0
  have HV := Aside0.mk hv
  clear hv
  try have hu22 := Try.underlying22
  try have hu2 := Try.underlying2
  try have hu3 := Try.underlying3
  have HP0 : Aside0 (vec_Check.f l0 = some (checkE l0)) := ⟨vec_Check.of l0⟩
  by_cases hp0 : checkE l0 = 0
  · rw [if_pos hp0] at h
    rw [hp0] at HP0
    have HP1 : Aside0 (vec_behind.f a2 = some (fracE a2)) := ⟨vec_behind.of a2⟩
    by_cases hp1 : fracE a2 = 0
    · rw [if_pos hp1] at h
      rw [hp1] at HP1
      have HN : Aside0 (l0.length ≤ 4096) := ⟨checkE_le hp0⟩
      have HH := Aside0.mk h
      clear h hp0 hp1
      have HX0 : Aside0 ((((w.alloc (Obj.cells #[Value.slice A0 l0.length c0] 22)).alloc (Obj.cells #[Value.int .i64 a1] 2)).alloc (Obj.cells #[Value.int .i64 a2] 3)).cell? ⟨w.heap.size, 0, none⟩ = some (.slice A0 l0.length c0)) := ⟨by simp [go_sem]⟩
      have HX1 : Aside0 ((((w.alloc (Obj.cells #[Value.slice A0 l0.length c0] 22)).alloc (Obj.cells #[Value.int .i64 a1] 2)).alloc (Obj.cells #[Value.int .i64 a2] 3)).cell? ⟨w.heap.size + 1, 0, none⟩ = some (.int .i64 a1)) := ⟨by simp [go_sem]⟩
      have HX2 : Aside0 ((((w.alloc (Obj.cells #[Value.slice A0 l0.length c0] 22)).alloc (Obj.cells #[Value.int .i64 a1] 2)).alloc (Obj.cells #[Value.int .i64 a2] 3)).cell? ⟨w.heap.size + 2, 0, none⟩ = some (.int .i64 a2)) := ⟨by simp [go_sem]⟩
      have HB : Aside0 (Below w.heap.size w (((w.alloc (Obj.cells #[Value.slice A0 l0.length c0] 22)).alloc (Obj.cells #[Value.int .i64 a1] 2)).alloc (Obj.cells #[Value.int .i64 a2] 3))) := ⟨zzA (zzA (zzA (Below.refl _ _) _) _) _⟩
      go_enter Try.func75, Try.ntmps75
      go_wp2_with (first | (go_at_call 110; (with_reducible refine (vec_Check.calls A0 c0 l0 0 _ (Kd.C_below HR0.out HB.out) HC0.out HP0.out).mono ?_); rintro ed W1 ⟨rfl, hd⟩; have hb := hd.below; clear hd; have HB := Aside0.mk (below_then HB.out HB.out.size hb); have HX0 := Aside0.mk (pw_cell_below hb HX0.out); have HX1 := Aside0.mk (pw_cell_below hb HX1.out); have HX2 := Aside0.mk (pw_cell_below hb HX2.out); have hx0 := HX0.out; have hx1 := HX1.out; have hx2 := HX2.out; clear hb) | (go_at_call 133; (with_reducible refine (vec_behind.calls a2 0 _ HP1.out).mono ?_); rintro ed W1 ⟨rfl, hd⟩; have hb := hd; clear hd; have HB := Aside0.mk (below_then HB.out HB.out.size hb); have HX0 := Aside0.mk (pw_cell_below hb HX0.out); have HX1 := Aside0.mk (pw_cell_below hb HX1.out); have HX2 := Aside0.mk (pw_cell_below hb HX2.out); have hx0 := HX0.out; have hx1 := HX1.out; have hx2 := HX2.out; clear hb) | (go_at_call 134; (with_reducible refine (vec_each.calls 135 _ (fun i : Nat => fix_Mul.f (rd l0 i) a1 a2) l0.length (by have := HN.out; omega) _ r1 r2 ?ent ?tells ?go).mono ?_); (case ent => exact enters_of Try.func135 rfl rfl); (case tells => intro i W x e hi hb hg; refine (vec_Scale_1.calls (w.heap.size) (w.heap.size + 1) (w.heap.size + 2) A0 c0 l0 a1 a2 i W x e (pw_cell_below hb HX0.out) (pw_cell_below hb HX1.out) (pw_cell_below hb HX2.out) (Kd.C_below (Kd.C_below HR0.out HB.out) hb) (by omega) hg).mono ?_; rintro ed W' ⟨rfl, hd⟩; exact ⟨rfl, hd⟩); (case go => exact (each_spec (ps := l0.map fun x => mulF x a1 a2) (List.length_map _) (fun j h => by rw [map_get _ j h]; exact fix_Mul.of _ _ _ ⟨HV.out.1.rd _, HV.out.2⟩)).trans (congrArg some HH.out)); rintro ed W2 ⟨v_, rfl, hR, hb⟩; have HO := Aside0.mk (Kd.R_lower hR HB.out.size); have HB2 := Aside0.mk (below_then HB.out HB.out.size hb); clear hR hb))
      go_ret2
      exact ⟨_, rfl, HO.out, HB2.out⟩
    · rw [if_neg hp1] at h
      cases h
      have HX0 : Aside0 ((((w.alloc (Obj.cells #[Value.slice A0 l0.length c0] 22)).alloc (Obj.cells #[Value.int .i64 a1] 2)).alloc (Obj.cells #[Value.int .i64 a2] 3)).cell? ⟨w.heap.size, 0, none⟩ = some (.slice A0 l0.length c0)) := ⟨by simp [go_sem]⟩
      have HX1 : Aside0 ((((w.alloc (Obj.cells #[Value.slice A0 l0.length c0] 22)).alloc (Obj.cells #[Value.int .i64 a1] 2)).alloc (Obj.cells #[Value.int .i64 a2] 3)).cell? ⟨w.heap.size + 1, 0, none⟩ = some (.int .i64 a1)) := ⟨by simp [go_sem]⟩
      have HX2 : Aside0 ((((w.alloc (Obj.cells #[Value.slice A0 l0.length c0] 22)).alloc (Obj.cells #[Value.int .i64 a1] 2)).alloc (Obj.cells #[Value.int .i64 a2] 3)).cell? ⟨w.heap.size + 2, 0, none⟩ = some (.int .i64 a2)) := ⟨by simp [go_sem]⟩
      have HB : Aside0 (Below w.heap.size w (((w.alloc (Obj.cells #[Value.slice A0 l0.length c0] 22)).alloc (Obj.cells #[Value.int .i64 a1] 2)).alloc (Obj.cells #[Value.int .i64 a2] 3))) := ⟨zzA (zzA (zzA (Below.refl _ _) _) _) _⟩
      have he0 : (fracE a2 == 0) = false := beq_eq_false_iff_ne.2 hp1
      have he1 : (fracE a2 != 0) = true := bne_iff_ne.2 hp1
      obtain ⟨e_, hE⟩ : ∃ e_ : Int, fracE a2 = e_ := ⟨_, rfl⟩
      rw [hE] at HP1 he0 he1
      simp only [hE]
      clear hE hp1
      go_enter Try.func75, Try.ntmps75
      go_wp2_with (first | (go_at_call 110; (with_reducible refine (vec_Check.calls A0 c0 l0 0 _ (Kd.C_below HR0.out HB.out) HC0.out HP0.out).mono ?_); rintro ed W1 ⟨rfl, hd⟩; have hb := hd.below; clear hd; have HB := Aside0.mk (below_then HB.out HB.out.size hb); have HX0 := Aside0.mk (pw_cell_below hb HX0.out); have HX1 := Aside0.mk (pw_cell_below hb HX1.out); have HX2 := Aside0.mk (pw_cell_below hb HX2.out); have hx0 := HX0.out; have hx1 := HX1.out; have hx2 := HX2.out; clear hb) | (go_at_call 133; (with_reducible refine (vec_behind.calls a2 e_ _ HP1.out).mono ?_); rintro ed W1 ⟨rfl, hd⟩; have hb := hd; clear hd; have HB := Aside0.mk (below_then HB.out HB.out.size hb); have HX0 := Aside0.mk (pw_cell_below hb HX0.out); have HX1 := Aside0.mk (pw_cell_below hb HX1.out); have HX2 := Aside0.mk (pw_cell_below hb HX2.out); have hx0 := HX0.out; have hx1 := HX1.out; have hx2 := HX2.out; clear hb))
      go_ret2
      exact ⟨_, rfl, Kd.R_nil _ _ _ _ _, HB.out⟩
  · rw [if_neg hp0] at h
    cases h
    have HX0 : Aside0 ((((w.alloc (Obj.cells #[Value.slice A0 l0.length c0] 22)).alloc (Obj.cells #[Value.int .i64 a1] 2)).alloc (Obj.cells #[Value.int .i64 a2] 3)).cell? ⟨w.heap.size, 0, none⟩ = some (.slice A0 l0.length c0)) := ⟨by simp [go_sem]⟩
    have HX1 : Aside0 ((((w.alloc (Obj.cells #[Value.slice A0 l0.length c0] 22)).alloc (Obj.cells #[Value.int .i64 a1] 2)).alloc (Obj.cells #[Value.int .i64 a2] 3)).cell? ⟨w.heap.size + 1, 0, none⟩ = some (.int .i64 a1)) := ⟨by simp [go_sem]⟩
    have HX2 : Aside0 ((((w.alloc (Obj.cells #[Value.slice A0 l0.length c0] 22)).alloc (Obj.cells #[Value.int .i64 a1] 2)).alloc (Obj.cells #[Value.int .i64 a2] 3)).cell? ⟨w.heap.size + 2, 0, none⟩ = some (.int .i64 a2)) := ⟨by simp [go_sem]⟩
    have HB : Aside0 (Below w.heap.size w (((w.alloc (Obj.cells #[Value.slice A0 l0.length c0] 22)).alloc (Obj.cells #[Value.int .i64 a1] 2)).alloc (Obj.cells #[Value.int .i64 a2] 3))) := ⟨zzA (zzA (zzA (Below.refl _ _) _) _) _⟩
    have he0 : (checkE l0 == 0) = false := beq_eq_false_iff_ne.2 hp0
    have he1 : (checkE l0 != 0) = true := bne_iff_ne.2 hp0
    obtain ⟨e_, hE⟩ : ∃ e_ : Int, checkE l0 = e_ := ⟨_, rfl⟩
    rw [hE] at HP0 he0 he1
    simp only [hE]
    clear hE hp0
    go_enter Try.func75, Try.ntmps75
    go_wp2_with (first | (go_at_call 110; (with_reducible refine (vec_Check.calls A0 c0 l0 e_ _ (Kd.C_below HR0.out HB.out) HC0.out HP0.out).mono ?_); rintro ed W1 ⟨rfl, hd⟩; have hb := hd.below; clear hd; have HB := Aside0.mk (below_then HB.out HB.out.size hb); have HX0 := Aside0.mk (pw_cell_below hb HX0.out); have HX1 := Aside0.mk (pw_cell_below hb HX1.out); have HX2 := Aside0.mk (pw_cell_below hb HX2.out); have hx0 := HX0.out; have hx1 := HX1.out; have hx2 := HX2.out; clear hb))
    go_ret2
    exact ⟨_, rfl, Kd.R_nil _ _ _ _ _, HB.out⟩


-- NOT PRINTED: function 128 (linear_Grad_1)

end Go.Proofs.Ytfbdalnjijdknaa.HL
