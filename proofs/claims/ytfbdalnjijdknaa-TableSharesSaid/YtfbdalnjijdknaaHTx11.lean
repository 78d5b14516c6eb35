/- What Go functions do, each as a plain Lean function with the same answers, and the proof of it, in every world: printed by the session's driver over the kit's print, with texts by hand. -/
import Derived.Test.YtfbdalnjijdknaaHTx0
import Derived.Test.YtfbdalnjijdknaaHTx3
import Derived.Test.YtfbdalnjijdknaaHTx4
import Derived.Test.YtfbdalnjijdknaaHTx6
import Derived.Test.YtfbdalnjijdknaaHTx10
namespace Go.Proofs.Ytfbdalnjijdknaa.HT
open Go.RowKit Go.Proofs.YtfbdalnjijdknaaW.PrintWords Go.Proofs.YtfbdalnjijdknaaW.PrintLast Go.Proofs.YtfbdalnjijdknaaW.PrintMore
attribute [local go_sem] max2_int min2_int max_two min_two max_three min_three max_four min_four   -- for this text's walks alone
open Go.Proofs.Ytfbdalnjijdknaa.Sp
attribute [local go_sem] Go.Proofs.Ytfbdalnjijdknaa.Sp.u64_not
set_option linter.unusedVariables false
set_option linter.unusedSimpArgs false

/-! ### table_Soft: function 50 -/
def table_Soft.f (a0 : Int) (l1 : List Int) : Option (List Int × Int) := if I64 a0 ∧ V64 l1 then some (softV a0 l1) else none
theorem table_Soft.of (a0 : Int) (l1 : List Int)  (h_ : I64 a0 ∧ V64 l1) : table_Soft.f a0 l1 = some (softV a0 l1) := if_pos h_
set_option maxHeartbeats 8000000 in
set_option maxRecDepth 100000 in
theorem table_Soft.calls (a0 : Int) (A1 : Option Addr) (c1 : Nat) (l1 : List Int) (r1 : List Int) (r2 : Int) (w : World) (hr1 : Kd.C (Kd.int .i64) w A1 l1.length l1) (hc1 : l1.length ≤ c1) (h : table_Soft.f a0 l1 = some (r1, r2)) :
    Calls Try.prog 50 #[.int .i64 a0, .slice A1 l1.length c1] w fun e w' => ∃ v0_ : Value, e = .returned (.tuple #[v0_, .int .i64 r2]) ∧ Kd.R (Kd.int .i64) 2 w' w.heap.size (fun _ => True) v0_ r1 ∧ Below w.heap.size w w' := by
  unfold table_Soft.f at h
  split at h
  case isFalse => cases h
  rename_i hv
  have h := Option.some.inj h
  unfold softV at h
  have HR := Aside0.mk hr1
  have HC := Aside0.mk hc1
  have HV := Aside0.mk hv
  clear hr1 hc1 hv
  by_cases hb : (bestF l1).2 = 0
  · rw [if_neg (by simpa using hb)] at h
    obtain ⟨hI, hn0, hn⟩ := bestF_is hb
    obtain ⟨best, hbest⟩ : ∃ b, (bestF l1).1 = b := ⟨_, rfl⟩
    rw [hbest] at h hI
    have HBE : Aside0 (table_Best.f l1 = some (best, 0)) := ⟨congrArg some (Prod.ext hbest hb)⟩
    clear hb hbest
    by_cases hf : a0 < 0 ∨ a0 > 30
    · rw [if_pos hf] at h
      cases h
      rcases Bool.eq_false_or_eq_true (decide (a0 < 0)) with k1 | k1
      · clear hf
        go_enter Try.func50, Try.ntmps50
        go_wp2_with (go_at_call 52; (with_reducible refine (table_Best.calls A1 c1 l1 best 0 _ HR.out HC.out HBE.out).mono ?_); rintro ed W1 ⟨rfl, hb⟩; have HBW := Aside0.mk hb; clear hb)
        go_ret2
        exact ⟨_, rfl, Kd.R_nil _ _ _ _ _, HBW.out⟩
      · have k2 : decide (30 < a0) = true := decide_eq_true (by simp only [decide_eq_false_iff_not] at k1; omega)
        clear hf
        go_enter Try.func50, Try.ntmps50
        go_wp2_with (go_at_call 52; (with_reducible refine (table_Best.calls A1 c1 l1 best 0 _ HR.out HC.out HBE.out).mono ?_); rintro ed W1 ⟨rfl, hb⟩; have HBW := Aside0.mk hb; clear hb)
        go_ret2
        exact ⟨_, rfl, Kd.R_nil _ _ _ _ _, HBW.out⟩
    · rw [if_neg hf] at h
      have k1 : decide (a0 < 0) = false := decide_eq_false (by omega)
      have k2 : decide (30 < a0) = false := decide_eq_false (by omega)
      have HF : Aside0 (0 ≤ a0 ∧ a0 ≤ 30) := ⟨by omega⟩
      have HH := Aside0.mk h
      have hbm := hI.1
      have hbl := hI.2.1
      obtain ⟨n, hnn⟩ : ∃ n, l1.length = n := ⟨_, rfl⟩
      obtain ⟨m, hm⟩ : ∃ m, rd l1 best = m := ⟨_, rfl⟩
      obtain ⟨ad, had, hcm⟩ := Kd.at_int HR.out best hbm (by omega)
      subst had
      rw [hm] at hcm
      have HCM := Aside0.mk hcm
      have hmI : I64 m := by rw [← hm]; exact HV.out.2.rd _
      have HM := Aside0.mk hmI
      have HN := Aside0.mk hn
      have hmk := print_make (P := Try.prog) 22 2 .i64 8 Try.underlying22 info2 (by decide) n (by omega)
      rw [hm] at HH
      have hbl2 : best < (n : Int) := by omega
      clear h hf hI hn0 hn hm hmI hbl hcm
      have HRn := HR.out
      rw [hnn] at HRn
      have HRN := Aside0.mk HRn
      have HNN := Aside0.mk hnn
      clear HRn hnn
      go_enter Try.func50, Try.ntmps50
      go_wp2_with (go_at_call 52; (with_reducible refine (table_Best.calls _ c1 l1 best 0 _ HR.out HC.out HBE.out).mono ?_); rintro ed W1 ⟨rfl, hb⟩; have HBW := Aside0.mk hb; clear hb; (try simp only [HNN.out]))
      go_loopw [9, 39] (fun s v W => ∃ (k : Nat) (acc : List Int), v = .int .i64 k ∧ s = .int .i64 (sumI acc) ∧ Aside0 (k ≤ n) ∧ Aside0 (acc.length = k) ∧ Aside0 (∀ p ∈ acc, 0 ≤ p ∧ p ≤ 1073741824) ∧ Aside0 (seqFrom (powF m a0) (l1.drop k) acc = seqV (l1.map (powF m a0))) ∧ Aside0 (Kd.R (Kd.int .i64) 2 W w.heap.size (fun _ => True) (.slice (some ⟨W1.heap.size, 0, none⟩) n n) (acc ++ List.replicate (n - k) 0)) ∧ Aside0 (Below w.heap.size w W)) (fun _ v _ => n - (intOf v).toNat)
      case atStart => exact ⟨0, [], rfl, rfl, ⟨Nat.zero_le _⟩, ⟨rfl⟩, ⟨by simp⟩, ⟨by rw [List.drop_zero]; exact seqFrom_start _ _⟩, ⟨by have ho := own_made W1 w.heap.size 2 .i64 n HBW.out.size (by have := HN.out; have := HNN.out; omega); rw [show ([] : List Int) ++ List.replicate (n - 0) 0 = List.replicate n 0 by simp]; exact Kd.R_of_own (enc := Value.int .i64) (h1 := fun _ => rfl) (xs := List.replicate n (0 : Int)) (by rw [List.length_replicate]; exact ho) (fun _ _ => trivial)⟩, ⟨below_alloc HBW.out _⟩⟩
      case round =>
        obtain ⟨k, acc, rfl, rfl, ⟨hk⟩, ⟨hacc⟩, HP, ⟨hseq⟩, HO, HB⟩ := hrel
        by_cases hlt : k < n
        · have hkl : k < l1.length := by have := HNN.out; omega
          obtain ⟨x, hx⟩ : ∃ x, l1[k] = x := ⟨_, rfl⟩
          have hxr : rd l1 (k : Int) = x := by rw [← hx]; exact rd_nat hkl
          have hxI : I64 x := by rw [← hxr]; exact HV.out.2.rd _
          rw [List.drop_eq_getElem_cons hkl, hx] at hseq
          obtain ⟨ad', had', hcx⟩ := Kd.at_int (Kd.C_below HRN.out HB.out) (k : Int) (by omega) (by omega)
          cases had'
          simp only [Int.toNat_natCast] at hcx
          rw [hxr] at hcx
          have hcm2 := pw_cell_below HB.out HCM.out
          clear hx hxr hkl
          have HCX := Aside0.mk hcx
          have hcell0 := (Kd.R_celln 0 HO.out (k : Int) (by omega) (by omega)).1
          have HCELL := Aside0.mk hcell0
          clear hcell0
          by_cases hs : I64 (x - m)
          · have HS : Aside0 (fix_Sub.f x m = some (x - m, 0)) := ⟨by rw [fix_Sub.of x m ⟨hxI, HM.out⟩, res_of hs]⟩
            obtain ⟨p, e, hpe⟩ : ∃ p e, expF (x - m) a0 = (p, e) := ⟨_, _, rfl⟩
            have HE : Aside0 (table_Exp.f (x - m) a0 = some (p, e)) := ⟨by unfold table_Exp.f; rw [if_pos ⟨hs, HV.out.1⟩, hpe]⟩
            have hg : powF m a0 x = (p, e) := by unfold powF; rw [if_pos hs, hpe]
            by_cases he : e = 0
            · subst he
              rw [seqFrom_ok (by rw [hg]), hg] at hseq
              have hpb : 0 ≤ p ∧ p ≤ 1073741824 := by
                have c1 : x - m ≤ 0 := by
                  apply Classical.byContradiction; intro hc
                  unfold expF at hpe
                  rw [if_pos (by omega)] at hpe
                  cases hpe
                by_cases c2 : I64 (-(x - m))
                · rw [expF_of HF.out c1 c2] at hpe
                  have q1 := powE_nonneg (-(x - m)) a0
                  have q2 := powE_le (y := -(x - m)) (by omega) HF.out
                  have q3 := pow_le30_ HF.out
                  cases hpe; omega
                · rw [expF_over HF.out c1 c2] at hpe
                  cases hpe
              have HSEQ := Aside0.mk hseq
              have HPB := Aside0.mk hpb
              have HACC := Aside0.mk hacc
              have hsum : wrap64 (sumI acc + p) = sumI acc + p := by
                have s0 := sumI_nn acc (fun q hq => (HP.out q hq).1)
                have s1 := sumI_ub acc 1073741824 (fun q hq => (HP.out q hq).2)
                have := HN.out
                have := HNN.out
                exact wrap64_of (by unfold I64; omega)
              have HSUM := Aside0.mk hsum
              clear hg hpe hs hseq hpb hacc hxI hk hcx
              have hcx := HCX.out
              go_wp2_with (first | (go_at_call 107; (with_reducible refine (fix_Sub.calls x m (x - m) 0 _ HS.out).mono ?_); rintro ed W3 ⟨rfl, ⟨nd1, rfl⟩⟩) | (go_at_call 55; (with_reducible refine (table_Exp.calls (x - m) a0 p 0 _ HE.out).mono ?_); rintro ed W2 ⟨rfl, hb⟩; have HO1 := Aside0.mk (Kd.R_below (show Kd.R (Kd.int .i64) 2 (wr.drewN nd1) w.heap.size (fun _ => True) (.slice (some ⟨W1.heap.size, 0, none⟩) n n) (acc ++ List.replicate (n - k) 0) from HO.out) hb); have HB1 := Aside0.mk (below_then (pw_below_drewN HB.out nd1) (pw_below_drewN HB.out nd1).size hb); clear hb; have hcell := (Kd.R_celln 0 HO1.out (k : Int) (by omega) (by omega)).1; have hfr := (Kd.R_celln 0 HO1.out (k : Int) (by omega) (by omega)).2; simp only [Int.toNat_natCast] at hcell hfr))
              have hkw : wrap64 ((k : Int) + 1) = ((k + 1 : Nat) : Int) := by
                have := HN.out; have := HNN.out
                rw [wrap64_of (by unfold I64; omega)]; omega
              have hp := Kd.R_putg HO1.out (k : Int) p
              have hset : (acc ++ List.replicate (n - k) 0).set (k : Int).toNat p = (acc ++ [p]) ++ List.replicate (n - (k + 1)) 0 := by
                obtain ⟨d, hd⟩ : ∃ d, n - k = d + 1 := ⟨n - k - 1, by omega⟩
                rw [hd, show n - (k + 1) = d by omega, Int.toNat_natCast, ← HACC.out, List.set_append_right _ _ (Nat.le_refl _), Nat.sub_self, List.replicate_succ]
                simp
              rw [hset] at hp
              simp only [Int.toNat_natCast] at hp
              exact ⟨⟨k + 1, acc ++ [p], by first | rfl | rw [hkw], by rw [HSUM.out, sumI_app], ⟨by omega⟩, ⟨by have := HACC.out; simp; omega⟩, ⟨fun q hq => by rcases List.mem_append.1 hq with e | e; (exact HP.out q e); (cases List.mem_singleton.1 e; exact HPB.out)⟩, HSEQ, ⟨hp.1⟩, ⟨below_set HB1.out HBW.out.size⟩⟩, by (try rw [hkw]); simp [intOf]; omega⟩
            · rw [seqFrom_bad (by rw [hg]; exact he), hg] at hseq
              have hres := HH.out
              rw [← hseq, if_pos he] at hres
              cases hres
              have he0 : (e == 0) = false := beq_eq_false_iff_ne.2 he
              have he1 : (e != 0) = true := bne_iff_ne.2 he
              clear hg hpe hs hseq hacc hxI hk hcx he HH
              have hcx := HCX.out
              go_wp2_with (first | (go_at_call 107; (with_reducible refine (fix_Sub.calls x m (x - m) 0 _ HS.out).mono ?_); rintro ed W3 ⟨rfl, ⟨nd1, rfl⟩⟩) | (go_at_call 55; (with_reducible refine (table_Exp.calls (x - m) a0 p e _ HE.out).mono ?_); rintro ed W2 ⟨rfl, hb⟩; have HO1 := Aside0.mk (Kd.R_below (show Kd.R (Kd.int .i64) 2 (wr.drewN nd1) w.heap.size (fun _ => True) (.slice (some ⟨W1.heap.size, 0, none⟩) n n) (acc ++ List.replicate (n - k) 0) from HO.out) hb); have HB1 := Aside0.mk (below_then (pw_below_drewN HB.out nd1) (pw_below_drewN HB.out nd1).size hb); clear hb; have hcell := (Kd.R_celln 0 HO1.out (k : Int) (by omega) (by omega)).1; have hfr := (Kd.R_celln 0 HO1.out (k : Int) (by omega) (by omega)).2; simp only [Int.toNat_natCast] at hcell hfr))
              go_ret2
              exact ⟨_, rfl, Kd.R_nil _ _ _ _ _, below_set HB1.out HBW.out.size⟩
          · have HS : Aside0 (fix_Sub.f x m = some (0, 2)) := ⟨by rw [fix_Sub.of x m ⟨hxI, HM.out⟩, res_not hs]⟩
            have hg : powF m a0 x = (0, 2) := by unfold powF; rw [if_neg hs]
            rw [seqFrom_bad (by rw [hg]; decide), hg] at hseq
            have hres := HH.out
            rw [← hseq, if_pos (by decide)] at hres
            cases hres
            clear hg hs hseq hacc hxI hk hcx HH
            have hcx := HCX.out
            go_wp2_with (go_at_call 107; (with_reducible refine (fix_Sub.calls x m 0 2 _ HS.out).mono ?_); rintro ed W3 ⟨rfl, ⟨nd1, rfl⟩⟩)
            go_ret2
            exact ⟨_, rfl, Kd.R_nil _ _ _ _ _, pw_below_drewN HB.out _⟩
        · have hkn : k = n := by omega
          subst hkn
          rw [List.drop_eq_nil_of_le (by have := HNN.out; omega), seqFrom_nil] at hseq
          have hres := HH.out
          rw [← hseq] at hres
          simp only [ne_eq, not_true, if_false] at hres
          rw [← seqFrom_start] at hres
          have HRES := Aside0.mk hres
          have HACC := Aside0.mk hacc
          have HO2 := HO.out
          rw [Nat.sub_self, List.replicate_zero, List.append_nil] at HO2
          have HO3 := Aside0.mk HO2
          obtain ⟨S, hS⟩ : ∃ S, sumI acc = S := ⟨_, rfl⟩
          have hSI : I64 S := by
            have s0 := sumI_nn acc (fun q hq => (HP.out q hq).1)
            have s1 := sumI_ub acc 1073741824 (fun q hq => (HP.out q hq).2)
            have := HN.out
            have := HNN.out
            rw [hS] at s0 s1
            unfold I64; omega
          have HSI := Aside0.mk hSI
          rw [hS] at HRES
          simp only [hS]
          clear hseq hres HO2 HO hacc hk hS hSI HH HCM
          go_wp2_with fail
          go_loopw [76] (fun v W => ∃ (j : Nat) (qs : List Int), v = .int .i64 j ∧ Aside0 (j ≤ k) ∧ Aside0 (qs.length = j) ∧ Aside0 (seqFrom (fun p => divF p S a0) (acc.drop j) qs = (r1, r2)) ∧ Aside0 (Kd.R (Kd.int .i64) 2 W w.heap.size (fun _ => True) (.slice (some ⟨W1.heap.size, 0, none⟩) k k) (qs ++ acc.drop j)) ∧ Aside0 (Below w.heap.size w W)) (fun v _ => k - (intOf v).toNat)
          case atStart => exact ⟨0, [], rfl, ⟨Nat.zero_le _⟩, ⟨rfl⟩, HRES, HO3, HB⟩
          case round =>
            clear HRES HO3 HB
            obtain ⟨j, qs, rfl, ⟨hj⟩, ⟨hqs⟩, ⟨hseq⟩, HO, HB⟩ := hrel
            by_cases hlt2 : j < k
            · have hjl : j < acc.length := by have := HACC.out; omega
              obtain ⟨p, hpx⟩ : ∃ p, acc[j] = p := ⟨_, rfl⟩
              have hpI : 0 ≤ p ∧ p ≤ 1073741824 := by rw [← hpx]; exact HP.out _ (List.getElem_mem hjl)
              have hdr : acc.drop j = p :: acc.drop (j + 1) := by rw [List.drop_eq_getElem_cons hjl, hpx]
              rw [hdr] at hseq
              have HO2 := HO.out
              rw [hdr] at HO2
              have hcell0 := (Kd.R_celln 0 HO2 (j : Int) (by omega) (by omega)).1
              have hrp : rdOf 0 (qs ++ p :: acc.drop (j + 1)) (j : Int) = p := by
                simp [rdOf, List.getD_eq_getElem?_getD, ← hqs]
              rw [hrp] at hcell0
              simp only [Int.toNat_natCast] at hcell0
              have hcellr := hcell0
              have HO3 := Aside0.mk HO2
              have HQS := Aside0.mk hqs
              obtain ⟨q, e, hqe⟩ : ∃ q e, divF p S a0 = (q, e) := ⟨_, _, rfl⟩
              have HD : Aside0 (fix_Div.f p S a0 = some (q, e)) := ⟨by rw [fix_Div.of p S a0 ⟨by unfold I64; omega, HSI.out⟩, hqe]⟩
              have hdec : (q, e) = divF p S a0 := hqe.symm
              by_cases he : e = 0
              · subst he
                rw [seqFrom_ok (by rw [hqe]), hqe] at hseq
                have HSEQ := Aside0.mk hseq
                clear hseq hqe hdec hpI hdr HO2 hcell0 hrp hpx hjl hqs hj HO
                go_wp2_with (go_at_call 113; (with_reducible refine (fix_Div.calls p S a0 q 0 _ HD.out).mono ?_); rintro ed W2 ⟨rfl, hd⟩; have hb : Below wr.heap.size wr W2 := (by first | exact hd | exact hd.below); clear hd; have HO1 := Aside0.mk (Kd.R_below HO3.out hb); have HB1 := Aside0.mk (below_then HB.out HB.out.size hb); clear hb; have hcell := (Kd.R_celln 0 HO1.out (j : Int) (by omega) (by omega)).1; have hfr := (Kd.R_celln 0 HO1.out (j : Int) (by omega) (by omega)).2; simp only [Int.toNat_natCast] at hcell hfr)
                have hjw : wrap64 ((j : Int) + 1) = ((j + 1 : Nat) : Int) := by
                  have := HN.out; have := HNN.out
                  rw [wrap64_of (by unfold I64; omega)]; omega
                have hp := Kd.R_putg HO1.out (j : Int) q
                have hset : (qs ++ p :: acc.drop (j + 1)).set (j : Int).toNat q = (qs ++ [q]) ++ acc.drop (j + 1) := by
                  rw [Int.toNat_natCast, ← HQS.out, List.set_append_right _ _ (Nat.le_refl _), Nat.sub_self]
                  simp
                rw [hset] at hp
                simp only [Int.toNat_natCast] at hp
                exact ⟨⟨j + 1, qs ++ [q], by first | rfl | rw [hjw], ⟨by omega⟩, ⟨by have := HQS.out; simp; omega⟩, HSEQ, ⟨hp.1⟩, ⟨below_set HB1.out HBW.out.size⟩⟩, by (try rw [hjw]); simp [intOf]; omega⟩
              · rw [seqFrom_bad (by rw [hqe]; exact he), hqe] at hseq
                cases hseq
                have he0 : (e == 0) = false := beq_eq_false_iff_ne.2 he
                have he1 : (e != 0) = true := bne_iff_ne.2 he
                clear hqe hdec hpI hdr HO2 hcell0 hrp hpx hjl hqs hj HO he
                go_wp2_with (go_at_call 113; (with_reducible refine (fix_Div.calls p S a0 q e _ HD.out).mono ?_); rintro ed W2 ⟨rfl, hd⟩; have hb : Below wr.heap.size wr W2 := (by first | exact hd | exact hd.below); clear hd; have HO1 := Aside0.mk (Kd.R_below HO3.out hb); have HB1 := Aside0.mk (below_then HB.out HB.out.size hb); clear hb; have hcell := (Kd.R_celln 0 HO1.out (j : Int) (by omega) (by omega)).1; have hfr := (Kd.R_celln 0 HO1.out (j : Int) (by omega) (by omega)).2; simp only [Int.toNat_natCast] at hcell hfr)
                go_ret2
                exact ⟨_, rfl, Kd.R_nil _ _ _ _ _, below_set HB1.out HBW.out.size⟩
            · have hjk : j = k := by omega
              subst hjk
              rw [List.drop_eq_nil_of_le (by have := HACC.out; omega), seqFrom_nil] at hseq
              cases hseq
              have HO2 := HO.out
              rw [List.drop_eq_nil_of_le (by have := HACC.out; omega), List.append_nil] at HO2
              have HO3 := Aside0.mk HO2
              clear HO2 HO hj hqs
              go_wp2
              go_ret2
              exact ⟨_, rfl, HO3.out, HB.out⟩
  · rw [if_pos hb] at h
    cases h
    have HBE : Aside0 (table_Best.f l1 = some (0, (bestF l1).2)) := ⟨congrArg some (Prod.ext (bestF_err hb) rfl)⟩
    obtain ⟨e_, hE⟩ : ∃ e_ : Int, (bestF l1).2 = e_ := ⟨_, rfl⟩
    have he0 : (e_ == 0) = false := by rw [← hE]; exact beq_eq_false_iff_ne.2 hb
    have he1 : (e_ != 0) = true := by rw [← hE]; exact bne_iff_ne.2 hb
    rw [hE] at HBE
    simp only [hE]
    clear hE hb
    go_enter Try.func50, Try.ntmps50
    go_wp2_with (go_at_call 52; (with_reducible refine (table_Best.calls A1 c1 l1 0 e_ _ HR.out HC.out HBE.out).mono ?_); rintro ed W1 ⟨rfl, hb⟩; have HBW := Aside0.mk hb; clear hb)
    go_ret2
    exact ⟨_, rfl, Kd.R_nil _ _ _ _ _, HBW.out⟩


end Go.Proofs.Ytfbdalnjijdknaa.HT
