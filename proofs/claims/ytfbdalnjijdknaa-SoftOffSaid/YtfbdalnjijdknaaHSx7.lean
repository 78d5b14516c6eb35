/- What Go functions do, each as a plain Lean function with the same answers, and the proof of it, in every world: printed by the session's driver over the kit's print, with texts by hand. -/
import Derived.Test.YtfbdalnjijdknaaHSx0
import Derived.Test.YtfbdalnjijdknaaHSx1
import Derived.Test.YtfbdalnjijdknaaHSx2
import Derived.Test.YtfbdalnjijdknaaHSx3
import Derived.Test.YtfbdalnjijdknaaHSx6
namespace Go.Proofs.Ytfbdalnjijdknaa.HS
open Go.RowKit Go.Proofs.YtfbdalnjijdknaaW.PrintWords Go.Proofs.YtfbdalnjijdknaaW.PrintLast Go.Proofs.YtfbdalnjijdknaaW.PrintMore
attribute [local go_sem] max2_int min2_int max_two min_two max_three min_three max_four min_four   -- for this text's walks alone
open Go.Proofs.Ytfbdalnjijdknaa.Sp
attribute [local go_sem] Go.Proofs.Ytfbdalnjijdknaa.Sp.u64_not
set_option linter.unusedVariables false
set_option linter.unusedSimpArgs false

/-! ### table_Soft: function 50 -/
def table_Soft.f (a0 : Int) (l1 : List Int) : Option (List Int × Int) := if I64 a0 ∧ V64 l1 then some (softV a0 l1) else none
theorem table_Soft.of (a0 : Int) (l1 : List Int)  (h_ : I64 a0 ∧ V64 l1) : table_Soft.f a0 l1 = some (softV a0 l1) := if_pos h_
set_option maxHeartbeats 8000000 in
set_option maxRecDepth 100000 in
theorem table_Soft.calls (a0 : Int) (A1 : Option Addr) (c1 : Nat) (l1 : List Int) (r1 : List Int) (r2 : Int) (w : World) (hr1 : Kd.C (Kd.int .i64) w A1 l1.length l1) (hc1 : l1.length ≤ c1) (h : table_Soft.f a0 l1 = some (r1, r2)) :
    Calls Try.prog 50 #[.int .i64 a0, .slice A1 l1.length c1] w fun e w' => ∃ v0_ : Value, e = .returned (.tuple #[v0_, .int .i64 r2]) ∧ Kd.R (Kd.int .i64) 2 w' w.heap.size (fun _ => True) v0_ r1 ∧ Below w.heap.size w w' := by
  unfold table_Soft.f at h
  split at h
  case isFalse => cases h
  rename_i hv
  have h := Option.some.inj h
  unfold softV at h
  have HR := Aside0.mk hr1
  have HC := Aside0.mk hc1
  have HV := Aside0.mk hv
  clear hr1 hc1 hv
  by_cases hb : (bestF l1).2 = 0
  · rw [if_neg (by simpa using hb)] at h
    obtain ⟨hI, hn0, hn⟩ := bestF_is hb
    obtain ⟨best, hbest⟩ : ∃ b, (bestF l1).1 = b := ⟨_, rfl⟩
    rw [hbest] at h hI
    have HBE : Aside0 (table_Best.f l1 = some (best, 0)) := ⟨congrArg some (Prod.ext hbest hb)⟩
    clear hb hbest
    by_cases hf : a0 < 0 ∨ a0 > 30
    · rw [if_pos hf] at h
      cases h
      rcases Bool.eq_false_or_eq_true (decide (a0 < 0)) with k1 | k1
      · clear hf
        go_enter Try.func50, Try.ntmps50
        go_wp2_with (go_at_call 52; (with_reducible refine (table_Best.calls A1 c1 l1 best 0 _ HR.out HC.out HBE.out).mono ?_); rintro ed W1 ⟨rfl, hb⟩; have HBW := Aside0.mk hb; clear hb)
        go_ret2
        exact ⟨_, rfl, Kd.R_nil _ _ _ _ _, HBW.out⟩
      · have k2 : decide (30 < a0) = true := decide_eq_true (by simp only [decide_eq_false_iff_not] at k1; omega)
        clear hf
        go_enter Try.func50, Try.ntmps50
        go_wp2_with (go_at_call 52; (with_reducible refine (table_Best.calls A1 c1 l1 best 0 _ HR.out HC.out HBE.out).mono ?_); rintro ed W1 ⟨rfl, hb⟩; have HBW := Aside0.mk hb; clear hb)
        go_ret2
        exact ⟨_, rfl, Kd.R_nil _ _ _ _ _, HBW.out⟩
    · rw [if_neg hf] at h
      have k1 : decide (a0 < 0) = false := decide_eq_false (by omega)
      have k2 : decide (30 < a0) = false := decide_eq_false (by omega)
      have HF : Aside0 (0 ≤ a0 ∧ a0 ≤ 30) := ⟨by omega⟩
      have HH := Aside0.mk h
      have hbm := hI.1
      have hbl := hI.2.1
      obtain ⟨n, hnn⟩ : ∃ n, l1.length = n := ⟨_, rfl⟩
      obtain ⟨m, hm⟩ : ∃ m, rd l1 best = m := ⟨_, rfl⟩
      obtain ⟨ad, had, hcm⟩ := Kd.at_int HR.out best hbm (by omega)
      subst had
      rw [hm] at hcm
      have HCM := Aside0.mk hcm
      have hmI : I64 m := by rw [← hm]; exact HV.out.2.rd _
      have HM := Aside0.mk hmI
      have HN := Aside0.mk hn
      have hmk := print_make (P := Try.prog) 22 2 .i64 8 Try.underlying22 info2 (by decide) n (by omega)
      rw [hm] at HH
      have hbl2 : best < (n : Int) := by omega
      clear h hf hI hn0 hn hm hmI hbl hcm
      have HRn := HR.out
      rw [hnn] at HRn
      have HRN := Aside0.mk HRn
      have HNN := Aside0.mk hnn
      clear HRn hnn
      go_enter Try.func50, Try.ntmps50
      go_wp2_with (go_at_call 52; (with_reducible refine (table_Best.calls _ c1 l1 best 0 _ HR.out HC.out HBE.out).mono ?_); rintro ed W1 ⟨rfl, hb⟩; have HBW := Aside0.mk hb; clear hb; (try simp only [HNN.out]))
      go_loopw [9, 39] (fun s v W => ∃ (k : Nat) (acc : List Int), v = .int .i64 k ∧ s = .int .i64 (sumI acc) ∧ Aside0 (k ≤ n) ∧ Aside0 (acc.length = k) ∧ Aside0 (∀ p ∈ acc, 0 ≤ p ∧ p ≤ 1073741824) ∧ Aside0 (seqFrom (powF m a0) (l1.drop k) acc = seqV (l1.map (powF m a0))) ∧ Aside0 (Kd.R (Kd.int .i64) 2 W w.heap.size (fun _ => True) (.slice (some ⟨W1.heap.size, 0, none⟩) n n) (acc ++ List.replicate (n - k) 0)) ∧ Aside0 (Below w.heap.size w W)) (fun _ v _ => n - (intOf v).toNat)
      case atStart => exact ⟨0, [], rfl, rfl, ⟨Nat.zero_le _⟩, ⟨rfl⟩, ⟨by simp⟩, ⟨by rw [List.drop_zero]; exact seqFrom_start _ _⟩, ⟨by have ho := own_made W1 w.heap.size 2 .i64 n HBW.out.size (by have := HN.out; have := HNN.out; omega); rw [show ([] : List Int) ++ List.replicate (n - 0) 0 = List.replicate n 0 by simp]; exact Kd.R_of_own (enc := Value.int .i64) (h1 := fun _ => rfl) (xs := List.replicate n (0 : Int)) (by rw [List.length_replicate]; exact ho) (fun _ _ => trivial)⟩, ⟨zzA HBW.out _⟩⟩
      case round =>
        obtain ⟨k, acc, rfl, rfl, ⟨hk⟩, ⟨hacc⟩, HP, ⟨hseq⟩, HO, HB⟩ := hrel
        by_cases hlt : k < n
        · have hkl : k < l1.length := by have := HNN.out; omega
          obtain ⟨x, hx⟩ : ∃ x, l1[k] = x := ⟨_, rfl⟩
          have hxr : rd l1 (k : Int) = x := by rw [← hx]; exact rd_nat hkl
          have hxI : I64 x := by rw [← hxr]; exact HV.out.2.rd _
          rw [List.drop_eq_getElem_cons hkl, hx] at hseq
          obtain ⟨ad', had', hcx⟩ := Kd.at_int (Kd.C_below HRN.out HB.out) (k : Int) (by omega) (by omega)
          cases had'
          simp only [Int.toNat_natCast] at hcx
          rw [hxr] at hcx
          have hcm2 := pw_cell_below HB.out HCM.out
          clear hx hxr hkl
          have HCX := Aside0.mk hcx
          have hcell0 := (Kd.R_celln 0 HO.out (k : Int) (by omega) (by omega)).1
          have HCELL := Aside0.mk hcell0
          clear hcell0
          by_cases hs : I64 (x - m)
          · have HS : Aside0 (fix_Sub.f x m = some (x - m, 0)) := ⟨by rw [fix_Sub.of x m ⟨hxI, HM.out⟩, res_of hs]⟩
            obtain ⟨p, e, hpe⟩ : ∃ p e, expF (x - m) a0 = (p, e) := ⟨_, _, rfl⟩
            have HE : Aside0 (table_Exp.f (x - m) a0 = some (p, e)) := ⟨by unfold table_Exp.f; rw [if_pos ⟨hs, HV.out.1⟩, hpe]⟩
            have hg : powF m a0 x = (p, e) := by unfold powF; rw [if_pos hs, hpe]
            by_cases he : e = 0
            · subst he
              rw [seqFrom_ok (by rw [hg]), hg] at hseq
              have hpb : 0 ≤ p ∧ p ≤ 1073741824 := by
                have c1 : x - m ≤ 0 := by
                  apply Classical.byContradiction; intro hc
                  unfold expF at hpe
                  rw [if_pos (by omega)] at hpe
                  cases hpe
                by_cases c2 : I64 (-(x - m))
                · rw [expF_of HF.out c1 c2] at hpe
                  have q1 := powE_nonneg (-(x - m)) a0
                  have q2 := powE_le (y := -(x - m)) (by omega) HF.out
                  have q3 := pow_le30_ HF.out
                  cases hpe; omega
                · rw [expF_over HF.out c1 c2] at hpe
                  cases hpe
              have HSEQ := Aside0.mk hseq
              have HPB := Aside0.mk hpb
              have HACC := Aside0.mk hacc
              have hsum : wrap64 (sumI acc + p) = sumI acc + p := by
                have s0 := sumI_nn acc (fun q hq => (HP.out q hq).1)
                have s1 := sumI_ub acc 1073741824 (fun q hq => (HP.out q hq).2)
                have := HN.out
                have := HNN.out
                exact wrap64_of (by unfold I64; omega)
              have HSUM := Aside0.mk hsum
              clear hg hpe hs hseq hpb hacc hxI hk hcx
              have hcx := HCX.out
              go_wp2_with (first | (go_at_call 107; (with_reducible refine (fix_Sub.calls x m (x - m) 0 _ HS.out).mono ?_); rintro ed W3 ⟨rfl, ⟨nd1, rfl⟩⟩) | (go_at_call 55; (with_reducible refine (table_Exp.calls (x - m) a0 p 0 _ HE.out).mono ?_); rintro ed W2 ⟨rfl, hb⟩; have HO1 := Aside0.mk (Kd.R_below (show Kd.R (Kd.int .i64) 2 (wr.drewN nd1) w.heap.size (fun _ => True) (.slice (some ⟨W1.heap.size, 0, none⟩) n n) (acc ++ List.replicate (n - k) 0) from HO.out) hb); have HB1 := Aside0.mk (below_then (zzN HB.out nd1) (zzN HB.out nd1).size hb); clear hb; have hcell := (Kd.R_celln 0 HO1.out (k : Int) (by omega) (by omega)).1; have hfr := (Kd.R_celln 0 HO1.out (k : Int) (by omega) (by omega)).2; simp only [Int.toNat_natCast] at hcell hfr))
              have hkw : wrap64 ((k : Int) + 1) = ((k + 1 : Nat) : Int) := by
                have := HN.out; have := HNN.out
                rw [wrap64_of (by unfold I64; omega)]; omega
              have hp := Kd.R_putg HO1.out (k : Int) p
              have hset : (acc ++ List.replicate (n - k) 0).set (k : Int).toNat p = (acc ++ [p]) ++ List.replicate (n - (k + 1)) 0 := by
                obtain ⟨d, hd⟩ : ∃ d, n - k = d + 1 := ⟨n - k - 1, by omega⟩
                rw [hd, show n - (k + 1) = d by omega, Int.toNat_natCast, ← HACC.out, List.set_append_right _ _ (Nat.le_refl _), Nat.sub_self, List.replicate_succ]
                simp
              rw [hset] at hp
              simp only [Int.toNat_natCast] at hp
              exact ⟨⟨k + 1, acc ++ [p], by first | rfl | rw [hkw], by rw [HSUM.out, sumI_app], ⟨by omega⟩, ⟨by have := HACC.out; simp; omega⟩, ⟨fun q hq => by rcases List.mem_append.1 hq with e | e; (exact HP.out q e); (cases List.mem_singleton.1 e; exact HPB.out)⟩, HSEQ, ⟨hp.1⟩, ⟨below_set HB1.out HBW.out.size⟩⟩, by (try rw [hkw]); simp [intOf]; omega⟩
            · rw [seqFrom_bad (by rw [hg]; exact he), hg] at hseq
              have hres := HH.out
              rw [← hseq, if_pos he] at hres
              cases hres
              have he0 : (e == 0) = false := beq_eq_false_iff_ne.2 he
              have he1 : (e != 0) = true := bne_iff_ne.2 he
              clear hg hpe hs hseq hacc hxI hk hcx he HH
              have hcx := HCX.out
              go_wp2_with (first | (go_at_call 107; (with_reducible refine (fix_Sub.calls x m (x - m) 0 _ HS.out).mono ?_); rintro ed W3 ⟨rfl, ⟨nd1, rfl⟩⟩) | (go_at_call 55; (with_reducible refine (table_Exp.calls (x - m) a0 p e _ HE.out).mono ?_); rintro ed W2 ⟨rfl, hb⟩; have HO1 := Aside0.mk (Kd.R_below (show Kd.R (Kd.int .i64) 2 (wr.drewN nd1) w.heap.size (fun _ => True) (.slice (some ⟨W1.heap.size, 0, none⟩) n n) (acc ++ List.replicate (n - k) 0) from HO.out) hb); have HB1 := Aside0.mk (below_then (zzN HB.out nd1) (zzN HB.out nd1).size hb); clear hb; have hcell := (Kd.R_celln 0 HO1.out (k : Int) (by omega) (by omega)).1; have hfr := (Kd.R_celln 0 HO1.out (k : Int) (by omega) (by omega)).2; simp only [Int.toNat_natCast] at hcell hfr))
              go_ret2
              exact ⟨_, rfl, Kd.R_nil _ _ _ _ _, below_set HB1.out HBW.out.size⟩
          · have HS : Aside0 (fix_Sub.f x m = some (0, 2)) := ⟨by rw [fix_Sub.of x m ⟨hxI, HM.out⟩, res_not hs]⟩
            have hg : powF m a0 x = (0, 2) := by unfold powF; rw [if_neg hs]
            rw [seqFrom_bad (by rw [hg]; decide), hg] at hseq
            have hres := HH.out
            rw [← hseq, if_pos (by decide)] at hres
            cases hres
            clear hg hs hseq hacc hxI hk hcx HH
            have hcx := HCX.out
            go_wp2_with (go_at_call 107; (with_reducible refine (fix_Sub.calls x m 0 2 _ HS.out).mono ?_); rintro ed W3 ⟨rfl, ⟨nd1, rfl⟩⟩)
            go_ret2
            exact ⟨_, rfl, Kd.R_nil _ _ _ _ _, zzN HB.out _⟩
        · have hkn : k = n := by omega
          subst hkn
          rw [List.drop_eq_nil_of_le (by have := HNN.out; omega), seqFrom_nil] at hseq
          have hres := HH.out
          rw [← hseq] at hres
          simp only [ne_eq, not_true, if_false] at hres
          rw [← seqFrom_start] at hres
          have HRES := Aside0.mk hres
          have HACC := Aside0.mk hacc
          have HO2 := HO.out
          rw [Nat.sub_self, List.replicate_zero, List.append_nil] at HO2
          have HO3 := Aside0.mk HO2
          obtain ⟨S, hS⟩ : ∃ S, sumI acc = S := ⟨_, rfl⟩
          have hSI : I64 S := by
            have s0 := sumI_nn acc (fun q hq => (HP.out q hq).1)
            have s1 := sumI_ub acc 1073741824 (fun q hq => (HP.out q hq).2)
            have := HN.out
            have := HNN.out
            rw [hS] at s0 s1
            unfold I64; omega
          have HSI := Aside0.mk hSI
          rw [hS] at HRES
          simp only [hS]
          clear hseq hres HO2 HO hacc hk hS hSI HH HCM
          go_wp2_with fail
          go_loopw [76] (fun v W => ∃ (j : Nat) (qs : List Int), v = .int .i64 j ∧ Aside0 (j ≤ k) ∧ Aside0 (qs.length = j) ∧ Aside0 (seqFrom (fun p => divF p S a0) (acc.drop j) qs = (r1, r2)) ∧ Aside0 (Kd.R (Kd.int .i64) 2 W w.heap.size (fun _ => True) (.slice (some ⟨W1.heap.size, 0, none⟩) k k) (qs ++ acc.drop j)) ∧ Aside0 (Below w.heap.size w W)) (fun v _ => k - (intOf v).toNat)
          case atStart => exact ⟨0, [], rfl, ⟨Nat.zero_le _⟩, ⟨rfl⟩, HRES, HO3, HB⟩
          case round =>
            clear HRES HO3 HB
            obtain ⟨j, qs, rfl, ⟨hj⟩, ⟨hqs⟩, ⟨hseq⟩, HO, HB⟩ := hrel
            by_cases hlt2 : j < k
            · have hjl : j < acc.length := by have := HACC.out; omega
              obtain ⟨p, hpx⟩ : ∃ p, acc[j] = p := ⟨_, rfl⟩
              have hpI : 0 ≤ p ∧ p ≤ 1073741824 := by rw [← hpx]; exact HP.out _ (List.getElem_mem hjl)
              have hdr : acc.drop j = p :: acc.drop (j + 1) := by rw [List.drop_eq_getElem_cons hjl, hpx]
              rw [hdr] at hseq
              have HO2 := HO.out
              rw [hdr] at HO2
              have hcell0 := (Kd.R_celln 0 HO2 (j : Int) (by omega) (by omega)).1
              have hrp : rdOf 0 (qs ++ p :: acc.drop (j + 1)) (j : Int) = p := by
                simp [rdOf, List.getD_eq_getElem?_getD, ← hqs]
              rw [hrp] at hcell0
              simp only [Int.toNat_natCast] at hcell0
              have hcellr := hcell0
              have HO3 := Aside0.mk HO2
              have HQS := Aside0.mk hqs
              obtain ⟨q, e, hqe⟩ : ∃ q e, divF p S a0 = (q, e) := ⟨_, _, rfl⟩
              have HD : Aside0 (fix_Div.f p S a0 = some (q, e)) := ⟨by rw [fix_Div.of p S a0 ⟨by unfold I64; omega, HSI.out⟩, hqe]⟩
              have hdec : (q, e) = divF p S a0 := hqe.symm
              by_cases he : e = 0
              · subst he
                rw [seqFrom_ok (by rw [hqe]), hqe] at hseq
                have HSEQ := Aside0.mk hseq
                clear hseq hqe hdec hpI hdr HO2 hcell0 hrp hpx hjl hqs hj HO
                go_wp2_with (go_at_call 113; (with_reducible refine (fix_Div.calls p S a0 q 0 _ HD.out).mono ?_); rintro ed W2 ⟨rfl, hd⟩; have hb : Below wr.heap.size wr W2 := (by first | exact hd | exact hd.below); clear hd; have HO1 := Aside0.mk (Kd.R_below HO3.out hb); have HB1 := Aside0.mk (below_then HB.out HB.out.size hb); clear hb; have hcell := (Kd.R_celln 0 HO1.out (j : Int) (by omega) (by omega)).1; have hfr := (Kd.R_celln 0 HO1.out (j : Int) (by omega) (by omega)).2; simp only [Int.toNat_natCast] at hcell hfr)
                have hjw : wrap64 ((j : Int) + 1) = ((j + 1 : Nat) : Int) := by
                  have := HN.out; have := HNN.out
                  rw [wrap64_of (by unfold I64; omega)]; omega
                have hp := Kd.R_putg HO1.out (j : Int) q
                have hset : (qs ++ p :: acc.drop (j + 1)).set (j : Int).toNat q = (qs ++ [q]) ++ acc.drop (j + 1) := by
                  rw [Int.toNat_natCast, ← HQS.out, List.set_append_right _ _ (Nat.le_refl _), Nat.sub_self]
                  simp
                rw [hset] at hp
                simp only [Int.toNat_natCast] at hp
                exact ⟨⟨j + 1, qs ++ [q], by first | rfl | rw [hjw], ⟨by omega⟩, ⟨by have := HQS.out; simp; omega⟩, HSEQ, ⟨hp.1⟩, ⟨below_set HB1.out HBW.out.size⟩⟩, by (try rw [hjw]); simp [intOf]; omega⟩
              · rw [seqFrom_bad (by rw [hqe]; exact he), hqe] at hseq
                cases hseq
                have he0 : (e == 0) = false := beq_eq_false_iff_ne.2 he
                have he1 : (e != 0) = true := bne_iff_ne.2 he
                clear hqe hdec hpI hdr HO2 hcell0 hrp hpx hjl hqs hj HO he
                go_wp2_with (go_at_call 113; (with_reducible refine (fix_Div.calls p S a0 q e _ HD.out).mono ?_); rintro ed W2 ⟨rfl, hd⟩; have hb : Below wr.heap.size wr W2 := (by first | exact hd | exact hd.below); clear hd; have HO1 := Aside0.mk (Kd.R_below HO3.out hb); have HB1 := Aside0.mk (below_then HB.out HB.out.size hb); clear hb; have hcell := (Kd.R_celln 0 HO1.out (j : Int) (by omega) (by omega)).1; have hfr := (Kd.R_celln 0 HO1.out (j : Int) (by omega) (by omega)).2; simp only [Int.toNat_natCast] at hcell hfr)
                go_ret2
                exact ⟨_, rfl, Kd.R_nil _ _ _ _ _, below_set HB1.out HBW.out.size⟩
            · have hjk : j = k := by omega
              subst hjk
              rw [List.drop_eq_nil_of_le (by have := HACC.out; omega), seqFrom_nil] at hseq
              cases hseq
              have HO2 := HO.out
              rw [List.drop_eq_nil_of_le (by have := HACC.out; omega), List.append_nil] at HO2
              have HO3 := Aside0.mk HO2
              clear HO2 HO hj hqs
              go_wp2
              go_ret2
              exact ⟨_, rfl, HO3.out, HB.out⟩
  · rw [if_pos hb] at h
    cases h
    have HBE : Aside0 (table_Best.f l1 = some (0, (bestF l1).2)) := ⟨congrArg some (Prod.ext (bestF_err hb) rfl)⟩
    obtain ⟨e_, hE⟩ : ∃ e_ : Int, (bestF l1).2 = e_ := ⟨_, rfl⟩
    have he0 : (e_ == 0) = false := by rw [← hE]; exact beq_eq_false_iff_ne.2 hb
    have he1 : (e_ != 0) = true := by rw [← hE]; exact bne_iff_ne.2 hb
    rw [hE] at HBE
    simp only [hE]
    clear hE hb
    go_enter Try.func50, Try.ntmps50
    go_wp2_with (go_at_call 52; (with_reducible refine (table_Best.calls A1 c1 l1 0 e_ _ HR.out HC.out HBE.out).mono ?_); rintro ed W1 ⟨rfl, hb⟩; have HBW := Aside0.mk hb; clear hb)
    go_ret2
    exact ⟨_, rfl, Kd.R_nil _ _ _ _ _, HBW.out⟩


/-! ### linear_CheckP: function 69 -/
def linear_CheckP.l0 : Nat → Int → List (S26) → Bool → List (S26) → Int → Int → Option (Int)
 | 0, _, _, _, _, _, _ => none
 | k + 1, x0, x2, x9, x24, x25, x26 => if x26 < x25 then (if 0 ≤ x26 then (if x26 < (x24.length : Int) then (if x9 = true then (linear_CheckP.l0 k x0 x2 ((((rd_T26 x24 x26).f0).length : Int) == x0) x24 x25 (wrap64 (x26 + 1))) else (linear_CheckP.l0 k x0 x2 false x24 x25 (wrap64 (x26 + 1)))) else (none)) else (none)) else (if x9 = true then (if (x2.length : Int) = 0 then (some 1) else (if (x2.length : Int) > 64 then (some 1) else (some 0))) else (some 4))
def linear_CheckP.f (k : Nat) (a0 : Int) (l1 : List Int) (l2 : List (S26)) : Option (Int) := (linear_Dim.f a0).bind fun bt122 => (if bt122.2 = 0 then (linear_CheckP.l0 k a0 l2 ((l1.length : Int) == bt122.1) l2 (l2.length : Int) 0) else (some bt122.2))
theorem linear_CheckP.mono_l : ∀ k, (∀ y0 y1 y2 y3 y4 y5, LeO (linear_CheckP.l0 k y0 y1 y2 y3 y4 y5) (linear_CheckP.l0 (k + 1) y0 y1 y2 y3 y4 y5))
 | 0 => fun _ _ _ _ _ _ r h => by simp [linear_CheckP.l0] at h
 | k + 1 => by
  have ih0 := linear_CheckP.mono_l k
  ·
   intro y0 y1 y2 y3 y4 y5
   unfold linear_CheckP.l0
   repeat' first
   | (with_reducible exact ih0 _ _ _ _ _ _)
   | (with_reducible exact LeO.refl _)
   | (with_reducible exact LeO.none _)
   | (with_reducible refine LeO.ite ?_ ?_)
   | (with_reducible refine LeO.bind ?_ (fun _ => ?_))
   | exact ih0 _ _ _ _ _ _
   | exact LeO.none _
   | refine LeO.ite ?_ ?_
   | refine LeO.bind ?_ (fun _ => ?_)
theorem linear_CheckP.mono : ∀ a0 a1 a2 k, LeO (linear_CheckP.f k a0 a1 a2) (linear_CheckP.f (k + 1) a0 a1 a2) := by
 intro a0 a1 a2 k
 have ih0 := linear_CheckP.mono_l k
 unfold linear_CheckP.f
 repeat' first
   | (with_reducible exact ih0 _ _ _ _ _ _)
   | (with_reducible exact LeO.refl _)
   | (with_reducible exact LeO.none _)
   | (with_reducible refine LeO.ite ?_ ?_)
   | (with_reducible refine LeO.bind ?_ (fun _ => ?_))
   | exact ih0 _ _ _ _ _ _
   | exact LeO.none _
   | refine LeO.ite ?_ ?_
   | refine LeO.bind ?_ (fun _ => ?_)
set_option maxHeartbeats 8000000 in
set_option maxRecDepth 100000 in
theorem linear_CheckP.calls (k : Nat) (a0 : Int) (A1 : Option Addr) (c1 : Nat) (l1 : List Int) (A2 : Option Addr) (c2 : Nat) (l2 : List (S26)) (r : Int) (w : World) (hr1 : Kd.C (Kd.int .i64) w A1 l1.length l1) (hc1 : l1.length ≤ c1) (hr2 : Kd.C k26 w A2 l2.length l2) (hc2 : l2.length ≤ c2) (h : linear_CheckP.f k a0 l1 l2 = some r) :
  Calls Try.prog 69 #[.int .i64 a0, .slice A1 l1.length c1, .slice A2 l2.length c2] w fun e w' => e = .returned (.int .i64 r) ∧ Below w.heap.size w w' := by
 have hu26 := Try.underlying26
 have HR1 := Aside0.mk hr1
 have HC1 := Aside0.mk hc1
 clear hr1 hc1
 have HR2 := Aside0.mk hr2
 have HC2 := Aside0.mk hc2
 clear hr2 hc2
 have HB := Aside0.mk (Below.refl w.heap.size w)
 have H : ((linear_Dim.f a0).bind fun bt122 => (if bt122.2 = 0 then (linear_CheckP.l0 k a0 l2 ((l1.length : Int) == bt122.1) l2 (l2.length : Int) 0) else (some bt122.2))) = some r := h
 clear h
 replace H := Option.bind_eq_some_iff.mp H
 obtain ⟨⟨t122, t123⟩, A40, H⟩ := H
 replace H : (if t123 = 0 then (linear_CheckP.l0 k a0 l2 ((l1.length : Int) == t122) l2 (l2.length : Int) 0) else (some t123)) = some r := H
 have A4 := Aside0.mk A40
 clear A40
 by_cases c5 : t123 = 0
 ·
  rw [if_pos c5] at H
  have c5b0 : (t123 == 0) = true := beq_iff_eq.mpr c5
  have c5b1 : (t123 != 0) = false := bne_eq_false_iff_eq.mpr c5
  clear c5
  have H' := Aside0.mk H
  clear H
  go_enter Try.func69, Try.ntmps69
  go_wp2_with (first | ((with_reducible refine gate_callee (f := 67) rfl ?_); refine goesL_ (some 14) rfl rfl Try.func67 (by kernel_rfl) rfl #[.int .i64 a0] rfl (by (try simp only [List.map_toArray, List.map_cons, List.map_nil]); first | done | rfl | (simp only [List.length_drop, List.length_take]; rfl)) ?_; (with_reducible refine (linear_Dim.calls a0 t122 t123 _ A4.out).mono ?_); rintro e w' ⟨rfl, ⟨nd, rfl⟩⟩; refine ⟨_, rfl, ?_⟩))
  go_loopg [9, 26] k (fun kq v9 v26 w' => ∃ (x9_1 : Bool) (x26_1 : Int), v9 = .bool x9_1 ∧ v26 = .int .i64 x26_1 ∧ Aside0 (linear_CheckP.l0 kq a0 l2 x9_1 l2 (l2.length : Int) x26_1 = some r) ∧ Aside0 (kq ≤ k) ∧ Aside0 (Below w.heap.size w w'))
  case atStart => exact ⟨(((l1.length : Int) == t122)), (0), (by first | rfl | (simp; done) | (simp [*]; done)), (by first | rfl | (simp; done) | (simp [*]; done)), H', ⟨Nat.le_refl _⟩, ⟨by repeat (first | (with_reducible first | exact HB.out | apply zzA | apply zzN | apply zzD) | exact HB.out)⟩⟩
  case round =>
   clear H'
   try clear c1
   try clear c2
   try clear p2
   try clear c5
   try clear c5b0
   try clear c5b1
   obtain ⟨x9_1, x26_1, rfl, rfl, HA, HK1, HB⟩ := hrel
   cases gk with
   | zero => exact absurd HA.out (by simp [linear_CheckP.l0])
   | succ k1 =>
    have H := HA.out
    clear HA
    simp only [linear_CheckP.l0] at H
    by_cases c6 : x26_1 < (l2.length : Int)
    ·
     rw [if_pos c6] at H
     have c6b0 : decide (x26_1 < (l2.length : Int)) = true := decide_eq_true c6
     clear c6
     by_cases c7 : 0 ≤ x26_1
     ·
      rw [if_pos c7] at H
      have c7b0 : decide (0 ≤ x26_1) = true := decide_eq_true c7
      clear c7
      by_cases c8 : x26_1 < (l2.length : Int)
      ·
       rw [if_pos c8] at H
       have c8b0 : decide (x26_1 < (l2.length : Int)) = true := decide_eq_true c8
       clear c8
       by_cases c9 : x9_1 = true
       ·
        subst c9
        have H1 : (linear_CheckP.l0 k1 a0 l2 ((((rd_T26 l2 x26_1).f0).length : Int) == a0) l2 (l2.length : Int) (wrap64 (x26_1 + 1))) = some r := by rw [if_pos rfl] at H; exact H
        clear H
        have H := H1
        clear H1
        have H' := Aside0.mk H
        clear H
        have p124 : 0 ≤ (x26_1 : Int) := of_decide_eq_true (by first | (with_reducible assumption) | assumption)
        have q124 : x26_1 < (l2.length : Int) := of_decide_eq_true (by first | (with_reducible assumption) | assumption)
        obtain ⟨ad124, A124_0, c124_0, e124, hx124_0, hx124_1, hl124_0, hi124_0⟩ := at_T26 HR2.out x26_1 p124 q124
        cases e124
        replace hx124_0 := (HB.out.cell (World.block_lt_of_cell? w _ hx124_0)).trans hx124_0
        replace hx124_1 := (HB.out.cell (World.block_lt_of_cell? w _ hx124_1)).trans hx124_1
        have HR124_0 := Aside0.mk hi124_0
        have HC124_0 := Aside0.mk hl124_0
        clear hi124_0 hl124_0
        replace p124 := eq_true p124
        replace q124 := eq_true q124
        go_wp2_with (first | ((with_reducible refine gate_dst (N := 11) rfl ?_); (try (refine gate_guard (by rfl) ?_; dsimp only)); refine box_event ?hg (N := 11) ?hd (cs := #[.slice none 0 0, .int .i64 0]) (t := 26) ?hr ?_; (case hd => rfl); (case hg => rfl); (case hr => first | (go_simp; done) | (go_simp; rfl)); intro gb125 hg w10 hbox hb; have n0_ := Aside0.mk (zzT (by repeat (first | (with_reducible first | exact HB.out | apply zzA | apply zzN | apply zzD) | exact HB.out)) hb); have n1_ := Aside0.mk (hbox); have n2_ := Aside0.mk ((by rw [hg]; exact (zzS (by repeat (first | (with_reducible first | exact HB.out | apply zzA | apply zzN | apply zzD) | exact HB.out))) : w.heap.size ≤ gb125)); have n3_ := Aside0.mk ((by rw [hg]; exact (zzS (by repeat (first | (with_reducible first | exact HB.out | apply zzA | apply zzN | apply zzD) | exact HB.out))) : w.heap.size ≤ gb125)); clear HB; have HB := n0_; have BK125 := n1_; have GW125 := n2_; have GE125 := n3_; clear n0_ n1_ n2_ n3_; clear hb hbox hg; have hcz11_0 : w10.cell? ⟨gb125, 0, none⟩ = some (.slice none 0 0) := (blk_cell BK125.out 0).trans rfl; have hcz11_1 : w10.cell? ⟨gb125, 1, none⟩ = some (.int .i64 0) := (blk_cell BK125.out 1).trans rfl; have hfz11_0 := blk_frozen BK125.out 0; have hfz11_1 := blk_frozen BK125.out 1))
        go_roundg k1
        case measure => have := HK1.out; omega
        case rel => exact ⟨(((((rd_T26 l2 x26_1).f0).length : Int) == a0)), (wrap64 (x26_1 + 1)), (by first | rfl | (simp; done) | (simp [*]; done)), (by first | rfl | (simp; done) | (simp [*]; done)), H', ⟨by have := HK1.out; omega⟩, ⟨by repeat (first | (with_reducible first | exact HB.out | apply zzA | apply zzN | apply zzD | refine below_set ?_ GE125.out) | exact HB.out)⟩⟩
       ·
        replace c9 := Bool.eq_false_iff.mpr c9
        subst c9
        have H1 : (linear_CheckP.l0 k1 a0 l2 false l2 (l2.length : Int) (wrap64 (x26_1 + 1))) = some r := by rw [if_neg (show ¬ (false = true) by decide)] at H; exact H
        clear H
        have H := H1
        clear H1
        have H' := Aside0.mk H
        clear H
        have p124 : 0 ≤ (x26_1 : Int) := of_decide_eq_true (by first | (with_reducible assumption) | assumption)
        have q124 : x26_1 < (l2.length : Int) := of_decide_eq_true (by first | (with_reducible assumption) | assumption)
        obtain ⟨ad124, A124_0, c124_0, e124, hx124_0, hx124_1, hl124_0, hi124_0⟩ := at_T26 HR2.out x26_1 p124 q124
        cases e124
        replace hx124_0 := (HB.out.cell (World.block_lt_of_cell? w _ hx124_0)).trans hx124_0
        replace hx124_1 := (HB.out.cell (World.block_lt_of_cell? w _ hx124_1)).trans hx124_1
        have HR124_0 := Aside0.mk hi124_0
        have HC124_0 := Aside0.mk hl124_0
        clear hi124_0 hl124_0
        replace p124 := eq_true p124
        replace q124 := eq_true q124
        go_wp2_with (first | ((with_reducible refine gate_dst (N := 11) rfl ?_); (try (refine gate_guard (by rfl) ?_; dsimp only)); refine box_event ?hg (N := 11) ?hd (cs := #[.slice none 0 0, .int .i64 0]) (t := 26) ?hr ?_; (case hd => rfl); (case hg => rfl); (case hr => first | (go_simp; done) | (go_simp; rfl)); intro gb125 hg w12 hbox hb; have n0_ := Aside0.mk (zzT (by repeat (first | (with_reducible first | exact HB.out | apply zzA | apply zzN | apply zzD) | exact HB.out)) hb); have n1_ := Aside0.mk (hbox); have n2_ := Aside0.mk ((by rw [hg]; exact (zzS (by repeat (first | (with_reducible first | exact HB.out | apply zzA | apply zzN | apply zzD) | exact HB.out))) : w.heap.size ≤ gb125)); have n3_ := Aside0.mk ((by rw [hg]; exact (zzS (by repeat (first | (with_reducible first | exact HB.out | apply zzA | apply zzN | apply zzD) | exact HB.out))) : w.heap.size ≤ gb125)); clear HB; have HB := n0_; have BK125 := n1_; have GW125 := n2_; have GE125 := n3_; clear n0_ n1_ n2_ n3_; clear hb hbox hg; have hcz13_0 : w12.cell? ⟨gb125, 0, none⟩ = some (.slice none 0 0) := (blk_cell BK125.out 0).trans rfl; have hcz13_1 : w12.cell? ⟨gb125, 1, none⟩ = some (.int .i64 0) := (blk_cell BK125.out 1).trans rfl; have hfz13_0 := blk_frozen BK125.out 0; have hfz13_1 := blk_frozen BK125.out 1))
        go_roundg k1
        case measure => have := HK1.out; omega
        case rel => exact ⟨(false), (wrap64 (x26_1 + 1)), (by first | rfl | (simp; done) | (simp [*]; done)), (by first | rfl | (simp; done) | (simp [*]; done)), H', ⟨by have := HK1.out; omega⟩, ⟨by repeat (first | (with_reducible first | exact HB.out | apply zzA | apply zzN | apply zzD | refine below_set ?_ GE125.out) | exact HB.out)⟩⟩
      ·
       rw [if_neg c8] at H
       exact absurd H (by simp)
     ·
      rw [if_neg c7] at H
      exact absurd H (by simp)
    ·
     rw [if_neg c6] at H
     have c6b0 : decide (x26_1 < (l2.length : Int)) = false := decide_eq_false c6
     clear c6
     by_cases c14 : x9_1 = true
     ·
      subst c14
      have H1 : (if (l2.length : Int) = 0 then (some 1) else (if (l2.length : Int) > 64 then (some 1) else (some 0))) = some r := by rw [if_pos rfl] at H; exact H
      clear H
      have H := H1
      clear H1
      by_cases c15 : (l2.length : Int) = 0
      ·
       rw [if_pos c15] at H
       have c15b0 : ((l2.length : Int) == 0) = true := beq_iff_eq.mpr c15
       have c15b1 : ((l2.length : Int) != 0) = false := bne_eq_false_iff_eq.mpr c15
       clear c15
       obtain rfl := Option.some.inj H
       go_wp2
       go_ret
       exact ⟨by first | rfl | (simp [errW_none, errW_some] <;> rfl) | (simp [*, errW_none, errW_some] <;> rfl), by repeat (first | (with_reducible first | exact HB.out | apply zzA | apply zzN | apply zzD) | exact HB.out)⟩
      ·
       rw [if_neg c15] at H
       have c15b0 : ((l2.length : Int) == 0) = false := beq_eq_false_iff_ne.mpr c15
       have c15b1 : ((l2.length : Int) != 0) = true := bne_iff_ne.mpr c15
       have c15b2 : ¬ (l2 = []) := fun h_ => c15 (by rw [h_]; rfl)
       by_cases c16 : (l2.length : Int) > 64
       ·
        rw [if_pos c16] at H
        have c16b0 : decide (64 < (l2.length : Int)) = true := decide_eq_true c16
        have c16b1 : decide (64 < l2.length) = true := decide_eq_true (by omega)
        clear c16
        obtain rfl := Option.some.inj H
        go_wp2
        go_ret
        exact ⟨by first | rfl | (simp [errW_none, errW_some] <;> rfl) | (simp [*, errW_none, errW_some] <;> rfl), by repeat (first | (with_reducible first | exact HB.out | apply zzA | apply zzN | apply zzD) | exact HB.out)⟩
       ·
        rw [if_neg c16] at H
        have c16b0 : decide (64 < (l2.length : Int)) = false := decide_eq_false c16
        have c16b1 : decide (64 < l2.length) = false := decide_eq_false (by omega)
        clear c16
        obtain rfl := Option.some.inj H
        go_wp2
        go_ret
        exact ⟨by first | rfl | (simp [errW_none, errW_some] <;> rfl) | (simp [*, errW_none, errW_some] <;> rfl), by repeat (first | (with_reducible first | exact HB.out | apply zzA | apply zzN | apply zzD) | exact HB.out)⟩
     ·
      replace c14 := Bool.eq_false_iff.mpr c14
      subst c14
      have H1 : (some 4) = some r := by rw [if_neg (show ¬ (false = true) by decide)] at H; exact H
      clear H
      have H := H1
      clear H1
      obtain rfl := Option.some.inj H
      go_wp2
      go_ret
      exact ⟨by first | rfl | (simp [errW_none, errW_some] <;> rfl) | (simp [*, errW_none, errW_some] <;> rfl), by repeat (first | (with_reducible first | exact HB.out | apply zzA | apply zzN | apply zzD) | exact HB.out)⟩
 ·
  rw [if_neg c5] at H
  have c5b0 : (t123 == 0) = false := beq_eq_false_iff_ne.mpr c5
  have c5b1 : (t123 != 0) = true := bne_iff_ne.mpr c5
  obtain rfl := Option.some.inj H
  go_enter Try.func69, Try.ntmps69
  go_wp2_with (first | ((with_reducible refine gate_callee (f := 67) rfl ?_); refine goesL_ (some 14) rfl rfl Try.func67 (by kernel_rfl) rfl #[.int .i64 a0] rfl (by (try simp only [List.map_toArray, List.map_cons, List.map_nil]); first | done | rfl | (simp only [List.length_drop, List.length_take]; rfl)) ?_; (with_reducible refine (linear_Dim.calls a0 t122 t123 _ A4.out).mono ?_); rintro e w' ⟨rfl, ⟨nd, rfl⟩⟩; refine ⟨_, rfl, ?_⟩))
  go_ret
  exact ⟨by first | rfl | (simp [errW_none, errW_some] <;> rfl) | (simp [*, errW_none, errW_some] <;> rfl), by repeat (first | (with_reducible first | exact HB.out | apply zzA | apply zzN | apply zzD) | exact HB.out)⟩

theorem linear_CheckP.loop (x0 : Int) (x2 : List S26) (hb : x2.length ≤ 9223372036854775807) : ∀ (d i : Nat) (b : Bool), d + i = x2.length →
    linear_CheckP.l0 (d + 1) x0 x2 b x2 (x2.length : Int) (i : Int) = some (fitsGo x0 (x2.drop i) x2.length b) := by
  intro d
  induction d with
  | zero =>
    intro i b hd
    rw [linear_CheckP.l0, if_neg (by omega), List.drop_eq_nil_of_le (by omega)]
    by_cases c : b = true
    · rw [if_pos c, c, fitsGo_nil]
      by_cases c2 : (x2.length : Int) = 0
      · rw [if_pos c2, if_pos (by omega)]
      · rw [if_neg c2]
        by_cases c3 : (x2.length : Int) > 64
        · rw [if_pos c3, if_pos (by omega)]
        · rw [if_neg c3, if_neg (by omega)]
    · rw [if_neg c, Bool.eq_false_iff.2 c, fitsGo_false]
  | succ d ih =>
    intro i b hd
    have hi : i < x2.length := by omega
    rw [linear_CheckP.l0, if_pos (by omega), if_pos (by omega), if_pos (by omega), rd_sm hi, List.drop_eq_getElem_cons hi, wrap64_of (by unfold I64; omega), show (i : Int) + 1 = ((i + 1 : Nat) : Int) by omega, ih (i + 1) _ (by omega), ih (i + 1) _ (by omega)]
    by_cases c : b = true
    · rw [if_pos c, c, fitsGo_cons]
    · rw [if_neg c, Bool.eq_false_iff.2 c, fitsGo_false, fitsGo_false]
def linear_Check.f (a0 : Int) (l1 : List Int) (l2 : List S26) : Option Int := some (checkL a0 l1 (l2.map sm))
theorem linear_Check.calls (a0 : Int) (A1 : Option Addr) (c1 : Nat) (l1 : List Int) (A2 : Option Addr) (c2 : Nat) (l2 : List (S26)) (r : Int) (w : World) (hr1 : Kd.C (Kd.int .i64) w A1 l1.length l1) (hc1 : l1.length ≤ c1) (hr2 : Kd.C k26 w A2 l2.length l2) (hc2 : l2.length ≤ c2) (h : linear_Check.f a0 l1 l2 = some r) :
    Calls Try.prog 69 #[.int .i64 a0, .slice A1 l1.length c1, .slice A2 l2.length c2] w fun e w' => e = .returned (.int .i64 r) ∧ Below w.heap.size w w' := by
  have hm := Kd.C_max hr2
  refine linear_CheckP.calls (l2.length + 1) a0 A1 c1 l1 A2 c2 l2 r w hr1 hc1 hr2 hc2 (Eq.trans ?_ h)
  unfold linear_CheckP.f linear_Check.f
  rw [linear_Dim.of, checkL_sm]
  unfold dimL
  simp only [Option.bind_some]
  by_cases c : a0 < 1 ∨ a0 > 16
  · rw [if_pos c, if_pos c]; rfl
  · rw [if_neg c, if_neg c]
    simp only [if_true]
    exact linear_CheckP.loop a0 l2 hm l2.length 0 _ (by omega)


end Go.Proofs.Ytfbdalnjijdknaa.HS
