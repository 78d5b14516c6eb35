/- What Go functions do, each as a plain Lean function with the same answers, and the proof of it, in every world: printed by the session's driver over the kit's print, with texts by hand. -/
import Derived.Test.YtalamamjodihaaaHOx0
import Derived.Test.YtalamamjodihaaaHOx1
import Derived.Test.YtalamamjodihaaaHOx4
import Derived.Test.YtalamamjodihaaaHOx9
import Derived.Test.YtalamamjodihaaaHOx12
import Derived.Test.YtalamamjodihaaaHOx15
namespace Go.Proofs.Ytalamamjodihaaa.HO
open Go.RowKit Go.Proofs.YtalamamjodihaaaW.PrintWords Go.Proofs.YtalamamjodihaaaW.PrintLast Go.Proofs.YtalamamjodihaaaW.PrintMore
attribute [local go_sem] max2_int min2_int max_two min_two max_three min_three max_four min_four   -- for this text's walks alone
open Go.Proofs.Ytalamamjodihaaa.Sp
attribute [local go_sem] Go.Proofs.Ytalamamjodihaaa.Sp.u64_not
set_option linter.unusedVariables false
set_option linter.unusedSimpArgs false

/-! ### thrumref16_Grad: function 28 -/
def thrumref16_Grad.f (a0 : Int) (l1 : List Int) (a2 : Int) (l3 : List S26) : Option (List Int × Int) := if V64 l1 ∧ (∀ s ∈ l3, V64 s.f0 ∧ I64 s.f1) then some (gradM a0 l1 a2 (l3.map sm)) else none
theorem thrumref16_Grad.of (a0 : Int) (l1 : List Int) (a2 : Int) (l3 : List S26)  (h_ : V64 l1 ∧ (∀ s ∈ l3, V64 s.f0 ∧ I64 s.f1)) : thrumref16_Grad.f a0 l1 a2 l3 = some (gradM a0 l1 a2 (l3.map sm)) := if_pos h_
theorem rowsM_smr (G : List Int → Int → List Int × Int) : ∀ l : List S26, rowsL (fun s : List Int × Int => G s.1 s.2) (l.map sm) = rowsL (fun s : S26 => G s.f0 s.f1) l
  | [] => rfl
  | x :: l => by simp only [List.map_cons, rowsL, rowsM_smr G l, sm]
theorem rd_rowsM {k m : Nat} {w : List Int} (h1 : 1 ≤ k) (hk : k * m + k + 1 = w.length) : (rd_L1 (rowsM k m w) 0).length = m := by
  have hrl := rowsM_len k m w
  have h0 : 0 < (rowsM k m w).length := by rw [hrl]; omega
  unfold rd_L1
  rw [show (0 : Int).toNat = 0 from rfl, List.getD_eq_getElem?_getD, List.getElem?_eq_getElem h0, Option.getD_some]
  simp only [rowsM, List.getElem_map, List.getElem_range, Go.Proofs.Ytalamamjodihaaa.Sp.rowAt]
  rw [List.length_take, List.length_drop]
  have : k * m ≥ 1 * m := Nat.mul_le_mul_right m h1
  omega
set_option maxHeartbeats 8000000 in
set_option maxRecDepth 100000 in
theorem thrumref16_Grad.calls (a0 : Int) (A1 : Option Addr) (c1 : Nat) (l1 : List Int) (a2 : Int) (A3 : Option Addr) (c3 : Nat) (l3 : List (S26)) (r1 : List Int) (r2 : Int) (w : World) (hr1 : Kd.C (Kd.int .i64) w A1 l1.length l1) (hc1 : l1.length ≤ c1) (hr3 : Kd.C k26 w A3 l3.length l3) (hc3 : l3.length ≤ c3) (h : thrumref16_Grad.f a0 l1 a2 l3 = some (r1, r2)) :
    Calls Try.prog 28 #[.int .i64 a0, .slice A1 l1.length c1, .int .i64 a2, .slice A3 l3.length c3] w fun e w' => ∃ v0_ : Value, e = .returned (.tuple #[v0_, .int .i64 r2]) ∧ Kd.R (Kd.int .i64) 2 w' w.heap.size (fun _ => True) v0_ r1 ∧ Below w.heap.size w w' := by
  unfold thrumref16_Grad.f at h
  split at h
  case isFalse => cases h
  rename_i hv
  have h := Option.some.inj h
  have hu26 := Try.underlying26
  have hu22 := Try.underlying22
  unfold gradM at h
  by_cases c : (splitM a0 l1).2.2 = 0
  · rw [if_neg (not_not_intro c)] at h
    obtain ⟨k, m, rfl, hk1, hk8, hm2, hm17, hkm, hlm, hs⟩ := splitM_good c
    have hone : ∀ x y, oneM k l1 x y a2 = bendN (rowsM k m l1) (l1.drop (k * m)) ((m : Int) - 1) x y a2 := fun x y => by unfold oneM; rw [if_pos c, hlm, hs]
    rw [hlm, hs] at h
    dsimp only at h
    rw [rowsM_smr (fun x y => bendN (rowsM k m l1) (l1.drop (k * m)) ((m : Int) - 1) x y a2), List.length_map] at h
    have hac : thrumref16_Check.f ((m : Int) - 1) k l1 l3 = some (checkM ((m : Int) - 1) k l1 (l3.map sm)) := rfl
    have hcf := @checkM_few ((m : Int) - 1) k l1 (l3.map sm)
    rw [List.length_map] at hcf
    generalize checkM ((m : Int) - 1) k l1 (l3.map sm) = ce at h hac hcf
    have AC := Aside0.mk hac
    have HSP := Aside0.mk (thrumref16_Split.calls k A1 c1 l1 (rowsM k m l1) (l1.drop (k * m)) 0 w hr1 hc1 (congrArg some hs))
    have HL0 := Aside0.mk (rd_rowsM hk1 hkm)
    have HRL := Aside0.mk (show 0 < (rowsM k m l1).length by rw [rowsM_len]; omega)
    have HAB := Aside0.mk (fun (x : List Int) (y : Int) (hx : V64 x) (hy : I64 y) => (thrumref16_one.of k l1 x y a2 ⟨hv.1, hx, hy⟩).trans (congrArg some (hone x y)))
    have HFW := Aside0.mk (rowsM_few (g := fun s : S26 => bendN (rowsM k m l1) (l1.drop (k * m)) ((m : Int) - 1) s.f0 s.f1 a2) (fun s => bendN_few _ _ _ _ _ _ (by rw [rowsM_len]; exact hk8) (by omega)) l3)
    have HR1 := Aside0.mk hr1
    have HC1 := Aside0.mk hc1
    have HR3 := Aside0.mk hr3
    have HC3 := Aside0.mk hc3
    have HV3 := Aside0.mk hv.2
    generalize rowsM k m l1 = R0 at HSP HL0 HRL HAB HFW h
    generalize l1.drop (k * m) = L0 at HSP HAB HFW h
    clear hs hlm hkm hr1 hc1 hr3 hc3 c hv hac hone
    by_cases cc : ce = 0
    · rw [if_neg (not_not_intro cc)] at h
      have hl64 := hcf cc
      subst cc
      clear hcf
      go_enter Try.func28, Try.ntmps28
      go_wp2_with (first | (go_at_call 18; (with_reducible refine HSP.out.mono ?_); rintro e w1 ⟨v0, v1, rfl, hS, ho1, hb⟩; have HB := Aside0.mk hb; obtain ⟨Ao, co, eo⟩ := Kd.S_slice hS; subst eo; obtain ⟨ad2, A2, c2, e2, hx, hl, hi⟩ := at_L1 (Kd.S_reads' hS).2.2 0 (by omega) (by have := HRL.out; omega); cases e2; rw [HL0.out, show ((0 : Int)).toNat = 0 from rfl, Addr.add_zero'] at hx; have p0 : (0 ≤ (0 : Int)) = True := eq_true (by omega); have q0 : (0 < (R0.length : Int)) = True := eq_true (by have := HRL.out; omega); have q1 : (0 < R0.length) = True := eq_true HRL.out; clear hS ho1 hb hl hi) | (go_at_call 26; (with_reducible refine (thrumref16_Check.calls ((m : Int) - 1) k A1 c1 l1 A3 c3 l3 0 _ (Kd.C_below HR1.out HB.out) HC1.out (Kd.C_below HR3.out HB.out) HC3.out AC.out).mono ?_); rintro e W1 ⟨rfl, hb2⟩; have HBC := Aside0.mk (below_then HB.out HB.out.size hb2); clear hb2))
      have HL64 := Aside0.mk hl64
      obtain ⟨⟨q1, q2⟩, hq⟩ : ∃ q, rowsL (fun s : S26 => bendN R0 L0 ((m : Int) - 1) s.f0 s.f1 a2) l3 = q := ⟨_, rfl⟩
      have hfw := HFW.out
      rw [hq] at h hfw
      dsimp only at h hfw
      have HQ := Aside0.mk ((rowsFrom_start (fun s : S26 => bendN R0 L0 ((m : Int) - 1) s.f0 s.f1 a2) l3).trans (by rw [hq]))
      have HFQ := Aside0.mk hfw
      have HEND := Aside0.mk h
      clear h hfw hq hl64
      go_loopw [14, 43] (fun v i W => ∃ (j : Nat) (acc : List (List Int)), i = .int .i64 j ∧ Aside0 (j ≤ l3.length) ∧ Aside0 (acc.length = j) ∧ Aside0 (rowsFrom (fun s : S26 => bendN R0 L0 ((m : Int) - 1) s.f0 s.f1 a2) (l3.drop j) acc = (q1, q2)) ∧ Aside0 (Kd.S (Kd.slice 2 (Kd.int .i64)) 22 W W1.heap.size (fun _ => True) v acc) ∧ Aside0 (Below W1.heap.size W1 W)) (fun _ i _ => l3.length - (intOf i).toNat)
      case atStart => exact ⟨0, [], rfl, ⟨Nat.zero_le _⟩, ⟨rfl⟩, ⟨by rw [List.drop_zero]; exact HQ.out⟩, ⟨Kd.S_nil _ _ _ _ _⟩, ⟨Below.refl _ _⟩⟩
      case round =>
        obtain ⟨j, acc, rfl, ⟨hj⟩, ⟨hal⟩, ⟨hgo⟩, HS, HBW⟩ := hrel
        obtain ⟨As, cs, es⟩ := Kd.S_slice HS.out
        subst es
        have HBR := Aside0.mk (below_then HBC.out HBC.out.size HBW.out)
        have HAL := Aside0.mk hal
        by_cases hlt : j < l3.length
        · obtain ⟨ad3, A, cx, rfl, hx0, hx1, hl, hi⟩ := at_T26 HR3.out (j : Int) (by omega) (by omega)
          obtain ⟨x, hx⟩ : ∃ x, rd_T26 l3 (j : Int) = x := ⟨_, rfl⟩
          have hmem : l3[j] = x := (rd_sm hlt).symm.trans hx
          rw [hx] at hx0 hx1 hl hi
          simp only [Int.toNat_natCast] at hx0 hx1
          replace hx0 := (HBR.out.cell (World.block_lt_of_cell? _ _ hx0)).trans hx0
          replace hx1 := (HBR.out.cell (World.block_lt_of_cell? _ _ hx1)).trans hx1
          have hxv := HV3.out x (hmem ▸ List.getElem_mem hlt)
          rw [List.drop_eq_getElem_cons hlt, hmem] at hgo
          obtain ⟨⟨b1, b2⟩, hb12⟩ : ∃ q, bendN R0 L0 ((m : Int) - 1) x.f0 x.f1 a2 = q := ⟨_, rfl⟩
          have hab := (HAB.out x.f0 x.f1 hxv.1 hxv.2).trans (congrArg some hb12)
          have AB := Aside0.mk hab
          have HXI := Aside0.mk hi
          have HXL := Aside0.mk hl
          have HLT := Aside0.mk hlt
          by_cases cb : b2 = 0
          · subst cb
            rw [rowsFrom_ok (g := fun s : S26 => bendN R0 L0 ((m : Int) - 1) s.f0 s.f1 a2) (by rw [hb12])] at hgo
            rw [hb12] at hgo
            have HGO := Aside0.mk hgo
            clear hi hl hx hmem hxv hgo hab hb12 hj hal
            have hapF := fun {W6 : World} {A6 : Option Addr} {c6 : Nat} (hR6 : Kd.R (Kd.int .i64) 2 W6 (wr.alloc (Obj.cells #[.slice A x.f0.length cx, .int .i64 x.f1] 26)).heap.size (fun _ => True) (.slice A6 b1.length c6) b1) (hb6 : Below (wr.alloc (Obj.cells #[.slice A x.f0.length cx, .int .i64 x.f1] 26)).heap.size (wr.alloc (Obj.cells #[.slice A x.f0.length cx, .int .i64 x.f1] 26)) W6) => Kd.R_mono (ok' := fun k_ => True ∧ some k_ ≠ (Value.slice As acc.length cs).ownBlock) (Kd.R_apart' (Kd.R_lower hR6 (show W1.heap.size ≤ _ from by have := HBW.out.size; simp; omega)) (Kd.S_typed (Kd.S_below (Kd.S_below HS.out (zzA (Below.refl _ _) _)) hb6)) (by decide)) (fun k_ hk => ⟨trivial, hk.2⟩)
            go_wp2_with (first | (go_at_call 47; (with_reducible refine (thrumref16_one.calls k A1 c1 l1 A cx x.f0 x.f1 a2 b1 0 _ (ccA (Kd.C_below HR1.out HBR.out) _) HC1.out (ccA (Kd.C_below HXI.out HBR.out) _) HXL.out AB.out).mono ?_); rintro ed W6 ⟨v6, rfl, hR6, hb6⟩; obtain ⟨A6, c6, e6⟩ := Kd.R_slice hR6; subst e6; have HR6 := Aside0.mk hR6; have HB6 := Aside0.mk hb6; clear hR6 hb6) | ((with_reducible refine gate_builtin (b := .append) (xs := #[.tmp 58, .tmp 60]) rfl ?_); at_builtin; refine Kd.S_append (Kd.slice 2 (Kd.int .i64)) (w0 := W6) W1.heap.size rfl (.tmp 58) (.tmp 60) 30 22 (.slice none 0 0) 24 rfl Try.underlying30 (by kernel_rfl) rfl (by decide) (by omega) (.slice As acc.length cs) acc b1 [Value.slice A6 b1.length c6] (fun _ => True) (fun k_ => some k_ = (.slice A6 b1.length c6 : Value).ownBlock) rfl rfl ?aP ?aK (fun _ _ => trivial) ?aO (Below.refl _ _) ?aS ?aL ?_; (case aP => exact Kd.M_row (Kd.R_mono (Kd.R_tight rfl (hapF HR6.out HB6.out)) (fun _ h_ => h_))); (case aK => exact fun k_ hk_ => (hapF HR6.out HB6.out).1 k_ hk_.symm); (case aO => exact Kd.S_mono (Kd.S_elder' (Kd.S_below HS.out (zzA (Below.refl _ _) _)) (Kd.R_base HR6.out) HB6.out) (fun k_ hk => ⟨trivial, fun e_ => hk.2 e_⟩)); (case aS => have := HBW.out.size; have := HB6.out.size; simp at this; omega); (case aL => have := HL64.out; have := HAL.out; have := HLT.out; omega); intro v7 w7 hS7 hB7 hg7 hat7; have HS7 := Aside0.mk hS7; have HB7 := Aside0.mk hB7; clear hS7 hB7 hg7 hat7))
            have hbw := HBW.out.size
            exact ⟨⟨j + 1, acc ++ [b1], by (try rw [wrap64_of (show I64 ((j : Int) + 1) by have := HL64.out; have := HLT.out; unfold I64; omega)]); rfl, ⟨HLT.out⟩, ⟨by rw [List.length_append, HAL.out]; rfl⟩, ⟨HGO.out⟩, HS7, ⟨(below_then (zzA HBW.out _) (by simp; omega) HB6.out).trans HB7.out⟩⟩, by have := HL64.out; have := HLT.out; (try rw [wrap64_of (show I64 ((j : Int) + 1) by unfold I64; omega)]); simp [intOf]; omega⟩
          · rw [rowsFrom_bad (g := fun s : S26 => bendN R0 L0 ((m : Int) - 1) s.f0 s.f1 a2) (by rw [hb12]; exact cb)] at hgo
            rw [hb12] at hgo
            obtain ⟨g1, g2⟩ : [] = q1 ∧ b2 = q2 := by cases hgo; exact ⟨rfl, rfl⟩
            subst g1
            subst g2
            have hend := HEND.out
            rw [if_neg cb] at hend
            obtain ⟨h1, h2⟩ : [] = r1 ∧ b2 = r2 := by cases hend; exact ⟨rfl, rfl⟩
            subst h1
            subst h2
            have he0 : (b2 == 0) = false := beq_eq_false_iff_ne.2 cb
            have he1 : (b2 != 0) = true := bne_iff_ne.2 cb
            clear hi hl hx hmem hxv hgo hab hb12 hj hal cb hend
            go_wp2_with (go_at_call 47; (with_reducible refine (thrumref16_one.calls k A1 c1 l1 A cx x.f0 x.f1 a2 b1 b2 _ (ccA (Kd.C_below HR1.out HBR.out) _) HC1.out (ccA (Kd.C_below HXI.out HBR.out) _) HXL.out AB.out).mono ?_); rintro ed W6 ⟨v6, rfl, hR6, hb6⟩; obtain ⟨A6, c6, e6⟩ := Kd.R_slice hR6; subst e6; have HR6 := Aside0.mk hR6; have HB6 := Aside0.mk hb6; clear hR6 hb6)
            go_ret2
            exact ⟨_, rfl, Kd.R_nil _ _ _ _ _, below_then (zzA HBR.out _) (by have := HBR.out.size; simp; omega) HB6.out⟩
        · have hjl : j = l3.length := by omega
          rw [hjl, List.drop_length, rowsFrom_nil] at hgo
          obtain ⟨g1, g2⟩ : acc = q1 ∧ 0 = q2 := by cases hgo; exact ⟨rfl, rfl⟩
          subst g1
          subst g2
          have hend := HEND.out
          rw [if_pos rfl] at hend
          have hml : I64 (l3.length : Int) := by have := HL64.out; unfold I64; omega
          have AM := Aside0.mk ((thrumref14_Mean.of (l3.length : Int) acc ⟨hml, HFQ.out.1⟩).trans (congrArg some hend))
          subst hjl
          clear hgo hend hml hal hj hlt
          go_wp2_with (go_at_call 48; (with_reducible refine (thrumref14_Mean.calls (l3.length : Int) As cs acc r1 r2 _ (Kd.S_reads' HS.out).2.2 (Kd.S_reads' HS.out).2.1 AM.out).mono ?_); rintro ed W8 ⟨v_, rfl, hR, hb⟩; have HO := Aside0.mk (Kd.R_lower hR HBR.out.size); have HB8 := Aside0.mk (below_then HBR.out HBR.out.size hb); clear hR hb; obtain ⟨Ao, co, eo⟩ := Kd.R_slice HO.out; subst eo)
          go_ret2
          exact ⟨_, rfl, HO.out, HB8.out⟩
    · rw [if_pos cc] at h
      obtain ⟨h1, h2⟩ : [] = r1 ∧ ce = r2 := by cases h; exact ⟨rfl, rfl⟩
      subst h1
      subst h2
      have he0 : (ce == 0) = false := beq_eq_false_iff_ne.2 cc
      have he1 : (ce != 0) = true := bne_iff_ne.2 cc
      clear h cc hcf
      go_enter Try.func28, Try.ntmps28
      go_wp2_with (first | (go_at_call 18; (with_reducible refine HSP.out.mono ?_); rintro e w1 ⟨v0, v1, rfl, hS, ho1, hb⟩; have HB := Aside0.mk hb; obtain ⟨Ao, co, eo⟩ := Kd.S_slice hS; subst eo; obtain ⟨ad2, A2, c2, e2, hx, hl, hi⟩ := at_L1 (Kd.S_reads' hS).2.2 0 (by omega) (by have := HRL.out; omega); cases e2; rw [HL0.out, show ((0 : Int)).toNat = 0 from rfl, Addr.add_zero'] at hx; have p0 : (0 ≤ (0 : Int)) = True := eq_true (by omega); have q0 : (0 < (R0.length : Int)) = True := eq_true (by have := HRL.out; omega); have q1 : (0 < R0.length) = True := eq_true HRL.out; clear hS ho1 hb hl hi) | (go_at_call 26; (with_reducible refine (thrumref16_Check.calls ((m : Int) - 1) k A1 c1 l1 A3 c3 l3 ce _ (Kd.C_below HR1.out HB.out) HC1.out (Kd.C_below HR3.out HB.out) HC3.out AC.out).mono ?_); rintro e W1 ⟨rfl, hb2⟩; have HBC := Aside0.mk (below_then HB.out HB.out.size hb2); clear hb2))
      go_ret2
      exact ⟨_, rfl, Kd.R_nil _ _ _ _ _, HBC.out⟩
  · rw [if_pos c] at h
    have hs := splitM_bad c
    have HSP := Aside0.mk (thrumref16_Split.calls a0 A1 c1 l1 [] [] (splitM a0 l1).2.2 w hr1 hc1 (congrArg some hs))
    obtain ⟨h1, h2⟩ : [] = r1 ∧ (splitM a0 l1).2.2 = r2 := by cases h; exact ⟨rfl, rfl⟩
    subst h1
    subst h2
    clear hs
    generalize (splitM a0 l1).2.2 = e at HSP c ⊢
    have he0 : (e == 0) = false := beq_eq_false_iff_ne.2 c
    have he1 : (e != 0) = true := bne_iff_ne.2 c
    clear h hr1 hc1 hr3 hc3 c hv
    go_enter Try.func28, Try.ntmps28
    go_wp2_with (go_at_call 18; (with_reducible refine HSP.out.mono ?_); rintro e w1 ⟨v0, v1, rfl, hS, ho1, hb⟩; have HB := Aside0.mk hb; clear hb hS ho1)
    go_ret2
    exact ⟨_, rfl, Kd.R_nil _ _ _ _ _, HB.out⟩




















































































































































































































































































































































































































































































































































































































































































































































































































































































































































































































































end Go.Proofs.Ytalamamjodihaaa.HO
