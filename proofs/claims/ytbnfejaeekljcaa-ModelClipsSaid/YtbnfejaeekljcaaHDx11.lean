/- What Go functions do, each as a plain Lean function with the same answers, and the proof of it, in every world: printed by the session's driver over the kit's print, with texts by hand. -/
import Derived.Test.YtbnfejaeekljcaaHDx0
import Derived.Test.YtbnfejaeekljcaaHDx1
import Derived.Test.YtbnfejaeekljcaaHDx2
import Derived.Test.YtbnfejaeekljcaaHDx3
import Derived.Test.YtbnfejaeekljcaaHDx6
import Derived.Test.YtbnfejaeekljcaaHDx9
import Derived.Test.YtbnfejaeekljcaaHDx10
namespace Go.Proofs.Ytbnfejaeekljcaa.HD
open Go.RowKit Go.Proofs.YtbnfejaeekljcaaW.PrintWords Go.Proofs.YtbnfejaeekljcaaW.PrintLast Go.Proofs.YtbnfejaeekljcaaW.PrintMore
attribute [local go_sem] max2_int min2_int max_two min_two max_three min_three max_four min_four   -- for this text's walks alone
open Go.Proofs.Ytbnfejaeekljcaa.Sp
attribute [local go_sem] Go.Proofs.Ytbnfejaeekljcaa.Sp.u64_not
set_option linter.unusedVariables false
set_option linter.unusedSimpArgs false

/-! ### mlp_Grad: function 20 -/
def mlp_Grad.f (a0 : Int) (l1 : List Int) (a2 : Int) (l3 : List S37) : Option (List Int × Int) := if V64 l1 ∧ (∀ s ∈ l3, V64 s.f0 ∧ I64 s.f1) then some (gradM a0 l1 a2 (l3.map sm)) else none
theorem mlp_Grad.of (a0 : Int) (l1 : List Int) (a2 : Int) (l3 : List S37)  (h_ : V64 l1 ∧ (∀ s ∈ l3, V64 s.f0 ∧ I64 s.f1)) : mlp_Grad.f a0 l1 a2 l3 = some (gradM a0 l1 a2 (l3.map sm)) := if_pos h_
theorem rowsM_sm (G : List Int → Int → List Int × Int) : ∀ l : List S37, rowsL (fun s : List Int × Int => G s.1 s.2) (l.map sm) = rowsL (fun s : S37 => G s.f0 s.f1) l
  | [] => rfl
  | x :: l => by simp only [List.map_cons, rowsL, rowsM_sm G l, sm]
set_option maxHeartbeats 8000000 in
set_option maxRecDepth 100000 in
theorem mlp_Grad.calls (a0 : Int) (A1 : Option Addr) (c1 : Nat) (l1 : List Int) (a2 : Int) (A3 : Option Addr) (c3 : Nat) (l3 : List (S37)) (r1 : List Int) (r2 : Int) (w : World) (hr1 : Kd.C (Kd.int .i64) w A1 l1.length l1) (hc1 : l1.length ≤ c1) (hr3 : Kd.C k37 w A3 l3.length l3) (hc3 : l3.length ≤ c3) (h : mlp_Grad.f a0 l1 a2 l3 = some (r1, r2)) :
    Calls Try.prog 20 #[.int .i64 a0, .slice A1 l1.length c1, .int .i64 a2, .slice A3 l3.length c3] w fun e w' => ∃ v0_ : Value, e = .returned (.tuple #[v0_, .int .i64 r2]) ∧ Kd.R (Kd.int .i64) 2 w' w.heap.size (fun _ => True) v0_ r1 ∧ Below w.heap.size w w' := by
  unfold mlp_Grad.f at h
  split at h
  case isFalse => cases h
  rename_i hv
  have h := Option.some.inj h
  have hu54 := Try.underlying76
  have hu52 := Try.underlying74
  have hu26 := Try.underlying37
  have hu22 := Try.underlying26
  unfold gradM at h
  have HR3 := Aside0.mk hr3
  have HC3 := Aside0.mk hc3
  by_cases c : (splitM a0 l1).2.2 = 0
  · rw [if_neg (not_not_intro c)] at h
    obtain ⟨k, m, rfl, hk1, hk8, hm2, hm17, hkm, hlm, hs⟩ := splitM_good c
    obtain ⟨ad, rfl, _⟩ := hr1.2.2 (by omega)
    rw [hlm, hs] at h
    dsimp only at h
    rw [rowsM_sm (fun x y => bendN (rowsM k m l1) (l1.drop (k * m)) ((m : Int) - 1) x y a2), List.length_map] at h
    have hac : mlp_Check.f ((m : Int) - 1) k l1 l3 = some (checkM ((m : Int) - 1) k l1 (l3.map sm)) := rfl
    have hcf := @checkM_few ((m : Int) - 1) k l1 (l3.map sm)
    rw [List.length_map] at hcf
    generalize checkM ((m : Int) - 1) k l1 (l3.map sm) = ce at h hac hcf
    have AC := Aside0.mk hac
    have HSP := Aside0.mk (mlp_split.good k m ad c1 l1 w hk1 hk8 hm2 hm17 hkm hr1 hc1)
    have HCD := Aside0.mk (drop_C (p := k * m) (by omega) hc1 hr1)
    have HCU := Aside0.mk (fun (W : World) (v : Value) (base : Nat) (hS : W.ownsRow base 26 1 v k (cutsM ad m k)) (hb : Below w.heap.size w W) => cuts_C (l := l1) (c := c1) (W := W) (v := v) (base := base) hS (by omega) (by omega) hc1 (Kd.C_below hr1 hb))
    have hld : (l1.drop (k * m)).length = k + 1 := by rw [List.length_drop]; omega
    have HBD := Aside0.mk (fun (Ar A : Option Addr) (cr cx : Nat) (x : List Int) (y : Int) (b1 : List Int) (b2 : Int) (W : World) h1 h3 h4 h5 h6 hab => mlp_net_bend.calls (some (ad.add (k * m))) (c1 - k * m) (l1.drop (k * m)) Ar cr (rowsM k m l1) ((m : Int) - 1) A cx x y a2 b1 b2 W h1 (by rw [hld]; omega) h3 h4 h5 h6 hab)
    have hrl : ((List.range k).map (Go.Proofs.Ytbnfejaeekljcaa.Sp.rowAt m l1)).length = k := by simp
    have hrm : rowsM k m l1 = (List.range k).map (Go.Proofs.Ytbnfejaeekljcaa.Sp.rowAt m l1) := rfl
    have HAB := Aside0.mk (fun (x : List Int) (y : Int) (hx : V64 x) (hy : I64 y) => mlp_net_bend.of (l1.drop (k * m)) (rowsM k m l1) ((m : Int) - 1) x y a2 ⟨v64_drop hv.1 _, hx, rowsM_v64 hv.1, by rw [rowsM_len, hld]; omega, by rw [rowsM_len]; exact hk8, hy⟩)
    have HFW := Aside0.mk (rowsM_few (g := fun s : S37 => bendN (rowsM k m l1) (l1.drop (k * m)) ((m : Int) - 1) s.f0 s.f1 a2) (fun s => bendN_few _ _ _ _ _ _ (by rw [rowsM_len]; exact hk8) (by omega)) l3)
    have HR1 := Aside0.mk hr1
    have HC1 := Aside0.mk hc1
    have HV3 := Aside0.mk hv.2
    rw [hrm] at HBD HAB HFW h
    rw [hld, hrl] at HBD
    rw [hld] at HCD
    simp only [hrl] at HCU
    generalize (List.range k).map (Go.Proofs.Ytbnfejaeekljcaa.Sp.rowAt m l1) = R0 at HBD HAB HFW HCU h
    generalize l1.drop (k * m) = L0 at HBD HAB HFW HCD h
    generalize hp : k * m = p at HBD HCD HSP
    clear hs hlm hld hrl hrm hkm hr1 hc1 hr3 hc3 c hv hac
    have SPL : True := trivial
    by_cases cc : ce = 0
    · rw [if_neg (not_not_intro cc)] at h
      have hl64 := hcf cc
      subst cc
      clear hcf
      go_enter Try.func20, Try.ntmps20
      go_wp2_with (first | (go_at_call 38; (with_reducible refine HSP.out.mono ?_); rintro e w1 ⟨v0, rfl, hS, hb⟩; have hcu := HCU.out w1 v0 w.heap.size hS hb; obtain ⟨Ar, cr, rfl, hcr, hCr⟩ := hcu; have HCR := Aside0.mk hCr; have HKR := Aside0.mk hcr; have HB := Aside0.mk hb; clear hS hb hCr hcr) | (go_at_call 39; (with_reducible refine (mlp_Check.calls ((m : Int) - 1) k (some ad) c1 l1 A3 c3 l3 0 _ (ccA (Kd.C_below HR1.out HB.out) _) HC1.out (ccA (Kd.C_below HR3.out HB.out) _) HC3.out AC.out).mono ?_); rintro e W1 ⟨rfl, hb2⟩; have HB1 := Aside0.mk hb2; have HBC := Aside0.mk (below_then (zzA HB.out _) (Nat.le_trans HB.out.size (by simp)) hb2); have BX1 := Aside0.mk (blk_below (blk_new w1 (Obj.cells #[.slice (some (ad.add p)) (k + 1) (c1 - p), .slice Ar k cr, .int .i64 ((m : Int) - 1)] 76)) hb2); clear hb2))
      have HL64 := Aside0.mk hl64
      obtain ⟨⟨q1, q2⟩, hq⟩ : ∃ q, rowsL (fun s : S37 => bendN R0 L0 ((m : Int) - 1) s.f0 s.f1 a2) l3 = q := ⟨_, rfl⟩
      have hfw := HFW.out
      rw [hq] at h hfw
      dsimp only at h hfw
      have HQ := Aside0.mk ((rowsFrom_start (fun s : S37 => bendN R0 L0 ((m : Int) - 1) s.f0 s.f1 a2) l3).trans (by rw [hq]))
      have HFQ := Aside0.mk hfw
      have HEND := Aside0.mk h
      have HCW1 := Aside0.mk (Kd.C_below (ccA HCR.out (Obj.cells #[.slice (some (ad.add p)) (k + 1) (c1 - p), .slice Ar k cr, .int .i64 ((m : Int) - 1)] 76)) HB1.out)
      clear h hfw hq hl64
      go_loopw [12, 36] (fun v i W => ∃ (j : Nat) (acc : List (List Int)), i = .int .i64 j ∧ Aside0 (j ≤ l3.length) ∧ Aside0 (acc.length = j) ∧ Aside0 (rowsFrom (fun s : S37 => bendN R0 L0 ((m : Int) - 1) s.f0 s.f1 a2) (l3.drop j) acc = (q1, q2)) ∧ Aside0 (Kd.S (Kd.slice 2 (Kd.int .i64)) 26 W W1.heap.size (fun _ => True) v acc) ∧ Aside0 (Below W1.heap.size W1 W)) (fun _ i _ => l3.length - (intOf i).toNat)
      case atStart => exact ⟨0, [], rfl, ⟨Nat.zero_le _⟩, ⟨rfl⟩, ⟨by rw [List.drop_zero]; exact HQ.out⟩, ⟨Kd.S_nil _ _ _ _ _⟩, ⟨Below.refl _ _⟩⟩
      case round =>
        obtain ⟨j, acc, rfl, ⟨hj⟩, ⟨hal⟩, ⟨hgo⟩, HS, HBW⟩ := hrel
        obtain ⟨As, cs, es⟩ := Kd.S_slice HS.out
        subst es
        have HBR := Aside0.mk (below_then HBC.out HBC.out.size HBW.out)
        have HAL := Aside0.mk hal
        by_cases hlt : j < l3.length
        · obtain ⟨ad3, A, cx, rfl, hx0, hx1, hl, hi⟩ := at_T37 HR3.out (j : Int) (by omega) (by omega)
          obtain ⟨x, hx⟩ : ∃ x, rd_T37 l3 (j : Int) = x := ⟨_, rfl⟩
          have hmem : l3[j] = x := (rd_sm hlt).symm.trans hx
          rw [hx] at hx0 hx1 hl hi
          simp only [Int.toNat_natCast] at hx0 hx1
          replace hx0 := (HBR.out.cell (World.block_lt_of_cell? _ _ hx0)).trans hx0
          replace hx1 := (HBR.out.cell (World.block_lt_of_cell? _ _ hx1)).trans hx1
          have hxv := HV3.out x (hmem ▸ List.getElem_mem hlt)
          rw [List.drop_eq_getElem_cons hlt, hmem] at hgo
          obtain ⟨⟨b1, b2⟩, hb12⟩ : ∃ q, bendN R0 L0 ((m : Int) - 1) x.f0 x.f1 a2 = q := ⟨_, rfl⟩
          have hab := (HAB.out x.f0 x.f1 hxv.1 hxv.2).trans (congrArg some hb12)
          have AB := Aside0.mk hab
          have HXI := Aside0.mk hi
          have HXL := Aside0.mk hl
          have HLT := Aside0.mk hlt
          have HCW := Aside0.mk (Kd.C_below HCW1.out HBW.out)
          have hyb := kkA (blk_below BX1.out HBW.out) (Obj.cells #[.slice A x.f0.length cx, .int .i64 x.f1] 37)
          have hy0 := (blk_cell hyb 0).trans rfl
          have hy1 := (blk_cell hyb 1).trans rfl
          have hy2 := (blk_cell hyb 2).trans rfl
          by_cases cb : b2 = 0
          · subst cb
            rw [rowsFrom_ok (g := fun s : S37 => bendN R0 L0 ((m : Int) - 1) s.f0 s.f1 a2) (by rw [hb12])] at hgo
            rw [hb12] at hgo
            have HGO := Aside0.mk hgo
            clear hi hl hx hmem hxv hgo hab hb12 hj hal hyb
            have hapF := fun {W6 : World} {A6 : Option Addr} {c6 : Nat} (hR6 : Kd.R (Kd.int .i64) 2 W6 (wr.alloc (Obj.cells #[.slice A x.f0.length cx, .int .i64 x.f1] 37)).heap.size (fun _ => True) (.slice A6 b1.length c6) b1) (hb6 : Below (wr.alloc (Obj.cells #[.slice A x.f0.length cx, .int .i64 x.f1] 37)).heap.size (wr.alloc (Obj.cells #[.slice A x.f0.length cx, .int .i64 x.f1] 37)) W6) => Kd.R_mono (ok' := fun k_ => True ∧ some k_ ≠ (Value.slice As acc.length cs).ownBlock) (Kd.R_apart' (Kd.R_lower hR6 (show W1.heap.size ≤ _ from by have := HBW.out.size; simp; omega)) (Kd.S_typed (Kd.S_below (Kd.S_below HS.out (zzA (Below.refl _ _) _)) hb6)) (by decide)) (fun k_ hk => ⟨trivial, hk.2⟩)
            go_wp2_with (first | (go_at_call 40; (with_reducible refine (HBD.out Ar A cr cx x.f0 x.f1 b1 0 _ (ccA (Kd.C_below HCD.out HBR.out) _) (ccA HCW.out _) HKR.out (ccA (Kd.C_below HXI.out HBR.out) _) HXL.out AB.out).mono ?_); rintro ed W6 ⟨v6, rfl, hR6, hb6⟩; obtain ⟨A6, c6, e6⟩ := Kd.R_slice hR6; subst e6; have HR6 := Aside0.mk hR6; have HB6 := Aside0.mk hb6; clear hR6 hb6) | ((with_reducible refine gate_builtin (b := .append) (xs := #[.tmp 50, .tmp 52]) rfl ?_); at_builtin; refine Kd.S_append (Kd.slice 2 (Kd.int .i64)) (w0 := W6) W1.heap.size rfl (.tmp 50) (.tmp 52) 63 26 (.slice none 0 0) 24 rfl Try.underlying63 (by kernel_rfl) rfl (by decide) (by omega) (.slice As acc.length cs) acc b1 [Value.slice A6 b1.length c6] (fun _ => True) (fun k_ => some k_ = (.slice A6 b1.length c6 : Value).ownBlock) rfl rfl ?aP ?aK (fun _ _ => trivial) ?aO (Below.refl _ _) ?aS ?aL ?_; (case aP => exact Kd.M_row (Kd.R_mono (Kd.R_tight rfl (hapF HR6.out HB6.out)) (fun _ h_ => h_))); (case aK => exact fun k_ hk_ => (hapF HR6.out HB6.out).1 k_ hk_.symm); (case aO => exact Kd.S_mono (Kd.S_elder' (Kd.S_below HS.out (zzA (Below.refl _ _) _)) (Kd.R_base HR6.out) HB6.out) (fun k_ hk => ⟨trivial, fun e_ => hk.2 e_⟩)); (case aS => have := HBW.out.size; have := HB6.out.size; simp at this; omega); (case aL => have := HL64.out; have := HAL.out; have := HLT.out; omega); intro v7 w7 hS7 hB7 hg7 hat7; have HS7 := Aside0.mk hS7; have HB7 := Aside0.mk hB7; clear hS7 hB7 hg7 hat7))
            have hbw := HBW.out.size
            exact ⟨⟨j + 1, acc ++ [b1], by (try rw [wrap64_of (show I64 ((j : Int) + 1) by have := HL64.out; have := HLT.out; unfold I64; omega)]); rfl, ⟨HLT.out⟩, ⟨by rw [List.length_append, HAL.out]; rfl⟩, ⟨HGO.out⟩, HS7, ⟨(below_then (zzA HBW.out _) (by simp; omega) HB6.out).trans HB7.out⟩⟩, by have := HL64.out; have := HLT.out; (try rw [wrap64_of (show I64 ((j : Int) + 1) by unfold I64; omega)]); simp [intOf]; omega⟩
          · rw [rowsFrom_bad (g := fun s : S37 => bendN R0 L0 ((m : Int) - 1) s.f0 s.f1 a2) (by rw [hb12]; exact cb)] at hgo
            rw [hb12] at hgo
            obtain ⟨g1, g2⟩ : [] = q1 ∧ b2 = q2 := by cases hgo; exact ⟨rfl, rfl⟩
            subst g1
            subst g2
            have hend := HEND.out
            rw [if_neg cb] at hend
            obtain ⟨h1, h2⟩ : [] = r1 ∧ b2 = r2 := by cases hend; exact ⟨rfl, rfl⟩
            subst h1
            subst h2
            have he0 : (b2 == 0) = false := beq_eq_false_iff_ne.2 cb
            have he1 : (b2 != 0) = true := bne_iff_ne.2 cb
            clear hi hl hx hmem hxv hgo hab hb12 hj hal hyb cb hend
            go_wp2_with (go_at_call 40; (with_reducible refine (HBD.out Ar A cr cx x.f0 x.f1 b1 b2 _ (ccA (Kd.C_below HCD.out HBR.out) _) (ccA HCW.out _) HKR.out (ccA (Kd.C_below HXI.out HBR.out) _) HXL.out AB.out).mono ?_); rintro ed W6 ⟨v6, rfl, hR6, hb6⟩; obtain ⟨A6, c6, e6⟩ := Kd.R_slice hR6; subst e6; have HR6 := Aside0.mk hR6; have HB6 := Aside0.mk hb6; clear hR6 hb6)
            go_ret2
            exact ⟨_, rfl, Kd.R_nil _ _ _ _ _, below_then (zzA HBR.out _) (by have := HBR.out.size; simp; omega) HB6.out⟩
        · have hjl : j = l3.length := by omega
          rw [hjl, List.drop_length, rowsFrom_nil] at hgo
          obtain ⟨g1, g2⟩ : acc = q1 ∧ 0 = q2 := by cases hgo; exact ⟨rfl, rfl⟩
          subst g1
          subst g2
          have hend := HEND.out
          rw [if_pos rfl] at hend
          have hml : I64 (l3.length : Int) := by have := HL64.out; unfold I64; omega
          have AM := Aside0.mk ((linear_Mean.of (l3.length : Int) acc ⟨hml, HFQ.out.1, HFQ.out.2⟩).trans (congrArg some hend))
          subst hjl
          clear hgo hend hml hal hj hlt
          go_wp2_with (go_at_call 32; (with_reducible refine (linear_Mean.calls (l3.length : Int) As cs acc r1 r2 _ (Kd.S_reads' HS.out).2.2 (Kd.S_reads' HS.out).2.1 AM.out).mono ?_); rintro ed W8 ⟨v_, rfl, hR, hb⟩; have HO := Aside0.mk (Kd.R_lower hR HBR.out.size); have HB8 := Aside0.mk (below_then HBR.out HBR.out.size hb); clear hR hb; obtain ⟨Ao, co, eo⟩ := Kd.R_slice HO.out; subst eo)
          go_ret2
          exact ⟨_, rfl, HO.out, HB8.out⟩
    · rw [if_pos cc] at h
      obtain ⟨h1, h2⟩ : [] = r1 ∧ ce = r2 := by cases h; exact ⟨rfl, rfl⟩
      subst h1
      subst h2
      have he0 : (ce == 0) = false := beq_eq_false_iff_ne.2 cc
      have he1 : (ce != 0) = true := bne_iff_ne.2 cc
      clear h cc hcf
      go_enter Try.func20, Try.ntmps20
      go_wp2_with (first | (go_at_call 38; (with_reducible refine HSP.out.mono ?_); rintro e w1 ⟨v0, rfl, hS, hb⟩; have hcu := HCU.out w1 v0 w.heap.size hS hb; obtain ⟨Ar, cr, rfl, hcr, hCr⟩ := hcu; have HCR := Aside0.mk hCr; have HKR := Aside0.mk hcr; have HB := Aside0.mk hb; clear hS hb hCr hcr) | (go_at_call 39; (with_reducible refine (mlp_Check.calls ((m : Int) - 1) k (some ad) c1 l1 A3 c3 l3 ce _ (ccA (Kd.C_below HR1.out HB.out) _) HC1.out (ccA (Kd.C_below HR3.out HB.out) _) HC3.out AC.out).mono ?_); rintro e W1 ⟨rfl, hb2⟩; have HB1 := Aside0.mk hb2; have HBC := Aside0.mk (below_then (zzA HB.out _) (Nat.le_trans HB.out.size (by simp)) hb2); have BX1 := Aside0.mk (blk_below (blk_new w1 (Obj.cells #[.slice (some (ad.add p)) (k + 1) (c1 - p), .slice Ar k cr, .int .i64 ((m : Int) - 1)] 76)) hb2); clear hb2))
      go_ret2
      exact ⟨_, rfl, Kd.R_nil _ _ _ _ _, HBC.out⟩
  · rw [if_pos c] at h
    have HSP := Aside0.mk (mlp_split.bad a0 A1 c1 l1 w hr1 hc1 c)
    obtain ⟨h1, h2⟩ : [] = r1 ∧ (splitM a0 l1).2.2 = r2 := by cases h; exact ⟨rfl, rfl⟩
    subst h1
    subst h2
    generalize (splitM a0 l1).2.2 = e at HSP c ⊢
    have he0 : (e == 0) = false := beq_eq_false_iff_ne.2 c
    have he1 : (e != 0) = true := bne_iff_ne.2 c
    clear h hr1 hc1 hr3 hc3 c hv
    go_enter Try.func20, Try.ntmps20
    go_wp2_with (go_at_call 38; (with_reducible refine HSP.out.mono ?_); rintro e w1 ⟨rfl, hb⟩; have HB := Aside0.mk hb; clear hb)
    go_ret2
    exact ⟨_, rfl, Kd.R_nil _ _ _ _ _, zzA HB.out _⟩


/-! ### model_layers_grad: function 127 -/
def model_layers_grad.f (a0_0 : Int) (a0_1 : Int) (a0_2 : Int) (a0_3 : Int) (a0_4 : Int) (l1 : List Int) (l2 : List (S37)) : Option (List Int × Int) := (mlp_Grad.f a0_3 l1 a0_4 l2).bind fun bt302 => (some (bt302.1, bt302.2))
set_option maxHeartbeats 8000000 in
set_option maxRecDepth 100000 in
theorem model_layers_grad.calls (a0_0 : Int) (a0_1 : Int) (a0_2 : Int) (a0_3 : Int) (a0_4 : Int) (A1 : Option Addr) (c1 : Nat) (l1 : List Int) (A2 : Option Addr) (c2 : Nat) (l2 : List (S37)) (r1 : List Int) (r2 : Int) (w : World) (hr1 : Kd.C (Kd.int .i64) w A1 l1.length l1) (hc1 : l1.length ≤ c1) (hr2 : Kd.C k37 w A2 l2.length l2) (hc2 : l2.length ≤ c2) (h : model_layers_grad.f a0_0 a0_1 a0_2 a0_3 a0_4 l1 l2 = some (r1, r2)) :
  Calls Try.prog 127 #[.agg #[.int .i64 a0_0, .int .i64 a0_1, .int .i64 a0_2, .int .i64 a0_3, .int .i64 a0_4], .slice A1 l1.length c1, .slice A2 l2.length c2] w fun e w' => ∃ v0_ : Value, e = .returned (.tuple #[v0_, .int .i64 r2]) ∧ Kd.R (Kd.int .i64) 2 w' w.heap.size (fun _ => True) v0_ r1 ∧ Below w.heap.size w w' := by
 have hu88 := Try.underlying88
 have HR1 := Aside0.mk hr1
 have HC1 := Aside0.mk hc1
 clear hr1 hc1
 have HR2 := Aside0.mk hr2
 have HC2 := Aside0.mk hc2
 clear hr2 hc2
 have HB := Aside0.mk (Below.refl w.heap.size w)
 have H : ((mlp_Grad.f a0_3 l1 a0_4 l2).bind fun bt302 => (some (bt302.1, bt302.2))) = some (r1, r2) := h
 clear h
 replace H := Option.bind_eq_some_iff.mp H
 obtain ⟨⟨t302, t303⟩, A40, H⟩ := H
 replace H : (some (t302, t303)) = some (r1, r2) := H
 have A4 := Aside0.mk A40
 clear A40
 simp only [Option.some.injEq, Prod.mk.injEq] at H
 obtain ⟨rfl, rfl⟩ := H
 go_enter Try.func127, Try.ntmps127
 go_wp2_with (first | ((with_reducible refine gate_dst (N := 3) rfl ?_); refine box_event ?hg (N := 3) ?hd (cs := #[.int .i64 a0_0, .int .i64 a0_1, .int .i64 a0_2, .int .i64 a0_3, .int .i64 a0_4]) (t := 88) ?hr ?_; (case hd => rfl); (case hg => rfl); (case hr => first | (go_simp; done) | (go_simp; rfl)); intro gb301 hg w5 hbox hb; have n0_ := Aside0.mk (zzT (by repeat (first | (with_reducible first | exact HB.out | apply zzA | apply zzN | apply zzD) | exact HB.out)) hb); have n1_ := Aside0.mk (hbox); have n2_ := Aside0.mk ((by rw [hg]; exact (zzS (by repeat (first | (with_reducible first | exact HB.out | apply zzA | apply zzN | apply zzD) | exact HB.out))) : w.heap.size ≤ gb301)); have n3_ := Aside0.mk ((by rw [hg]; exact (zzS (by repeat (first | (with_reducible first | exact HB.out | apply zzA | apply zzN | apply zzD) | exact HB.out))) : w.heap.size ≤ gb301)); clear HB; have HB := n0_; have BK301 := n1_; have GW301 := n2_; have GE301 := n3_; clear n0_ n1_ n2_ n3_; clear hb hbox hg; have hcz6_0 : w5.cell? ⟨gb301, 0, none⟩ = some (.int .i64 a0_0) := (blk_cell BK301.out 0).trans rfl; have hcz6_1 : w5.cell? ⟨gb301, 1, none⟩ = some (.int .i64 a0_1) := (blk_cell BK301.out 1).trans rfl; have hcz6_2 : w5.cell? ⟨gb301, 2, none⟩ = some (.int .i64 a0_2) := (blk_cell BK301.out 2).trans rfl; have hcz6_3 : w5.cell? ⟨gb301, 3, none⟩ = some (.int .i64 a0_3) := (blk_cell BK301.out 3).trans rfl; have hcz6_4 : w5.cell? ⟨gb301, 4, none⟩ = some (.int .i64 a0_4) := (blk_cell BK301.out 4).trans rfl; have hfz6_0 := blk_frozen BK301.out 0; have hfz6_1 := blk_frozen BK301.out 1; have hfz6_2 := blk_frozen BK301.out 2; have hfz6_3 := blk_frozen BK301.out 3; have hfz6_4 := blk_frozen BK301.out 4) | ((with_reducible refine gate_callee (f := 20) rfl ?_); refine goesL_ (some 16) rfl rfl Try.func20 (by kernel_rfl) rfl #[.int .i64 a0_3, .slice A1 l1.length c1, .int .i64 a0_4, .slice A2 l2.length c2] rfl (by (try simp only [List.map_toArray, List.map_cons, List.map_nil]); first | done | rfl | (simp only [List.length_drop, List.length_take]; rfl)) ?_; (with_reducible refine (mlp_Grad.calls a0_3 _ _ l1 a0_4 _ _ l2 t302 t303 _ ?side1 ?side2 ?side3 ?side4 A4.out).mono ?_); (case side1 => repeat (first | exact (Kd.C_below HR1.out HB.out) | (with_reducible refine ccA ?_ _) | (with_reducible refine ccN ?_ _) | (with_reducible refine ccD ?_))); (case side2 => exact HC1.out); (case side3 => repeat (first | exact (Kd.C_below HR2.out HB.out) | (with_reducible refine ccA ?_ _) | (with_reducible refine ccN ?_ _) | (with_reducible refine ccD ?_))); (case side4 => exact HC2.out); rintro e w7 ⟨v304, rfl, ho0, hb⟩; refine ⟨_, rfl, ?_⟩; have n0_ := Aside0.mk (Kd.R_lower ho0 (zzS (by repeat (first | (with_reducible first | exact HB.out | apply zzA | apply zzN | apply zzD | refine below_set ?_ GE301.out) | exact HB.out)))); have n1_ := Aside0.mk (blk_below (g := gb301) (o := .cells #[.int .i64 a0_0, .int .i64 a0_1, .int .i64 a0_2, .int .i64 a0_3, .int .i64 a0_4] 88 (0, 0)) (by (with_reducible repeat (first | refine kkN ?_ _ | refine kkD ?_ | refine kkA ?_ _)); exact BK301.out) hb); have n2_ := Aside0.mk (zzT (by repeat (first | (with_reducible first | exact HB.out | apply zzA | apply zzN | apply zzD | refine below_set ?_ GE301.out) | exact HB.out)) hb); clear BK301; clear HB; have HO305 := n0_; have BK301 := n1_; have HB := n2_; clear n0_ n1_ n2_; (try clear hb); (try clear hb2); (try clear hk); (try clear hi); (try clear ho0)))
 go_ret2
 exact ⟨_, by first | rfl | (simp [errW_none, errW_some] <;> rfl) | (simp [*, errW_none, errW_some] <;> rfl), by (with_reducible repeat (first | apply rrA | apply rrN | apply rrD)); exact HO305.out, by repeat (first | (with_reducible first | exact HB.out | apply zzA | apply zzN | apply zzD | refine below_set ?_ GE301.out) | exact HB.out)⟩

/-! ### model_Grad: function 13 -/
-- behind linear_Grad.f, soft_Grad.f, mlp_Grad.f, model_Fits.f
def model_Grad.f (a0_0 a0_1 a0_2 a0_3 a0_4 : Int) (l1 : List Int) (l2 : List S37) : Option (List Int × Int) := if V64 l1 ∧ (∀ s ∈ l2, Sm64 s) ∧ l2.length ≤ 1000000 then some (gradK a0_0 a0_1 a0_2 a0_3 a0_4 l1 (l2.map sm)) else none
theorem model_Grad.of (a0_0 a0_1 a0_2 a0_3 a0_4 : Int) (l1 : List Int) (l2 : List S37)  (h_ : V64 l1 ∧ (∀ s ∈ l2, Sm64 s) ∧ l2.length ≤ 1000000) : model_Grad.f a0_0 a0_1 a0_2 a0_3 a0_4 l1 l2 = some (gradK a0_0 a0_1 a0_2 a0_3 a0_4 l1 (l2.map sm)) := if_pos h_
theorem model_straight_grad.is {w : List Int} {l : List S37} (k i o h f : Int) (hv : V64 w ∧ (∀ s ∈ l, Sm64 s) ∧ l.length ≤ 1000000) : model_straight_grad.f k i o h f w l = some (gradL w f (l.map sm)) := by unfold model_straight_grad.f; rw [show linear_Grad.f w f l = some (gradL w f (l.map sm)) from if_pos ⟨hv.1, hv.2.1⟩]; rfl
theorem model_classes_grad.is {w : List Int} {l : List S37} (k i o h f : Int) (hv : V64 w ∧ (∀ s ∈ l, Sm64 s) ∧ l.length ≤ 1000000) : model_classes_grad.f k i o h f w l = some (gradS o w f (l.map sm)) := by unfold model_classes_grad.f; rw [show soft_Grad.f o w f l = some (gradS o w f (l.map sm)) from if_pos hv]; rfl
theorem model_layers_grad.is {w : List Int} {l : List S37} (k i o h f : Int) (hv : V64 w ∧ (∀ s ∈ l, Sm64 s) ∧ l.length ≤ 1000000) : model_layers_grad.f k i o h f w l = some (gradM h w f (l.map sm)) := by unfold model_layers_grad.f; rw [show mlp_Grad.f h w f l = some (gradM h w f (l.map sm)) from if_pos ⟨hv.1, hv.2.1⟩]; rfl
set_option maxHeartbeats 8000000 in
set_option maxRecDepth 100000 in
theorem model_Grad.calls (a0_0 : Int) (a0_1 : Int) (a0_2 : Int) (a0_3 : Int) (a0_4 : Int) (A1 : Option Addr) (c1 : Nat) (l1 : List Int) (A2 : Option Addr) (c2 : Nat) (l2 : List (S37)) (r1 : List Int) (r2 : Int) (w : World) (hr1 : Kd.C (Kd.int .i64) w A1 l1.length l1) (hc1 : l1.length ≤ c1) (hr2 : Kd.C k37 w A2 l2.length l2) (hc2 : l2.length ≤ c2) (h : model_Grad.f a0_0 a0_1 a0_2 a0_3 a0_4 l1 l2 = some (r1, r2)) :
    Calls Try.prog 13 #[.agg #[.int .i64 a0_0, .int .i64 a0_1, .int .i64 a0_2, .int .i64 a0_3, .int .i64 a0_4], .slice A1 l1.length c1, .slice A2 l2.length c2] w fun e w' => ∃ v0_ : Value, e = .returned (.tuple #[v0_, .int .i64 r2]) ∧ Kd.R (Kd.int .i64) 2 w' w.heap.size (fun _ => True) v0_ r1 ∧ Below w.heap.size w w' := by
  unfold model_Grad.f at h
  split at h
  case isFalse => cases h
  rename_i hv
  have h := Option.some.inj h
  have hu := Try.underlying23
  have HR1 := Aside0.mk hr1
  have HR2 := Aside0.mk hr2
  have HC1 := Aside0.mk hc1
  have HC2 := Aside0.mk hc2
  have HO := fun (K : KN) (d e : Int) (hof : ofK a0_0 a0_1 a0_2 a0_3 a0_4 = (K, d, e)) => Aside0.mk (fun W : World => model_of.calls a0_0 a0_1 a0_2 a0_3 a0_4 K d e W (congrArg some hof))
  have HB0 : Aside0 (Below w.heap.size w (w.alloc (.cells #[.int .i64 a0_0, .int .i64 a0_1, .int .i64 a0_2, .int .i64 a0_3, .int .i64 a0_4] 23))) := ⟨zzA (Below.refl _ _) _⟩
  clear hr1 hr2 hc1 hc2
  unfold gradK at h
  by_cases c : (ofK a0_0 a0_1 a0_2 a0_3 a0_4).2.2 = 0
  · obtain ⟨-, g⟩ := ofK_good c
    rcases g with ⟨rfl, g, g2⟩ | ⟨rfl, g, g2⟩ | ⟨rfl, g, g2⟩
    · have hfk : fitsK 0 a0_1 a0_2 a0_3 a0_4 l1 (l2.map sm) = checkL a0_1 l1 (l2.map sm) := by unfold fitsK; rw [if_neg (not_not_intro c), if_pos rfl]
      rw [hfk] at h
      clear hfk c
      generalize dimL a0_1 = dm at g g2
      obtain ⟨d, e⟩ := dm
      obtain rfl : e = 0 := g2
      have HO := HO _ _ _ g
      simp only [knW] at HO
      have hmfits : ∀ (n : Nat) (k i o h f : Int) (W : World), (method (n + 1) 86 (.agg #[.int .i64 k, .int .i64 i, .int .i64 o, .int .i64 h, .int .i64 f]) "thrum/model.fits").run Try.prog W = .ok (117, .agg #[.int .i64 k, .int .i64 i, .int .i64 o, .int .i64 h, .int .i64 f]) W := fun _ _ _ _ _ _ _ => by kernel_rfl
      have hmgrad : ∀ (n : Nat) (k i o h f : Int) (W : World), (method (n + 1) 86 (.agg #[.int .i64 k, .int .i64 i, .int .i64 o, .int .i64 h, .int .i64 f]) "thrum/model.grad").run Try.prog W = .ok (118, .agg #[.int .i64 k, .int .i64 i, .int .i64 o, .int .i64 h, .int .i64 f]) W := fun _ _ _ _ _ _ _ => by kernel_rfl
      have HF := Aside0.mk (fun (W : World) h1 h2 => model_straight_fits.calls 0 a0_1 a0_2 a0_3 a0_4 A1 c1 l1 A2 c2 l2 (checkL a0_1 l1 (l2.map sm)) W h1 HC1.out h2 HC2.out rfl)
      by_cases cf : checkL a0_1 l1 (l2.map sm) = 0
      · rw [if_neg (not_not_intro cf)] at h
        rw [if_pos rfl] at h
        rw [cf] at HF
        have HG := Aside0.mk (fun (W : World) h1 h2 => model_straight_grad.calls 0 a0_1 a0_2 a0_3 a0_4 A1 c1 l1 A2 c2 l2 r1 r2 W h1 HC1.out h2 HC2.out ((model_straight_grad.is 0 a0_1 a0_2 a0_3 a0_4 hv).trans (congrArg some h)))
        clear g h cf hv
        go_enter Try.func13, Try.ntmps13
        go_wp2_with (first | (go_at_call 23; refine (HO.out _).mono ?_; rintro e_ W1 ⟨rfl, hb⟩; have HB1 := Aside0.mk (below_then HB0.out HB0.out.size hb); clear hb) | (go_at_call 117; refine (HF.out _ (Kd.C_below HR1.out HB1.out) (Kd.C_below HR2.out HB1.out)).mono ?_; rintro e_ W2 ⟨rfl, hb⟩; have HB2 := Aside0.mk (below_then HB1.out HB1.out.size hb); clear hb) | (go_at_call 118; refine (HG.out _ (Kd.C_below HR1.out HB2.out) (Kd.C_below HR2.out HB2.out)).mono ?_; rintro e_ W3 ⟨v0_, rfl, hR, hb⟩; have HOO := Aside0.mk hR; have HB3 := Aside0.mk (below_then HB2.out HB2.out.size hb); clear hR hb; obtain ⟨Ao, co, eo⟩ := Kd.R_slice HOO.out; subst eo))
        go_ret2
        exact ⟨_, rfl, Kd.R_lower HOO.out HB2.out.size, HB3.out⟩
      · rw [if_pos cf] at h
        generalize checkL a0_1 l1 (l2.map sm) = r at HF cf h
        cases h
        have hf1 : (r2 != 0) = true := bne_iff_ne.2 cf
        clear g cf hv
        go_enter Try.func13, Try.ntmps13
        go_wp2_with (first | (go_at_call 23; refine (HO.out _).mono ?_; rintro e_ W1 ⟨rfl, hb⟩; have HB1 := Aside0.mk (below_then HB0.out HB0.out.size hb); clear hb) | (go_at_call 117; refine (HF.out _ (Kd.C_below HR1.out HB1.out) (Kd.C_below HR2.out HB1.out)).mono ?_; rintro e_ W2 ⟨rfl, hb⟩; have HB2 := Aside0.mk (below_then HB1.out HB1.out.size hb); clear hb))
        go_ret2
        exact ⟨_, rfl, Kd.R_nil _ _ _ _ _, HB2.out⟩
    · have hfk : fitsK 1 a0_1 a0_2 a0_3 a0_4 l1 (l2.map sm) = checkS a0_1 a0_2 l1 (l2.map sm) := by unfold fitsK; rw [if_neg (not_not_intro c), if_neg (by decide), if_pos rfl]
      rw [hfk] at h
      clear hfk c
      generalize dimS a0_1 a0_2 = dm at g g2
      obtain ⟨d, e⟩ := dm
      obtain rfl : e = 0 := g2
      have HO := HO _ _ _ g
      simp only [knW] at HO
      have hmfits : ∀ (n : Nat) (k i o h f : Int) (W : World), (method (n + 1) 87 (.agg #[.int .i64 k, .int .i64 i, .int .i64 o, .int .i64 h, .int .i64 f]) "thrum/model.fits").run Try.prog W = .ok (122, .agg #[.int .i64 k, .int .i64 i, .int .i64 o, .int .i64 h, .int .i64 f]) W := fun _ _ _ _ _ _ _ => by kernel_rfl
      have hmgrad : ∀ (n : Nat) (k i o h f : Int) (W : World), (method (n + 1) 87 (.agg #[.int .i64 k, .int .i64 i, .int .i64 o, .int .i64 h, .int .i64 f]) "thrum/model.grad").run Try.prog W = .ok (123, .agg #[.int .i64 k, .int .i64 i, .int .i64 o, .int .i64 h, .int .i64 f]) W := fun _ _ _ _ _ _ _ => by kernel_rfl
      have HF := Aside0.mk (fun (W : World) h1 h2 => model_classes_fits.calls 1 a0_1 a0_2 a0_3 a0_4 A1 c1 l1 A2 c2 l2 (checkS a0_1 a0_2 l1 (l2.map sm)) W h1 HC1.out h2 HC2.out rfl)
      by_cases cf : checkS a0_1 a0_2 l1 (l2.map sm) = 0
      · rw [if_neg (not_not_intro cf)] at h
        rw [if_neg (by decide), if_pos rfl] at h
        rw [cf] at HF
        have HG := Aside0.mk (fun (W : World) h1 h2 => model_classes_grad.calls 1 a0_1 a0_2 a0_3 a0_4 A1 c1 l1 A2 c2 l2 r1 r2 W h1 HC1.out h2 HC2.out ((model_classes_grad.is 1 a0_1 a0_2 a0_3 a0_4 hv).trans (congrArg some h)))
        clear g h cf hv
        go_enter Try.func13, Try.ntmps13
        go_wp2_with (first | (go_at_call 23; refine (HO.out _).mono ?_; rintro e_ W1 ⟨rfl, hb⟩; have HB1 := Aside0.mk (below_then HB0.out HB0.out.size hb); clear hb) | (go_at_call 122; refine (HF.out _ (Kd.C_below HR1.out HB1.out) (Kd.C_below HR2.out HB1.out)).mono ?_; rintro e_ W2 ⟨rfl, hb⟩; have HB2 := Aside0.mk (below_then HB1.out HB1.out.size hb); clear hb) | (go_at_call 123; refine (HG.out _ (Kd.C_below HR1.out HB2.out) (Kd.C_below HR2.out HB2.out)).mono ?_; rintro e_ W3 ⟨v0_, rfl, hR, hb⟩; have HOO := Aside0.mk hR; have HB3 := Aside0.mk (below_then HB2.out HB2.out.size hb); clear hR hb; obtain ⟨Ao, co, eo⟩ := Kd.R_slice HOO.out; subst eo))
        go_ret2
        exact ⟨_, rfl, Kd.R_lower HOO.out HB2.out.size, HB3.out⟩
      · rw [if_pos cf] at h
        generalize checkS a0_1 a0_2 l1 (l2.map sm) = r at HF cf h
        cases h
        have hf1 : (r2 != 0) = true := bne_iff_ne.2 cf
        clear g cf hv
        go_enter Try.func13, Try.ntmps13
        go_wp2_with (first | (go_at_call 23; refine (HO.out _).mono ?_; rintro e_ W1 ⟨rfl, hb⟩; have HB1 := Aside0.mk (below_then HB0.out HB0.out.size hb); clear hb) | (go_at_call 122; refine (HF.out _ (Kd.C_below HR1.out HB1.out) (Kd.C_below HR2.out HB1.out)).mono ?_; rintro e_ W2 ⟨rfl, hb⟩; have HB2 := Aside0.mk (below_then HB1.out HB1.out.size hb); clear hb))
        go_ret2
        exact ⟨_, rfl, Kd.R_nil _ _ _ _ _, HB2.out⟩
    · have hfk : fitsK 2 a0_1 a0_2 a0_3 a0_4 l1 (l2.map sm) = checkM a0_1 a0_3 l1 (l2.map sm) := by unfold fitsK; rw [if_neg (not_not_intro c), if_neg (by decide), if_neg (by decide)]
      rw [hfk] at h
      clear hfk c
      generalize dimM a0_1 a0_3 = dm at g g2
      obtain ⟨d, e⟩ := dm
      obtain rfl : e = 0 := g2
      have HO := HO _ _ _ g
      simp only [knW] at HO
      have hmfits : ∀ (n : Nat) (k i o h f : Int) (W : World), (method (n + 1) 88 (.agg #[.int .i64 k, .int .i64 i, .int .i64 o, .int .i64 h, .int .i64 f]) "thrum/model.fits").run Try.prog W = .ok (126, .agg #[.int .i64 k, .int .i64 i, .int .i64 o, .int .i64 h, .int .i64 f]) W := fun _ _ _ _ _ _ _ => by kernel_rfl
      have hmgrad : ∀ (n : Nat) (k i o h f : Int) (W : World), (method (n + 1) 88 (.agg #[.int .i64 k, .int .i64 i, .int .i64 o, .int .i64 h, .int .i64 f]) "thrum/model.grad").run Try.prog W = .ok (127, .agg #[.int .i64 k, .int .i64 i, .int .i64 o, .int .i64 h, .int .i64 f]) W := fun _ _ _ _ _ _ _ => by kernel_rfl
      have HF := Aside0.mk (fun (W : World) h1 h2 => model_layers_fits.calls 2 a0_1 a0_2 a0_3 a0_4 A1 c1 l1 A2 c2 l2 (checkM a0_1 a0_3 l1 (l2.map sm)) W h1 HC1.out h2 HC2.out rfl)
      by_cases cf : checkM a0_1 a0_3 l1 (l2.map sm) = 0
      · rw [if_neg (not_not_intro cf)] at h
        rw [if_neg (by decide), if_neg (by decide)] at h
        rw [cf] at HF
        have HG := Aside0.mk (fun (W : World) h1 h2 => model_layers_grad.calls 2 a0_1 a0_2 a0_3 a0_4 A1 c1 l1 A2 c2 l2 r1 r2 W h1 HC1.out h2 HC2.out ((model_layers_grad.is 2 a0_1 a0_2 a0_3 a0_4 hv).trans (congrArg some h)))
        clear g h cf hv
        go_enter Try.func13, Try.ntmps13
        go_wp2_with (first | (go_at_call 23; refine (HO.out _).mono ?_; rintro e_ W1 ⟨rfl, hb⟩; have HB1 := Aside0.mk (below_then HB0.out HB0.out.size hb); clear hb) | (go_at_call 126; refine (HF.out _ (Kd.C_below HR1.out HB1.out) (Kd.C_below HR2.out HB1.out)).mono ?_; rintro e_ W2 ⟨rfl, hb⟩; have HB2 := Aside0.mk (below_then HB1.out HB1.out.size hb); clear hb) | (go_at_call 127; refine (HG.out _ (Kd.C_below HR1.out HB2.out) (Kd.C_below HR2.out HB2.out)).mono ?_; rintro e_ W3 ⟨v0_, rfl, hR, hb⟩; have HOO := Aside0.mk hR; have HB3 := Aside0.mk (below_then HB2.out HB2.out.size hb); clear hR hb; obtain ⟨Ao, co, eo⟩ := Kd.R_slice HOO.out; subst eo))
        go_ret2
        exact ⟨_, rfl, Kd.R_lower HOO.out HB2.out.size, HB3.out⟩
      · rw [if_pos cf] at h
        generalize checkM a0_1 a0_3 l1 (l2.map sm) = r at HF cf h
        cases h
        have hf1 : (r2 != 0) = true := bne_iff_ne.2 cf
        clear g cf hv
        go_enter Try.func13, Try.ntmps13
        go_wp2_with (first | (go_at_call 23; refine (HO.out _).mono ?_; rintro e_ W1 ⟨rfl, hb⟩; have HB1 := Aside0.mk (below_then HB0.out HB0.out.size hb); clear hb) | (go_at_call 126; refine (HF.out _ (Kd.C_below HR1.out HB1.out) (Kd.C_below HR2.out HB1.out)).mono ?_; rintro e_ W2 ⟨rfl, hb⟩; have HB2 := Aside0.mk (below_then HB1.out HB1.out.size hb); clear hb))
        go_ret2
        exact ⟨_, rfl, Kd.R_nil _ _ _ _ _, HB2.out⟩
  · have hfk : fitsK a0_0 a0_1 a0_2 a0_3 a0_4 l1 (l2.map sm) = (ofK a0_0 a0_1 a0_2 a0_3 a0_4).2.2 := by unfold fitsK; rw [if_pos c]
    rw [hfk, if_pos c] at h
    clear hfk hv
    obtain ⟨⟨K, d, e⟩, hK⟩ : ∃ z, ofK a0_0 a0_1 a0_2 a0_3 a0_4 = z := ⟨_, rfl⟩
    have HO := HO _ _ _ hK
    rw [hK] at h c
    dsimp only at h c
    cases h
    have he1 : (r2 != 0) = true := bne_iff_ne.2 c
    have he0 : (r2 == 0) = false := beq_eq_false_iff_ne.2 c
    clear hK c
    go_enter Try.func13, Try.ntmps13
    go_wp2_with (first | (go_at_call 23; refine (HO.out _).mono ?_; rintro e_ W1 ⟨rfl, hb⟩; have HB1 := Aside0.mk (below_then HB0.out HB0.out.size hb); clear hb))
    go_ret2
    exact ⟨_, rfl, Kd.R_nil _ _ _ _ _, HB1.out⟩


/-! ### fix_ClipP: function 47 -/
def fix_ClipP.f (a0 : Int) (a1 : Int) : Option (Int × Int) := if a1 < 0 then (some (0, 1)) else (some (mn (mx a0 (wrap64 (-a1))) a1, 0))
set_option maxHeartbeats 8000000 in
set_option maxRecDepth 100000 in
theorem fix_ClipP.calls (a0 : Int) (a1 : Int) (r1 : Int) (r2 : Int) (w : World) (h : fix_ClipP.f a0 a1 = some (r1, r2)) :
  Calls Try.prog 47 #[.int .i64 a0, .int .i64 a1] w fun e w' => e = .returned (.tuple #[.int .i64 r1, .int .i64 r2]) ∧ Below w.heap.size w w' := by
 have HB := Aside0.mk (Below.refl w.heap.size w)
 have H : (if a1 < 0 then (some (0, 1)) else (some (mn (mx a0 (wrap64 (-a1))) a1, 0))) = some (r1, r2) := h
 clear h
 by_cases c3 : a1 < 0
 ·
  rw [if_pos c3] at H
  have c3b0 : decide (a1 < 0) = true := decide_eq_true c3
  clear c3
  simp only [Option.some.injEq, Prod.mk.injEq] at H
  obtain ⟨rfl, rfl⟩ := H
  go_enter Try.func47, Try.ntmps47
  go_wp2
  go_ret2
  exact ⟨by first | rfl | (simp [errW_none, errW_some] <;> rfl) | (simp [*, errW_none, errW_some] <;> rfl), by repeat (first | (with_reducible first | exact HB.out | apply zzA | apply zzN | apply zzD) | exact HB.out)⟩
 ·
  rw [if_neg c3] at H
  have c3b0 : decide (a1 < 0) = false := decide_eq_false c3
  clear c3
  obtain ⟨ji4, hji4⟩ : ∃ j_ : Int, (mx a0 (wrap64 (-a1))) = j_ := ⟨_, rfl⟩
  replace H : (some (mn (ji4) a1, 0)) = some (r1, r2) := by first | (rw [hji4] at H; exact H) | (simp only [hji4] at H ⊢; exact H)
  have hji4_ : (if a0 < (wrap64 (-a1)) then (wrap64 (-a1)) else a0) = ji4 := hji4
  obtain ⟨ji5, hji5⟩ : ∃ j_ : Int, (mn (ji4) a1) = j_ := ⟨_, rfl⟩
  replace H : (some (ji5, 0)) = some (r1, r2) := by first | (rw [hji5] at H; exact H) | (simp only [hji5] at H ⊢; exact H)
  have hji5_ : (if a1 < (ji4) then a1 else (ji4)) = ji5 := hji5
  simp only [Option.some.injEq, Prod.mk.injEq] at H
  obtain ⟨rfl, rfl⟩ := H
  go_enter Try.func47, Try.ntmps47
  go_wp2
  go_ret2
  exact ⟨by first | rfl | (simp [errW_none, errW_some] <;> rfl) | (simp only [← hji4, ← hji5]; first | rfl | (simp [errW_none, errW_some] <;> rfl)) | (simp [*, errW_none, errW_some] <;> rfl), by repeat (first | (with_reducible first | exact HB.out | apply zzA | apply zzN | apply zzD) | exact HB.out)⟩

def fix_Clip.f (a0 a1 : Int) : Option (Int × Int) := if I64 a0 ∧ I64 a1 then some (clipF a0 a1) else none
theorem fix_Clip.of (a0 a1 : Int)  (h_ : I64 a0 ∧ I64 a1) : fix_Clip.f a0 a1 = some (clipF a0 a1) := if_pos h_
theorem fix_Clip.calls (a0 : Int) (a1 : Int) (r1 : Int) (r2 : Int) (w : World) (h : fix_Clip.f a0 a1 = some (r1, r2)) :
    Calls Try.prog 47 #[.int .i64 a0, .int .i64 a1] w fun e w' => e = .returned (.tuple #[.int .i64 r1, .int .i64 r2]) ∧ Below w.heap.size w w' := by
  unfold fix_Clip.f at h
  split at h
  · rename_i hu
    refine fix_ClipP.calls a0 a1 r1 r2 w (Eq.trans ?_ h)
    unfold fix_ClipP.f clipF
    split
    · rfl
    · rw [wrap64_of (show I64 (-a1) by have := hu.2; unfold I64 at *; omega)]
      unfold mn mx; simp only [Option.some.injEq, Prod.mk.injEq, and_true]
      (repeat' split) <;> omega
  · cases h


-- NOT PRINTED: function 49 (vec_Clip_1)

/-! ### vec_Clip: function 28 -/
set_option maxHeartbeats 2000000 in
set_option maxRecDepth 100000 in
theorem vec_Clip_1.calls (b1 b2 : Nat) (A0 : Option Addr) (c0 : Nat) (l0 : List Int) (a1 : Int) (i : Nat) (W : World) (x e : Int)
    (hb1 : W.cell? ⟨b1, 0, none⟩ = some (.slice A0 l0.length c0)) (hb2 : W.cell? ⟨b2, 0, none⟩ = some (.int .i64 a1))
    (hr0 : Kd.C (Kd.int .i64) W A0 l0.length l0) (h0 : i < l0.length)
    (h : fix_Clip.f (rd l0 i) a1 = some (x, e)) :
    Calls Try.prog 49 #[.int .i64 i, .pointer (some ⟨b1, 0, none⟩), .pointer (some ⟨b2, 0, none⟩)] W fun ed W' => ed = .returned (.tuple #[.int .i64 x, .int .i64 e]) ∧ Below W.heap.size W W' := by
  obtain ⟨ad0, rfl, hc0⟩ := Kd.at_int hr0 (i : Int) (by omega) (by omega)
  simp only [Int.toNat_natCast] at hc0
  have HC := Aside0.mk h
  clear hr0 h
  go_enter Try.func49, Try.ntmps49
  go_wp2
  go_region_held3 (fun w' => w'.cell? ⟨b1, 0, none⟩ = some (.slice (some ad0) l0.length c0) ∧ w'.cell? ⟨b2, 0, none⟩ = some (.int .i64 a1) ∧ w'.cell? (ad0.add i) = some (.int .i64 (rd l0 i)))
    (first | go_keep | (go_split_ands; exact ⟨pw_cell_below hb (by assumption), pw_cell_below hb (by assumption), pw_cell_below hb (by assumption)⟩))
    ((go_at_call 47; (with_reducible refine (fix_Clip.calls (rd l0 i) a1 x e _ HC.out).mono ?_); rintro ed W2 ⟨rfl, hb⟩))
  go_wp2
  go_ret2
  exact ⟨rfl, below_then (below_drew (Below.refl _ _)) (Nat.le_refl _) hb⟩
def vec_Clip.f (l0 : List Int) (a1 : Int) : Option (List Int × Int) := if V64 l0 ∧ I64 a1 then some (clipV l0 a1) else none
theorem vec_Clip.of (l0 : List Int) (a1 : Int)  (h_ : V64 l0 ∧ I64 a1) : vec_Clip.f l0 a1 = some (clipV l0 a1) := if_pos h_
set_option maxHeartbeats 2000000 in
set_option maxRecDepth 100000 in
theorem vec_Clip.calls (A0 : Option Addr) (c0 : Nat) (l0 : List Int) (a1 : Int) (r1 : List Int) (r2 : Int) (w : World) (hr0 : Kd.C (Kd.int .i64) w A0 l0.length l0) (hc0 : l0.length ≤ c0) (h : vec_Clip.f l0 a1 = some (r1, r2)) :
    Calls Try.prog 28 #[.slice A0 l0.length c0, .int .i64 a1] w fun e w' => ∃ v0_ : Value, e = .returned (.tuple #[v0_, .int .i64 r2]) ∧ Kd.R (Kd.int .i64) 2 w' w.heap.size (fun _ => True) v0_ r1 ∧ Below w.heap.size w w' := by
  unfold vec_Clip.f at h
  split at h
  case isFalse => cases h
  rename_i hv
  have h := Option.some.inj h
  unfold clipV at h
  have HR0 := Aside0.mk hr0
  have HC0 := Aside0.mk hc0
  clear hr0 hc0
  have HV := Aside0.mk hv
  clear hv
  try have hu26 := Try.underlying26
  try have hu2 := Try.underlying2
  have HP0 : Aside0 (vec_Check.f l0 = some (checkE l0)) := ⟨vec_Check.of l0⟩
  by_cases hp0 : checkE l0 = 0
  · rw [if_pos hp0] at h
    rw [hp0] at HP0
    have HP1 : Aside0 (fix_Clip.f 0 a1 = some (0, clipE a1)) := ⟨by rw [fix_Clip.of 0 a1 ⟨i64_zero, HV.out.2⟩, clipF_zero]⟩
    by_cases hp1 : clipE a1 = 0
    · rw [if_pos hp1] at h
      rw [hp1] at HP1
      have HN : Aside0 (l0.length ≤ 4096) := ⟨checkE_le hp0⟩
      have HH := Aside0.mk h
      clear h hp0 hp1
      have HX0 : Aside0 (((w.alloc (Obj.cells #[Value.slice A0 l0.length c0] 26)).alloc (Obj.cells #[Value.int .i64 a1] 2)).cell? ⟨w.heap.size, 0, none⟩ = some (.slice A0 l0.length c0)) := ⟨by simp [go_sem]⟩
      have HX1 : Aside0 (((w.alloc (Obj.cells #[Value.slice A0 l0.length c0] 26)).alloc (Obj.cells #[Value.int .i64 a1] 2)).cell? ⟨w.heap.size + 1, 0, none⟩ = some (.int .i64 a1)) := ⟨by simp [go_sem]⟩
      have HB : Aside0 (Below w.heap.size w ((w.alloc (Obj.cells #[Value.slice A0 l0.length c0] 26)).alloc (Obj.cells #[Value.int .i64 a1] 2))) := ⟨zzA (zzA (Below.refl _ _) _) _⟩
      go_enter Try.func28, Try.ntmps28
      go_wp2_with (first | (go_at_call 25; (with_reducible refine (vec_Check.calls A0 c0 l0 0 _ (Kd.C_below HR0.out HB.out) HC0.out HP0.out).mono ?_); rintro ed W1 ⟨rfl, hd⟩; have hb := hd.below; clear hd; have HB := Aside0.mk (below_then HB.out HB.out.size hb); have HX0 := Aside0.mk (pw_cell_below hb HX0.out); have HX1 := Aside0.mk (pw_cell_below hb HX1.out); have hx0 := HX0.out; have hx1 := HX1.out; clear hb) | (go_at_call 47; (with_reducible refine (fix_Clip.calls 0 a1 0 0 _ HP1.out).mono ?_); rintro ed W1 ⟨rfl, hd⟩; have hb := hd; clear hd; have HB := Aside0.mk (below_then HB.out HB.out.size hb); have HX0 := Aside0.mk (pw_cell_below hb HX0.out); have HX1 := Aside0.mk (pw_cell_below hb HX1.out); have hx0 := HX0.out; have hx1 := HX1.out; clear hb) | (go_at_call 48; (with_reducible refine (vec_each.calls 49 _ (fun i : Nat => fix_Clip.f (rd l0 i) a1) l0.length (by have := HN.out; omega) _ r1 r2 ?ent ?tells ?go).mono ?_); (case ent => exact enters_of Try.func49 rfl rfl); (case tells => intro i W x e hi hb hg; refine (vec_Clip_1.calls (w.heap.size) (w.heap.size + 1) A0 c0 l0 a1 i W x e (pw_cell_below hb HX0.out) (pw_cell_below hb HX1.out) (Kd.C_below (Kd.C_below HR0.out HB.out) hb) (by omega) hg).mono ?_; rintro ed W' ⟨rfl, hd⟩; exact ⟨rfl, hd⟩); (case go => exact (each_spec (ps := l0.map fun x => clipF x a1) (List.length_map _) (fun j h => by rw [map_get _ j h]; exact fix_Clip.of _ _ ⟨HV.out.1.rd _, HV.out.2⟩)).trans (congrArg some HH.out)); rintro ed W2 ⟨v_, rfl, hR, hb⟩; have HO := Aside0.mk (Kd.R_lower hR HB.out.size); have HB2 := Aside0.mk (below_then HB.out HB.out.size hb); clear hR hb))
      go_ret2
      exact ⟨_, rfl, HO.out, HB2.out⟩
    · rw [if_neg hp1] at h
      cases h
      have HX0 : Aside0 (((w.alloc (Obj.cells #[Value.slice A0 l0.length c0] 26)).alloc (Obj.cells #[Value.int .i64 a1] 2)).cell? ⟨w.heap.size, 0, none⟩ = some (.slice A0 l0.length c0)) := ⟨by simp [go_sem]⟩
      have HX1 : Aside0 (((w.alloc (Obj.cells #[Value.slice A0 l0.length c0] 26)).alloc (Obj.cells #[Value.int .i64 a1] 2)).cell? ⟨w.heap.size + 1, 0, none⟩ = some (.int .i64 a1)) := ⟨by simp [go_sem]⟩
      have HB : Aside0 (Below w.heap.size w ((w.alloc (Obj.cells #[Value.slice A0 l0.length c0] 26)).alloc (Obj.cells #[Value.int .i64 a1] 2))) := ⟨zzA (zzA (Below.refl _ _) _) _⟩
      have he0 : (clipE a1 == 0) = false := beq_eq_false_iff_ne.2 hp1
      have he1 : (clipE a1 != 0) = true := bne_iff_ne.2 hp1
      obtain ⟨e_, hE⟩ : ∃ e_ : Int, clipE a1 = e_ := ⟨_, rfl⟩
      rw [hE] at HP1 he0 he1
      simp only [hE]
      clear hE hp1
      go_enter Try.func28, Try.ntmps28
      go_wp2_with (first | (go_at_call 25; (with_reducible refine (vec_Check.calls A0 c0 l0 0 _ (Kd.C_below HR0.out HB.out) HC0.out HP0.out).mono ?_); rintro ed W1 ⟨rfl, hd⟩; have hb := hd.below; clear hd; have HB := Aside0.mk (below_then HB.out HB.out.size hb); have HX0 := Aside0.mk (pw_cell_below hb HX0.out); have HX1 := Aside0.mk (pw_cell_below hb HX1.out); have hx0 := HX0.out; have hx1 := HX1.out; clear hb) | (go_at_call 47; (with_reducible refine (fix_Clip.calls 0 a1 0 e_ _ HP1.out).mono ?_); rintro ed W1 ⟨rfl, hd⟩; have hb := hd; clear hd; have HB := Aside0.mk (below_then HB.out HB.out.size hb); have HX0 := Aside0.mk (pw_cell_below hb HX0.out); have HX1 := Aside0.mk (pw_cell_below hb HX1.out); have hx0 := HX0.out; have hx1 := HX1.out; clear hb))
      go_ret2
      exact ⟨_, rfl, Kd.R_nil _ _ _ _ _, HB.out⟩
  · rw [if_neg hp0] at h
    cases h
    have HX0 : Aside0 (((w.alloc (Obj.cells #[Value.slice A0 l0.length c0] 26)).alloc (Obj.cells #[Value.int .i64 a1] 2)).cell? ⟨w.heap.size, 0, none⟩ = some (.slice A0 l0.length c0)) := ⟨by simp [go_sem]⟩
    have HX1 : Aside0 (((w.alloc (Obj.cells #[Value.slice A0 l0.length c0] 26)).alloc (Obj.cells #[Value.int .i64 a1] 2)).cell? ⟨w.heap.size + 1, 0, none⟩ = some (.int .i64 a1)) := ⟨by simp [go_sem]⟩
    have HB : Aside0 (Below w.heap.size w ((w.alloc (Obj.cells #[Value.slice A0 l0.length c0] 26)).alloc (Obj.cells #[Value.int .i64 a1] 2))) := ⟨zzA (zzA (Below.refl _ _) _) _⟩
    have he0 : (checkE l0 == 0) = false := beq_eq_false_iff_ne.2 hp0
    have he1 : (checkE l0 != 0) = true := bne_iff_ne.2 hp0
    obtain ⟨e_, hE⟩ : ∃ e_ : Int, checkE l0 = e_ := ⟨_, rfl⟩
    rw [hE] at HP0 he0 he1
    simp only [hE]
    clear hE hp0
    go_enter Try.func28, Try.ntmps28
    go_wp2_with (first | (go_at_call 25; (with_reducible refine (vec_Check.calls A0 c0 l0 e_ _ (Kd.C_below HR0.out HB.out) HC0.out HP0.out).mono ?_); rintro ed W1 ⟨rfl, hd⟩; have hb := hd.below; clear hd; have HB := Aside0.mk (below_then HB.out HB.out.size hb); have HX0 := Aside0.mk (pw_cell_below hb HX0.out); have HX1 := Aside0.mk (pw_cell_below hb HX1.out); have hx0 := HX0.out; have hx1 := HX1.out; clear hb))
    go_ret2
    exact ⟨_, rfl, Kd.R_nil _ _ _ _ _, HB.out⟩


end Go.Proofs.Ytbnfejaeekljcaa.HD
