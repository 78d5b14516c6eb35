/- What Go functions do, each as a plain Lean function with the same answers, and the proof of it, in every world: printed by the session's driver over the kit's print, with texts by hand. -/
import Derived.Test.YtalamamjodihaaaHRx0
import Derived.Test.YtalamamjodihaaaHRx1
import Derived.Test.YtalamamjodihaaaHRx3
import Derived.Test.YtalamamjodihaaaHRx4
import Derived.Test.YtalamamjodihaaaHRx7
namespace Go.Proofs.Ytalamamjodihaaa.HR
open Go.RowKit Go.Proofs.YtalamamjodihaaaW.PrintWords Go.Proofs.YtalamamjodihaaaW.PrintLast Go.Proofs.YtalamamjodihaaaW.PrintMore
attribute [local go_sem] max2_int min2_int max_two min_two max_three min_three max_four min_four   -- for this text's walks alone
open Go.Proofs.Ytalamamjodihaaa.Sp
attribute [local go_sem] Go.Proofs.Ytalamamjodihaaa.Sp.u64_not
set_option linter.unusedVariables false
set_option linter.unusedSimpArgs false

/-! ### mlp_Grad: function 27 -/
theorem scaleV_len (a : List Int) (k f : Int) : (scaleV a k f).1.length ≤ a.length := by
  unfold scaleV
  split
  · split
    · exact Nat.le_trans (seqV_lle _) (by rw [List.length_map]; exact Nat.le_refl _)
    · exact Nat.zero_le _
  · exact Nat.zero_le _
theorem addG_len (e : Int) (gs x : List Int) (b f : Int) : (addG e gs x b f).length ≤ gs.length + x.length + 1 := by
  unfold addG
  have h := scaleV_len x b f
  split
  · rw [List.length_append, List.length_append, List.length_singleton]; omega
  · omega
theorem addG_v64 {e : Int} {gs x : List Int} {b f : Int} (h : V64 gs) (hb : I64 b) : V64 (addG e gs x b f) := by
  unfold addG
  split
  · intro y hy
    rcases List.mem_append.1 hy with hy | hy
    · rcases List.mem_append.1 hy with hy | hy
      · exact h y hy
      · refine (show V64 (scaleV x b f).1 from ?_) y hy
        unfold scaleV
        split
        · split
          · exact seqV_v64 _ (by intro p hp; obtain ⟨z, _, rfl⟩ := List.mem_map.1 hp; exact mulF_i64 _ _ _)
          · intro y hy; cases hy
        · intro y hy; cases hy
    · rw [List.mem_singleton.1 hy]; exact hb
  · exact h
theorem byM_i64 (last : List Int) (off f n : Int) (i : Nat) (e : Int) : I64 (byM last off f n i e).1 := by
  unfold byM
  split
  · exact mulF_i64 _ _ _
  · exact i64_zero
theorem stepsM_few (last x : List Int) (off f : Int) : ∀ (h : List Int) (i : Nat) (e : Int) (gs : List Int), V64 gs → V64 (stepsM last x off f h i e gs).2 ∧ (stepsM last x off f h i e gs).2.length ≤ gs.length + h.length * (x.length + 1)
  | [], _, _, gs, hg => ⟨hg, by simp [stepsM]⟩
  | n :: l, i, e, gs, hg => by
    rw [stepsM]
    obtain ⟨h1, h2⟩ := stepsM_few last x off f l (i + 1) (addE (byM last off f n i e).2 x (byM last off f n i e).1 f) (addG (byM last off f n i e).2 gs x (byM last off f n i e).1 f) (addG_v64 hg (byM_i64 _ _ _ _ _ _))
    refine ⟨h1, Nat.le_trans h2 ?_⟩
    have h3 := addG_len (byM last off f n i e).2 gs x (byM last off f n i e).1 f
    have h4 : (n :: l).length * (x.length + 1) = l.length * (x.length + 1) + (x.length + 1) := by rw [List.length_cons, Nat.add_mul, Nat.one_mul]
    omega
theorem bendN_few (rows : List (List Int)) (last : List Int) (inn : Int) (x : List Int) (y f : Int) (hr : rows.length ≤ 8) (hi : inn ≤ 16) : V64 (bendN rows last inn x y f).1 ∧ (bendN rows last inn x y f).1.length ≤ 5000 := by
  have h0 : V64 ([] : List Int) ∧ ([] : List Int).length ≤ 5000 := ⟨fun y hy => (by cases hy), Nat.zero_le _⟩
  unfold bendN
  split
  · exact h0
  · rename_i c
    split
    · exact h0
    · unfold endM
      split
      · exact h0
      · have hc : (hiddenM rows inn x f).2 = 0 := by
          apply Classical.byContradiction
          intro hn
          apply c
          unfold ptellM
          rw [if_neg hn]
          exact hn
        have hx : (x.length : Int) = inn := by
          apply Classical.byContradiction
          intro hn
          unfold hiddenM at hc
          rw [if_pos hn] at hc
          cases hc
        have hh : (ptellM rows last inn x f).1 = (hiddenM rows inn x f).1 := by unfold ptellM; rw [if_pos hc]
        rw [hh]
        have hl := hiddenM_lle rows inn x f
        obtain ⟨h1, h2⟩ := stepsM_few last x (res ((ptellM rows last inn x f).2.1 - y)).1 f (hiddenM rows inn x f).1 0 0 [] h0.1
        refine ⟨addG_v64 h1 (res_i64 _), Nat.le_trans (addG_len _ _ _ _ _) ?_⟩
        have h3 : (hiddenM rows inn x f).1.length * (x.length + 1) ≤ 8 * 17 := Nat.mul_le_mul (by omega) (by omega)
        rw [List.length_nil] at h2
        omega
theorem rowsM_few {α : Type} {g : α → List Int × Int} (hg : ∀ x, V64 (g x).1 ∧ (g x).1.length ≤ 5000) : ∀ l : List α, (∀ v ∈ (rowsL g l).1, V64 v) ∧ fewV (rowsL g l).1 = true
  | [] => ⟨fun v hv => by simp [rowsL] at hv, rfl⟩
  | x :: l => by
    obtain ⟨h1, h2⟩ := rowsM_few hg l
    simp only [rowsL]
    split
    · split
      · refine ⟨fun v hv => ?_, ?_⟩
        · rcases List.mem_cons.1 hv with e | e
          · rw [e]; exact (hg x).1
          · exact h1 v e
        · simp only [fewV, List.all_cons, Bool.and_eq_true, decide_eq_true_eq] at h2 ⊢; exact ⟨(hg x).2, h2⟩
      · exact ⟨fun v hv => (by cases hv), rfl⟩
    · exact ⟨fun v hv => (by cases hv), rfl⟩
/-- How all is to be bent. -/
def gradM (hid : Int) (w : List Int) (f : Int) (l : List (List Int × Int)) : List Int × Int :=
  if (splitM hid w).2.2 ≠ 0 then ([], (splitM hid w).2.2) else
  if checkM ((lenM hid.toNat w : Nat) - 1) hid w l ≠ 0 then ([], checkM ((lenM hid.toNat w : Nat) - 1) hid w l) else
  if (rowsL (fun s => bendN (splitM hid w).1 (splitM hid w).2.1 ((lenM hid.toNat w : Nat) - 1) s.1 s.2 f) l).2 = 0 then meanL l.length (rowsL (fun s => bendN (splitM hid w).1 (splitM hid w).2.1 ((lenM hid.toNat w : Nat) - 1) s.1 s.2 f) l).1
  else ([], (rowsL (fun s => bendN (splitM hid w).1 (splitM hid w).2.1 ((lenM hid.toNat w : Nat) - 1) s.1 s.2 f) l).2)
def mlp_Grad.f (a0 : Int) (l1 : List Int) (a2 : Int) (l3 : List S26) : Option (List Int × Int) := if V64 l1 ∧ (∀ s ∈ l3, V64 s.f0 ∧ I64 s.f1) then some (gradM a0 l1 a2 (l3.map sm)) else none
theorem mlp_Grad.of (a0 : Int) (l1 : List Int) (a2 : Int) (l3 : List S26)  (h_ : V64 l1 ∧ (∀ s ∈ l3, V64 s.f0 ∧ I64 s.f1)) : mlp_Grad.f a0 l1 a2 l3 = some (gradM a0 l1 a2 (l3.map sm)) := if_pos h_
theorem rowsM_sm (G : List Int → Int → List Int × Int) : ∀ l : List S26, rowsL (fun s : List Int × Int => G s.1 s.2) (l.map sm) = rowsL (fun s : S26 => G s.f0 s.f1) l
  | [] => rfl
  | x :: l => by simp only [List.map_cons, rowsL, rowsM_sm G l, sm]
theorem checkM_few {inn hid : Int} {w : List Int} {l : List (List Int × Int)} (h : checkM inn hid w l = 0) : l.length ≤ 64 := by
  unfold checkM at h
  split at h
  · cases h
  · split at h
    · cases h
    · split at h
      · cases h
      · omega
set_option maxHeartbeats 8000000 in
set_option maxRecDepth 100000 in
theorem mlp_Grad.calls (a0 : Int) (A1 : Option Addr) (c1 : Nat) (l1 : List Int) (a2 : Int) (A3 : Option Addr) (c3 : Nat) (l3 : List (S26)) (r1 : List Int) (r2 : Int) (w : World) (hr1 : Kd.C (Kd.int .i64) w A1 l1.length l1) (hc1 : l1.length ≤ c1) (hr3 : Kd.C k26 w A3 l3.length l3) (hc3 : l3.length ≤ c3) (h : mlp_Grad.f a0 l1 a2 l3 = some (r1, r2)) :
    Calls Try.prog 27 #[.int .i64 a0, .slice A1 l1.length c1, .int .i64 a2, .slice A3 l3.length c3] w fun e w' => ∃ v0_ : Value, e = .returned (.tuple #[v0_, .int .i64 r2]) ∧ Kd.R (Kd.int .i64) 2 w' w.heap.size (fun _ => True) v0_ r1 ∧ Below w.heap.size w w' := by
  unfold mlp_Grad.f at h
  split at h
  case isFalse => cases h
  rename_i hv
  have h := Option.some.inj h
  have hu54 := Try.underlying54
  have hu52 := Try.underlying52
  have hu26 := Try.underlying26
  have hu22 := Try.underlying22
  unfold gradM at h
  have HR3 := Aside0.mk hr3
  have HC3 := Aside0.mk hc3
  by_cases c : (splitM a0 l1).2.2 = 0
  · rw [if_neg (not_not_intro c)] at h
    obtain ⟨k, m, rfl, hk1, hk8, hm2, hm17, hkm, hlm, hs⟩ := splitM_good c
    obtain ⟨ad, rfl, _⟩ := hr1.2.2 (by omega)
    rw [hlm, hs] at h
    dsimp only at h
    rw [rowsM_sm (fun x y => bendN (rowsM k m l1) (l1.drop (k * m)) ((m : Int) - 1) x y a2), List.length_map] at h
    have hac : mlp_Check.f ((m : Int) - 1) k l1 l3 = some (checkM ((m : Int) - 1) k l1 (l3.map sm)) := rfl
    have hcf := @checkM_few ((m : Int) - 1) k l1 (l3.map sm)
    rw [List.length_map] at hcf
    generalize checkM ((m : Int) - 1) k l1 (l3.map sm) = ce at h hac hcf
    have AC := Aside0.mk hac
    have HSP := Aside0.mk (mlp_split.good k m ad c1 l1 w hk1 hk8 hm2 hm17 hkm hr1 hc1)
    have HCD := Aside0.mk (drop_C (p := k * m) (by omega) hc1 hr1)
    have HCU := Aside0.mk (fun (W : World) (v : Value) (base : Nat) (hS : W.ownsRow base 22 1 v k (cutsM ad m k)) (hb : Below w.heap.size w W) => cuts_C (l := l1) (c := c1) (W := W) (v := v) (base := base) hS (by omega) (by omega) hc1 (Kd.C_below hr1 hb))
    have hld : (l1.drop (k * m)).length = k + 1 := by rw [List.length_drop]; omega
    have HBD := Aside0.mk (fun (Ar A : Option Addr) (cr cx : Nat) (x : List Int) (y : Int) (b1 : List Int) (b2 : Int) (W : World) h1 h3 h4 h5 h6 hab => mlp_net_bend.calls (some (ad.add (k * m))) (c1 - k * m) (l1.drop (k * m)) Ar cr (rowsM k m l1) ((m : Int) - 1) A cx x y a2 b1 b2 W h1 (by rw [hld]; omega) h3 h4 h5 h6 hab)
    have hrl : ((List.range k).map (Go.Proofs.Ytalamamjodihaaa.Sp.rowAt m l1)).length = k := by simp
    have hrm : rowsM k m l1 = (List.range k).map (Go.Proofs.Ytalamamjodihaaa.Sp.rowAt m l1) := rfl
    have HAB := Aside0.mk (fun (x : List Int) (y : Int) (hx : V64 x) (hy : I64 y) => mlp_net_bend.of (l1.drop (k * m)) (rowsM k m l1) ((m : Int) - 1) x y a2 ⟨v64_drop hv.1 _, hx, rowsM_v64 hv.1, by rw [rowsM_len, hld]; omega, by rw [rowsM_len]; exact hk8, hy⟩)
    have HFW := Aside0.mk (rowsM_few (g := fun s : S26 => bendN (rowsM k m l1) (l1.drop (k * m)) ((m : Int) - 1) s.f0 s.f1 a2) (fun s => bendN_few _ _ _ _ _ _ (by rw [rowsM_len]; exact hk8) (by omega)) l3)
    have HR1 := Aside0.mk hr1
    have HC1 := Aside0.mk hc1
    have HV3 := Aside0.mk hv.2
    rw [hrm] at HBD HAB HFW h
    rw [hld, hrl] at HBD
    rw [hld] at HCD
    simp only [hrl] at HCU
    generalize (List.range k).map (Go.Proofs.Ytalamamjodihaaa.Sp.rowAt m l1) = R0 at HBD HAB HFW HCU h
    generalize l1.drop (k * m) = L0 at HBD HAB HFW HCD h
    generalize hp : k * m = p at HBD HCD HSP
    clear hs hlm hld hrl hrm hkm hr1 hc1 hr3 hc3 c hv hac
    have SPL : True := trivial
    by_cases cc : ce = 0
    · rw [if_neg (not_not_intro cc)] at h
      have hl64 := hcf cc
      subst cc
      clear hcf
      go_enter Try.func27, Try.ntmps27
      go_wp2_with (first | (go_at_call 30; (with_reducible refine HSP.out.mono ?_); rintro e w1 ⟨v0, rfl, hS, hb⟩; have hcu := HCU.out w1 v0 w.heap.size hS hb; obtain ⟨Ar, cr, rfl, hcr, hCr⟩ := hcu; have HCR := Aside0.mk hCr; have HKR := Aside0.mk hcr; have HB := Aside0.mk hb; clear hS hb hCr hcr) | (go_at_call 25; (with_reducible refine (mlp_Check.calls ((m : Int) - 1) k (some ad) c1 l1 A3 c3 l3 0 _ (ccA (Kd.C_below HR1.out HB.out) _) HC1.out (ccA (Kd.C_below HR3.out HB.out) _) HC3.out AC.out).mono ?_); rintro e W1 ⟨rfl, hb2⟩; have HB1 := Aside0.mk hb2; have HBC := Aside0.mk (below_then (zzA HB.out _) (Nat.le_trans HB.out.size (by simp)) hb2); have BX1 := Aside0.mk (blk_below (blk_new w1 (Obj.cells #[.slice (some (ad.add p)) (k + 1) (c1 - p), .slice Ar k cr, .int .i64 ((m : Int) - 1)] 54)) hb2); clear hb2))
      have HL64 := Aside0.mk hl64
      obtain ⟨⟨q1, q2⟩, hq⟩ : ∃ q, rowsL (fun s : S26 => bendN R0 L0 ((m : Int) - 1) s.f0 s.f1 a2) l3 = q := ⟨_, rfl⟩
      have hfw := HFW.out
      rw [hq] at h hfw
      dsimp only at h hfw
      have HQ := Aside0.mk ((rowsFrom_start (fun s : S26 => bendN R0 L0 ((m : Int) - 1) s.f0 s.f1 a2) l3).trans (by rw [hq]))
      have HFQ := Aside0.mk hfw
      have HEND := Aside0.mk h
      have HCW1 := Aside0.mk (Kd.C_below (ccA HCR.out (Obj.cells #[.slice (some (ad.add p)) (k + 1) (c1 - p), .slice Ar k cr, .int .i64 ((m : Int) - 1)] 54)) HB1.out)
      clear h hfw hq hl64
      go_loopw [12, 36] (fun v i W => ∃ (j : Nat) (acc : List (List Int)), i = .int .i64 j ∧ Aside0 (j ≤ l3.length) ∧ Aside0 (acc.length = j) ∧ Aside0 (rowsFrom (fun s : S26 => bendN R0 L0 ((m : Int) - 1) s.f0 s.f1 a2) (l3.drop j) acc = (q1, q2)) ∧ Aside0 (Kd.S (Kd.slice 2 (Kd.int .i64)) 22 W W1.heap.size (fun _ => True) v acc) ∧ Aside0 (Below W1.heap.size W1 W)) (fun _ i _ => l3.length - (intOf i).toNat)
      case atStart => exact ⟨0, [], rfl, ⟨Nat.zero_le _⟩, ⟨rfl⟩, ⟨by rw [List.drop_zero]; exact HQ.out⟩, ⟨Kd.S_nil _ _ _ _ _⟩, ⟨Below.refl _ _⟩⟩
      case round =>
        obtain ⟨j, acc, rfl, ⟨hj⟩, ⟨hal⟩, ⟨hgo⟩, HS, HBW⟩ := hrel
        obtain ⟨As, cs, es⟩ := Kd.S_slice HS.out
        subst es
        have HBR := Aside0.mk (below_then HBC.out HBC.out.size HBW.out)
        have HAL := Aside0.mk hal
        by_cases hlt : j < l3.length
        · obtain ⟨ad3, A, cx, rfl, hx0, hx1, hl, hi⟩ := at_T26 HR3.out (j : Int) (by omega) (by omega)
          obtain ⟨x, hx⟩ : ∃ x, rd_T26 l3 (j : Int) = x := ⟨_, rfl⟩
          have hmem : l3[j] = x := (rd_sm hlt).symm.trans hx
          rw [hx] at hx0 hx1 hl hi
          simp only [Int.toNat_natCast] at hx0 hx1
          replace hx0 := (HBR.out.cell (World.block_lt_of_cell? _ _ hx0)).trans hx0
          replace hx1 := (HBR.out.cell (World.block_lt_of_cell? _ _ hx1)).trans hx1
          have hxv := HV3.out x (hmem ▸ List.getElem_mem hlt)
          rw [List.drop_eq_getElem_cons hlt, hmem] at hgo
          obtain ⟨⟨b1, b2⟩, hb12⟩ : ∃ q, bendN R0 L0 ((m : Int) - 1) x.f0 x.f1 a2 = q := ⟨_, rfl⟩
          have hab := (HAB.out x.f0 x.f1 hxv.1 hxv.2).trans (congrArg some hb12)
          have AB := Aside0.mk hab
          have HXI := Aside0.mk hi
          have HXL := Aside0.mk hl
          have HLT := Aside0.mk hlt
          have HCW := Aside0.mk (Kd.C_below HCW1.out HBW.out)
          have hyb := kkA (blk_below BX1.out HBW.out) (Obj.cells #[.slice A x.f0.length cx, .int .i64 x.f1] 26)
          have hy0 := (blk_cell hyb 0).trans rfl
          have hy1 := (blk_cell hyb 1).trans rfl
          have hy2 := (blk_cell hyb 2).trans rfl
          by_cases cb : b2 = 0
          · subst cb
            rw [rowsFrom_ok (g := fun s : S26 => bendN R0 L0 ((m : Int) - 1) s.f0 s.f1 a2) (by rw [hb12])] at hgo
            rw [hb12] at hgo
            have HGO := Aside0.mk hgo
            clear hi hl hx hmem hxv hgo hab hb12 hj hal hyb
            have hapF := fun {W6 : World} {A6 : Option Addr} {c6 : Nat} (hR6 : Kd.R (Kd.int .i64) 2 W6 (wr.alloc (Obj.cells #[.slice A x.f0.length cx, .int .i64 x.f1] 26)).heap.size (fun _ => True) (.slice A6 b1.length c6) b1) (hb6 : Below (wr.alloc (Obj.cells #[.slice A x.f0.length cx, .int .i64 x.f1] 26)).heap.size (wr.alloc (Obj.cells #[.slice A x.f0.length cx, .int .i64 x.f1] 26)) W6) => Kd.R_mono (ok' := fun k_ => True ∧ some k_ ≠ (Value.slice As acc.length cs).ownBlock) (Kd.R_apart' (Kd.R_lower hR6 (show W1.heap.size ≤ _ from by have := HBW.out.size; simp; omega)) (Kd.S_typed (Kd.S_below (Kd.S_below HS.out (zzA (Below.refl _ _) _)) hb6)) (by decide)) (fun k_ hk => ⟨trivial, hk.2⟩)
            go_wp2_with (first | (go_at_call 45; (with_reducible refine (HBD.out Ar A cr cx x.f0 x.f1 b1 0 _ (ccA (Kd.C_below HCD.out HBR.out) _) (ccA HCW.out _) HKR.out (ccA (Kd.C_below HXI.out HBR.out) _) HXL.out AB.out).mono ?_); rintro ed W6 ⟨v6, rfl, hR6, hb6⟩; obtain ⟨A6, c6, e6⟩ := Kd.R_slice hR6; subst e6; have HR6 := Aside0.mk hR6; have HB6 := Aside0.mk hb6; clear hR6 hb6) | ((with_reducible refine gate_builtin (b := .append) (xs := #[.tmp 50, .tmp 52]) rfl ?_); at_builtin; refine Kd.S_append (Kd.slice 2 (Kd.int .i64)) (w0 := W6) W1.heap.size rfl (.tmp 50) (.tmp 52) 30 22 (.slice none 0 0) 24 rfl Try.underlying30 (by kernel_rfl) rfl (by decide) (by omega) (.slice As acc.length cs) acc b1 [Value.slice A6 b1.length c6] (fun _ => True) (fun k_ => some k_ = (.slice A6 b1.length c6 : Value).ownBlock) rfl rfl ?aP ?aK (fun _ _ => trivial) ?aO (Below.refl _ _) ?aS ?aL ?_; (case aP => exact Kd.M_row (Kd.R_mono (Kd.R_tight rfl (hapF HR6.out HB6.out)) (fun _ h_ => h_))); (case aK => exact fun k_ hk_ => (hapF HR6.out HB6.out).1 k_ hk_.symm); (case aO => exact Kd.S_mono (Kd.S_elder' (Kd.S_below HS.out (zzA (Below.refl _ _) _)) (Kd.R_base HR6.out) HB6.out) (fun k_ hk => ⟨trivial, fun e_ => hk.2 e_⟩)); (case aS => have := HBW.out.size; have := HB6.out.size; simp at this; omega); (case aL => have := HL64.out; have := HAL.out; have := HLT.out; omega); intro v7 w7 hS7 hB7 hg7 hat7; have HS7 := Aside0.mk hS7; have HB7 := Aside0.mk hB7; clear hS7 hB7 hg7 hat7))
            have hbw := HBW.out.size
            exact ⟨⟨j + 1, acc ++ [b1], by (try rw [wrap64_of (show I64 ((j : Int) + 1) by have := HL64.out; have := HLT.out; unfold I64; omega)]); rfl, ⟨HLT.out⟩, ⟨by rw [List.length_append, HAL.out]; rfl⟩, ⟨HGO.out⟩, HS7, ⟨(below_then (zzA HBW.out _) (by simp; omega) HB6.out).trans HB7.out⟩⟩, by have := HL64.out; have := HLT.out; (try rw [wrap64_of (show I64 ((j : Int) + 1) by unfold I64; omega)]); simp [intOf]; omega⟩
          · rw [rowsFrom_bad (g := fun s : S26 => bendN R0 L0 ((m : Int) - 1) s.f0 s.f1 a2) (by rw [hb12]; exact cb)] at hgo
            rw [hb12] at hgo
            obtain ⟨g1, g2⟩ : [] = q1 ∧ b2 = q2 := by cases hgo; exact ⟨rfl, rfl⟩
            subst g1
            subst g2
            have hend := HEND.out
            rw [if_neg cb] at hend
            obtain ⟨h1, h2⟩ : [] = r1 ∧ b2 = r2 := by cases hend; exact ⟨rfl, rfl⟩
            subst h1
            subst h2
            have he0 : (b2 == 0) = false := beq_eq_false_iff_ne.2 cb
            have he1 : (b2 != 0) = true := bne_iff_ne.2 cb
            clear hi hl hx hmem hxv hgo hab hb12 hj hal hyb cb hend
            go_wp2_with (go_at_call 45; (with_reducible refine (HBD.out Ar A cr cx x.f0 x.f1 b1 b2 _ (ccA (Kd.C_below HCD.out HBR.out) _) (ccA HCW.out _) HKR.out (ccA (Kd.C_below HXI.out HBR.out) _) HXL.out AB.out).mono ?_); rintro ed W6 ⟨v6, rfl, hR6, hb6⟩; obtain ⟨A6, c6, e6⟩ := Kd.R_slice hR6; subst e6; have HR6 := Aside0.mk hR6; have HB6 := Aside0.mk hb6; clear hR6 hb6)
            go_ret2
            exact ⟨_, rfl, Kd.R_nil _ _ _ _ _, below_then (zzA HBR.out _) (by have := HBR.out.size; simp; omega) HB6.out⟩
        · have hjl : j = l3.length := by omega
          rw [hjl, List.drop_length, rowsFrom_nil] at hgo
          obtain ⟨g1, g2⟩ : acc = q1 ∧ 0 = q2 := by cases hgo; exact ⟨rfl, rfl⟩
          subst g1
          subst g2
          have hend := HEND.out
          rw [if_pos rfl] at hend
          have hml : I64 (l3.length : Int) := by have := HL64.out; unfold I64; omega
          have AM := Aside0.mk ((linear_Mean.of (l3.length : Int) acc ⟨hml, HFQ.out.1, HFQ.out.2⟩).trans (congrArg some hend))
          subst hjl
          clear hgo hend hml hal hj hlt
          go_wp2_with (go_at_call 46; (with_reducible refine (linear_Mean.calls (l3.length : Int) As cs acc r1 r2 _ (Kd.S_reads' HS.out).2.2 (Kd.S_reads' HS.out).2.1 AM.out).mono ?_); rintro ed W8 ⟨v_, rfl, hR, hb⟩; have HO := Aside0.mk (Kd.R_lower hR HBR.out.size); have HB8 := Aside0.mk (below_then HBR.out HBR.out.size hb); clear hR hb; obtain ⟨Ao, co, eo⟩ := Kd.R_slice HO.out; subst eo)
          go_ret2
          exact ⟨_, rfl, HO.out, HB8.out⟩
    · rw [if_pos cc] at h
      obtain ⟨h1, h2⟩ : [] = r1 ∧ ce = r2 := by cases h; exact ⟨rfl, rfl⟩
      subst h1
      subst h2
      have he0 : (ce == 0) = false := beq_eq_false_iff_ne.2 cc
      have he1 : (ce != 0) = true := bne_iff_ne.2 cc
      clear h cc hcf
      go_enter Try.func27, Try.ntmps27
      go_wp2_with (first | (go_at_call 30; (with_reducible refine HSP.out.mono ?_); rintro e w1 ⟨v0, rfl, hS, hb⟩; have hcu := HCU.out w1 v0 w.heap.size hS hb; obtain ⟨Ar, cr, rfl, hcr, hCr⟩ := hcu; have HCR := Aside0.mk hCr; have HKR := Aside0.mk hcr; have HB := Aside0.mk hb; clear hS hb hCr hcr) | (go_at_call 25; (with_reducible refine (mlp_Check.calls ((m : Int) - 1) k (some ad) c1 l1 A3 c3 l3 ce _ (ccA (Kd.C_below HR1.out HB.out) _) HC1.out (ccA (Kd.C_below HR3.out HB.out) _) HC3.out AC.out).mono ?_); rintro e W1 ⟨rfl, hb2⟩; have HB1 := Aside0.mk hb2; have HBC := Aside0.mk (below_then (zzA HB.out _) (Nat.le_trans HB.out.size (by simp)) hb2); have BX1 := Aside0.mk (blk_below (blk_new w1 (Obj.cells #[.slice (some (ad.add p)) (k + 1) (c1 - p), .slice Ar k cr, .int .i64 ((m : Int) - 1)] 54)) hb2); clear hb2))
      go_ret2
      exact ⟨_, rfl, Kd.R_nil _ _ _ _ _, HBC.out⟩
  · rw [if_pos c] at h
    have HSP := Aside0.mk (mlp_split.bad a0 A1 c1 l1 w hr1 hc1 c)
    obtain ⟨h1, h2⟩ : [] = r1 ∧ (splitM a0 l1).2.2 = r2 := by cases h; exact ⟨rfl, rfl⟩
    subst h1
    subst h2
    generalize (splitM a0 l1).2.2 = e at HSP c ⊢
    have he0 : (e == 0) = false := beq_eq_false_iff_ne.2 c
    have he1 : (e != 0) = true := bne_iff_ne.2 c
    clear h hr1 hc1 hr3 hc3 c hv
    go_enter Try.func27, Try.ntmps27
    go_wp2_with (go_at_call 30; (with_reducible refine HSP.out.mono ?_); rintro e w1 ⟨rfl, hb⟩; have HB := Aside0.mk hb; clear hb)
    go_ret2
    exact ⟨_, rfl, Kd.R_nil _ _ _ _ _, zzA HB.out _⟩




















































































































































































































































































































































































































































































































































































































































































































































































































































































































































































































































end Go.Proofs.Ytalamamjodihaaa.HR
