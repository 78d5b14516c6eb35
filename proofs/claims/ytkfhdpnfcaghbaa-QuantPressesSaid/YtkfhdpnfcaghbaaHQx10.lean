/- What Go functions do, each as a plain Lean function with the same answers, and the proof of it, in every world: printed by the session's driver over the kit's print, with texts by hand. -/
import Derived.Test.YtkfhdpnfcaghbaaHQx0
import Derived.Test.YtkfhdpnfcaghbaaHQx4
import Derived.Test.YtkfhdpnfcaghbaaHQx9
import Derived.Test.YtkfhdpnfcaghbaaMini
namespace Go.Proofs.Ytkfhdpnfcaghbaa.HQ
open Go.RowKit Go.Proofs.YtkfhdpnfcaghbaaW.PrintWords Go.Proofs.YtkfhdpnfcaghbaaW.PrintLast Go.Proofs.YtkfhdpnfcaghbaaW.PrintMore
attribute [local go_sem] max2_int min2_int max_two min_two max_three min_three max_four min_four   -- for this text's walks alone
open Go.Proofs.Ytkfhdpnfcaghbaa.Sp
attribute [local go_sem] Go.Proofs.Ytkfhdpnfcaghbaa.Sp.u64_not
set_option linter.unusedVariables false
set_option linter.unusedSimpArgs false

/-! ### quant_Near: function 58 -/
/-- Whether a number is not pressed so: its level lv, its sign ng. -/
def offN (m wd x lv : Int) (ng : Bool) : Bool :=
  decide ((levelF x m wd).2.2 ≠ 0) || (ng != decide (x < 0)) || decide (IntKind.u64.wrap (lv - (levelF x m wd).1) > 1) || (IntKind.u64.wrap (lv - (levelF x m wd).1) == 1 && (levelF x m wd).2.1 == 0)
def nearGo (m wd : Int) (v l6 : List Int) (l7 : List Bool) : Nat → Nat → Bool
  | 0, _ => true
  | d + 1, i => if offN m wd (rd v (i : Int)) (rd l6 (i : Int)) (rdOf false l7 (i : Int)) = true then false else nearGo m wd v l6 l7 d (i + 1)
set_option maxHeartbeats 4000000 in
set_option maxRecDepth 100000 in
theorem quant_Near_1.calls (bV bM bS : Nat) (A0 : Option Addr) (c0 : Nat) (l0 : List Int) (m a0 a1 a4 a5 : Int) (v2 v3 : Value) (A6 : Option Addr) (c6 : Nat) (l6 : List Int) (A7 : Option Addr) (c7 : Nat) (l7 : List Bool) (i : Nat) (W : World)
    (hV : W.heap[bV]? = some (.cells #[.slice A0 l0.length c0] 27 (0, 0))) (hM : W.heap[bM]? = some (.cells #[.int .i64 m] 2 (0, 0)))
    (hS : W.heap[bS]? = some (.cells #[.int .i64 a0, .int .i64 a1, v2, v3, .int .i64 a4, .int .i64 a5, .slice A6 l6.length c6, .slice A7 l7.length c7] 30 (0, 0)))
    (h0 : Kd.C (Kd.int .i64) W A0 l0.length l0) (h6 : Kd.C (Kd.int .u64) W A6 l6.length l6) (h7 : Kd.C Kd.bool W A7 l7.length l7)
    (hi : i < l0.length) (hi6 : i < l6.length) (hi7 : i < l7.length) (hv : V64 l0) (hm : I64 m) :
    Calls Try.prog 93 (#[.int .i64 i] ++ #[.pointer (some ⟨bV, 0, none⟩), .pointer (some ⟨bM, 0, none⟩), .pointer (some ⟨bS, 0, none⟩)]) W fun ed W' => ed = .returned (.bool (offN m a5 (rd l0 i) (rd l6 i) (rdOf false l7 i))) ∧ Below W.heap.size W W' := by
 have hu := Try.underlying30
 have hmx := Kd.C_max h0
 obtain ⟨ad, rfl, hx⟩ := Kd.at_int h0 (i : Int) (by omega) (by omega)
 obtain ⟨ae, rfl, hy⟩ := Kd.at_int h6 (i : Int) (by omega) (by omega)
 obtain ⟨af, rfl, hz⟩ := Kd.at_bool h7 (i : Int) (by omega) (by omega)
 obtain ⟨x, hxe⟩ : ∃ x, rd l0 (i : Int) = x := ⟨_, rfl⟩
 obtain ⟨y, hye⟩ : ∃ y, rd l6 (i : Int) = y := ⟨_, rfl⟩
 obtain ⟨z, hze⟩ : ∃ z, rdOf false l7 (i : Int) = z := ⟨_, rfl⟩
 have hxi : I64 x := by rw [← hxe, rd_nat hi]; exact hv _ (List.getElem_mem hi)
 rw [hxe] at hx ⊢
 rw [hye] at hy ⊢
 rw [hze] at hz ⊢
 simp only [Int.toNat_natCast] at hx hy hz
 obtain ⟨⟨a, b, e⟩, hl⟩ : ∃ p, levelF x m a5 = p := ⟨_, rfl⟩
 have A1 : Aside0 (quant_Level.f x m a5 = some (a, b, e)) := ⟨(show quant_Level.f x m a5 = some (levelF x m a5) from if_pos ⟨hxi, hm⟩).trans (congrArg some hl)⟩
 unfold offN
 rw [hl]
 have hcV : W.cell? ⟨bV, 0, none⟩ = some (.slice (some ad) l0.length c0) := (blk_cell hV 0).trans rfl
 have hcM : W.cell? ⟨bM, 0, none⟩ = some (.int .i64 m) := (blk_cell hM 0).trans rfl
 have hcW : W.cell? ⟨bS, 5, none⟩ = some (.int .i64 a5) := (blk_cell hS 5).trans rfl
 have hcL : W.cell? ⟨bS, 6, none⟩ = some (.slice (some ae) l6.length c6) := (blk_cell hS 6).trans rfl
 have hcN : W.cell? ⟨bS, 7, none⟩ = some (.slice (some af) l7.length c7) := (blk_cell hS 7).trans rfl
 have p0 : decide ((i : Int) < (l0.length : Int)) = true := decide_eq_true (by omega)
 have p6 : decide ((i : Int) < (l6.length : Int)) = true := decide_eq_true (by omega)
 have p7 : decide ((i : Int) < (l7.length : Int)) = true := decide_eq_true (by omega)
 have pp : decide (0 ≤ (i : Int)) = true := decide_eq_true (by omega)
 have q0 := of_decide_eq_true p0
 have q6 := of_decide_eq_true p6
 have q7 := of_decide_eq_true p7
 have qq := of_decide_eq_true pp
 clear hV hM hS h0 h6 h7 hi hi6 hi7 hv hm hxe hye hze hxi hl hmx
 obtain ⟨u, hu_⟩ : ∃ u, IntKind.u64.wrap (y - a) = u := ⟨_, rfl⟩
 dsimp only
 rw [hu_]
 have hcx : IntKind.u64.wrap (y - a) = u := hu_
 by_cases ce : e = 0
 · subst ce
   rw [show decide ((0 : Int) ≠ 0) = false from rfl, Bool.false_or]
   by_cases cz : (z != decide (x < 0)) = true
   · have cz1 : decide (z = decide (x < 0)) = false := by simpa using cz
     have cz2 : (z == decide (x < 0)) = false := by simpa using cz
     have cz3 : ¬ (z = decide (x < 0)) := by simpa using cz
     rw [cz, Bool.true_or, Bool.true_or]
     go_enter Try.func93, Try.ntmps93
     go_wp2_with fail
     go_region_held3 (fun w' => w'.cell? ⟨bV, 0, none⟩ = some (.slice (some ad) l0.length c0) ∧ w'.cell? ⟨bM, 0, none⟩ = some (.int .i64 m) ∧ w'.cell? ⟨bS, 5, none⟩ = some (.int .i64 a5) ∧ w'.cell? (ad.add i) = some (.int .i64 x)) (first | go_keep) ((go_at_call 47; (with_reducible refine (quant_Level.calls x m a5 a b 0 _ A1.out).mono ?_); rintro ed W2 ⟨rfl, ⟨nd, rfl⟩⟩))
     go_wp2_with fail
     refine start_ (n := 28) (S := fun w' => w'.cell? ⟨bV, 0, none⟩ = some (.slice (some ad) l0.length c0) ∧ w'.cell? ⟨bS, 7, none⟩ = some (.slice (some af) l7.length c7) ∧ w'.cell? (af.add i) = some (.bool z) ∧ w'.cell? (ad.add i) = some (.int .i64 x)) (ds := []) #[false, false, false, false, false, false, false, false, false, false, false, false, false, false, false, false, false, false, false, false, false, false, false, false, false, false, false, false] (by kernel_rfl) rfl rfl ⟨by go_simp, by go_simp, by go_simp, by go_simp⟩ (fun hHeld => ?_)
     refine pure_ (i := 0) (N := some 29) (v := ?_) (a' := ?_) #[true, false, false, false, false, false, false, false, false, false, false, false, false, false, false, false, false, false, false, false, false, false, false, false, false, false, false, false] rfl rfl (by kernel_rfl) (fun _ _ _ h => h) (Or.inl ⟨by rfl, ?_⟩) ?_ ?_
     rotate_left
     · intro w'
       go_simp
       with_reducible rfl
     rotate_left
     · simp only [Act.put, Zs]
       rfl
     refine pure_ (i := 1) (N := some 30) (v := ?_) (a' := ?_) #[true, true, false, false, false, false, false, false, false, false, false, false, false, false, false, false, false, false, false, false, false, false, false, false, false, false, false, false] rfl rfl (by kernel_rfl) (fun _ _ _ h => h) (Or.inl ⟨by rfl, ?_⟩) ?_ ?_
     rotate_left
     · intro w'
       go_simp
       with_reducible rfl
     rotate_left
     · simp only [Act.put, Zs]
       rfl
     refine pure_ (i := 2) (N := some 31) (v := ?_) (a' := ?_) #[true, true, true, false, false, false, false, false, false, false, false, false, false, false, false, false, false, false, false, false, false, false, false, false, false, false, false, false] rfl rfl (by kernel_rfl) (fun _ _ _ h => h) (Or.inl ⟨by rfl, ?_⟩) ?_ ?_
     rotate_left
     · intro w'
       go_simp
       with_reducible rfl
     rotate_left
     · simp only [Act.put, Zs]
       rfl
     refine pure_ (i := 3) (N := some 32) (v := ?_) (a' := ?_) #[true, true, true, true, false, false, false, false, false, false, false, false, false, false, false, false, false, false, false, false, false, false, false, false, false, false, false, false] rfl rfl (by kernel_rfl) (fun _ _ _ h => h) (Or.inl ⟨by rfl, ?_⟩) ?_ ?_
     rotate_left
     · intro w'
       go_simp
       with_reducible rfl
     rotate_left
     · simp only [Act.put, Zs]
       rfl
     refine pure_ (i := 5) (N := some 34) (v := ?_) (a' := ?_) #[true, true, true, true, false, true, false, false, false, false, false, false, false, false, false, false, false, false, false, false, false, false, false, false, false, false, false, false] rfl rfl (by kernel_rfl) (fun _ _ _ h => h) (Or.inl ⟨by rfl, ?_⟩) ?_ ?_
     rotate_left
     · intro w'
       go_simp
       with_reducible rfl
     rotate_left
     · simp only [Act.put, Zs]
       rfl
     refine pure_ (i := 9) (N := some 38) (v := ?_) (a' := ?_) #[true, true, true, true, false, true, false, false, false, true, false, false, false, false, false, false, false, false, false, false, false, false, false, false, false, false, false, false] rfl rfl (by kernel_rfl) (fun _ _ _ h => h) (Or.inl ⟨by rfl, ?_⟩) ?_ ?_
     rotate_left
     · intro w'
       go_simp
       with_reducible rfl
     rotate_left
     · simp only [Act.put, Zs]
       rfl
     refine take_ (i := 4) (N := some 33) (v := ?_) (a' := ?_) #[true, true, true, true, true, true, false, false, false, true, false, false, false, false, false, false, false, false, false, false, false, false, false, false, false, false, false, false] rfl rfl (by kernel_rfl) (fun _ _ _ h => h) (Or.inl ⟨by rfl, ?_⟩) hHeld ?_ ?_
     rotate_left
     · rintro w' ⟨s0, s1, s2, s3⟩
       go_simp
       with_reducible rfl
     rotate_left
     · simp only [Act.put, Zs]
       rfl
     refine pure_ (i := 6) (N := some 35) (v := ?_) (a' := ?_) #[true, true, true, true, true, true, true, false, false, true, false, false, false, false, false, false, false, false, false, false, false, false, false, false, false, false, false, false] rfl rfl (by kernel_rfl) (fun _ _ _ h => h) (Or.inl ⟨by rfl, ?_⟩) ?_ ?_
     rotate_left
     · intro w'
       go_simp
       with_reducible rfl
     rotate_left
     · simp only [Act.put, Zs]
       rfl
     refine take_ (i := 7) (N := some 36) (v := ?_) (a' := ?_) #[true, true, true, true, true, true, true, true, false, true, false, false, false, false, false, false, false, false, false, false, false, false, false, false, false, false, false, false] rfl rfl (by kernel_rfl) (fun _ _ _ h => h) (Or.inl ⟨by rfl, ?_⟩) hHeld ?_ ?_
     rotate_left
     · rintro w' ⟨s0, s1, s2, s3⟩
       go_simp
       with_reducible rfl
     rotate_left
     · simp only [Act.put, Zs]
       rfl
     refine take_ (i := 8) (N := some 37) (v := ?_) (a' := ?_) #[true, true, true, true, true, true, true, true, true, true, false, false, false, false, false, false, false, false, false, false, false, false, false, false, false, false, false, false] rfl rfl (by kernel_rfl) (fun _ _ _ h => h) (Or.inl ⟨by rfl, ?_⟩) hHeld ?_ ?_
     rotate_left
     · rintro w' ⟨s0, s1, s2, s3⟩
       go_simp
       with_reducible rfl
     rotate_left
     · simp only [Act.put, Zs]
       rfl
     refine pure_ (i := 10) (N := some 39) (v := ?_) (a' := ?_) #[true, true, true, true, true, true, true, true, true, true, true, false, false, false, false, false, false, false, false, false, false, false, false, false, false, false, false, false] rfl rfl (by kernel_rfl) (fun _ _ _ h => h) (Or.inl ⟨by rfl, ?_⟩) ?_ ?_
     rotate_left
     · intro w'
       go_simp
       with_reducible rfl
     rotate_left
     · simp only [Act.put, Zs]
       rfl
     refine take_ (i := 11) (N := some 40) (v := ?_) (a' := ?_) #[true, true, true, true, true, true, true, true, true, true, true, true, false, false, false, false, false, false, false, false, false, false, false, false, false, false, false, false] rfl rfl (by kernel_rfl) (fun _ _ _ h => h) (Or.inl ⟨by rfl, ?_⟩) hHeld ?_ ?_
     rotate_left
     · rintro w' ⟨s0, s1, s2, s3⟩
       go_simp
       with_reducible rfl
     rotate_left
     · simp only [Act.put, Zs]
       rfl
     refine pure_ (i := 12) (N := some 41) (v := ?_) (a' := ?_) #[true, true, true, true, true, true, true, true, true, true, true, true, true, false, false, false, false, false, false, false, false, false, false, false, false, false, false, false] rfl rfl (by kernel_rfl) (fun _ _ _ h => h) (Or.inl ⟨by rfl, ?_⟩) ?_ ?_
     rotate_left
     · intro w'
       go_simp
       with_reducible rfl
     rotate_left
     · simp only [Act.put, Zs]
       rfl
     refine pure_ (i := 13) (N := some 42) (v := ?_) (a' := ?_) #[true, true, true, true, true, true, true, true, true, true, true, true, true, true, false, false, false, false, false, false, false, false, false, false, false, false, false, false] rfl rfl (by kernel_rfl) (fun _ _ _ h => h) (Or.inl ⟨by rfl, ?_⟩) ?_ ?_
     rotate_left
     · intro w'
       go_simp
       with_reducible rfl
     rotate_left
     · simp only [Act.put, Zs]
       rfl
     refine pure_ (i := 14) (N := some 43) (v := ?_) (a' := ?_) #[true, true, true, true, true, true, true, true, true, true, true, true, true, true, true, false, false, false, false, false, false, false, false, false, false, false, false, false] rfl rfl (by kernel_rfl) (fun _ _ _ h => h) (Or.inl ⟨by rfl, ?_⟩) ?_ ?_
     rotate_left
     · intro w'
       go_simp
       with_reducible rfl
     rotate_left
     · simp only [Act.put, Zs]
       rfl
     refine pure_ (i := 15) (N := some 44) (v := ?_) (a' := ?_) #[true, true, true, true, true, true, true, true, true, true, true, true, true, true, true, true, false, false, false, false, false, false, false, false, false, false, false, false] rfl rfl (by kernel_rfl) (fun _ _ _ h => h) (Or.inl ⟨by rfl, ?_⟩) ?_ ?_
     rotate_left
     · intro w'
       go_simp
       with_reducible rfl
     rotate_left
     · simp only [Act.put, Zs]
       rfl
     refine pure_ (i := 16) (N := some 45) (v := undef) (a' := ?_) #[true, true, true, true, true, true, true, true, true, true, true, true, true, true, true, true, true, false, false, false, false, false, false, false, false, false, false, false] rfl rfl (by kernel_rfl) (fun _ _ _ h => h) (Or.inr ⟨by rfl, rfl⟩) ?_ ?_
     rotate_left
     · simp only [Act.put, Zs]
       rfl
     refine pure_ (i := 17) (N := some 46) (v := undef) (a' := ?_) #[true, true, true, true, true, true, true, true, true, true, true, true, true, true, true, true, true, true, false, false, false, false, false, false, false, false, false, false] rfl rfl (by kernel_rfl) (fun _ _ _ h => h) (Or.inr ⟨by rfl, rfl⟩) ?_ ?_
     rotate_left
     · simp only [Act.put, Zs]
       rfl
     refine pure_ (i := 18) (N := some 47) (v := ?_) (a' := ?_) #[true, true, true, true, true, true, true, true, true, true, true, true, true, true, true, true, true, true, true, false, false, false, false, false, false, false, false, false] rfl rfl (by kernel_rfl) (fun _ _ _ h => h) (Or.inl ⟨by rfl, ?_⟩) ?_ ?_
     rotate_left
     · intro w'
       go_simp
       with_reducible rfl
     rotate_left
     · simp only [Act.put, Zs]
       rfl
     refine pure_ (i := 19) (N := some 48) (v := ?_) (a' := ?_) #[true, true, true, true, true, true, true, true, true, true, true, true, true, true, true, true, true, true, true, true, false, false, false, false, false, false, false, false] rfl rfl (by kernel_rfl) (fun _ _ _ h => h) (Or.inl ⟨by rfl, ?_⟩) ?_ ?_
     rotate_left
     · intro w'
       go_simp
       with_reducible rfl
     rotate_left
     · simp only [Act.put, Zs]
       rfl
     refine pure_ (i := 20) (N := some 49) (v := undef) (a' := ?_) #[true, true, true, true, true, true, true, true, true, true, true, true, true, true, true, true, true, true, true, true, true, false, false, false, false, false, false, false] rfl rfl (by kernel_rfl) (fun _ _ _ h => h) (Or.inr ⟨by rfl, rfl⟩) ?_ ?_
     rotate_left
     · simp only [Act.put, Zs]
       rfl
     refine pure_ (i := 21) (N := some 50) (v := undef) (a' := ?_) #[true, true, true, true, true, true, true, true, true, true, true, true, true, true, true, true, true, true, true, true, true, true, false, false, false, false, false, false] rfl rfl (by kernel_rfl) (fun _ _ _ h => h) (Or.inr ⟨by rfl, rfl⟩) ?_ ?_
     rotate_left
     · simp only [Act.put, Zs]
       rfl
     refine pure_ (i := 22) (N := some 51) (v := undef) (a' := ?_) #[true, true, true, true, true, true, true, true, true, true, true, true, true, true, true, true, true, true, true, true, true, true, true, false, false, false, false, false] rfl rfl (by kernel_rfl) (fun _ _ _ h => h) (Or.inr ⟨by rfl, rfl⟩) ?_ ?_
     rotate_left
     · simp only [Act.put, Zs]
       rfl
     refine pure_ (i := 23) (N := some 52) (v := undef) (a' := ?_) #[true, true, true, true, true, true, true, true, true, true, true, true, true, true, true, true, true, true, true, true, true, true, true, true, false, false, false, false] rfl rfl (by kernel_rfl) (fun _ _ _ h => h) (Or.inr ⟨by rfl, rfl⟩) ?_ ?_
     rotate_left
     · simp only [Act.put, Zs]
       rfl
     refine pure_ (i := 24) (N := some 53) (v := undef) (a' := ?_) #[true, true, true, true, true, true, true, true, true, true, true, true, true, true, true, true, true, true, true, true, true, true, true, true, true, false, false, false] rfl rfl (by kernel_rfl) (fun _ _ _ h => h) (Or.inr ⟨by rfl, rfl⟩) ?_ ?_
     rotate_left
     · simp only [Act.put, Zs]
       rfl
     refine pure_ (i := 25) (N := some 54) (v := undef) (a' := ?_) #[true, true, true, true, true, true, true, true, true, true, true, true, true, true, true, true, true, true, true, true, true, true, true, true, true, true, false, false] rfl rfl (by kernel_rfl) (fun _ _ _ h => h) (Or.inr ⟨by rfl, rfl⟩) ?_ ?_
     rotate_left
     · simp only [Act.put, Zs]
       rfl
     refine pure_ (i := 26) (N := some 55) (v := ?_) (a' := ?_) #[true, true, true, true, true, true, true, true, true, true, true, true, true, true, true, true, true, true, true, true, true, true, true, true, true, true, true, false] rfl rfl (by kernel_rfl) (fun _ _ _ h => h) (Or.inl ⟨by rfl, ?_⟩) ?_ ?_
     rotate_left
     · intro w'
       go_simp
       with_reducible rfl
     rotate_left
     · simp only [Act.put, Zs]
       rfl
     refine pure_ (i := 27) (N := some 5) (v := ?_) (a' := ?_) #[true, true, true, true, true, true, true, true, true, true, true, true, true, true, true, true, true, true, true, true, true, true, true, true, true, true, true, true] rfl rfl (by kernel_rfl) (fun _ _ _ h => h) (Or.inl ⟨by rfl, ?_⟩) ?_ ?_
     rotate_left
     · intro w'
       go_simp
       with_reducible rfl
     rotate_left
     · simp only [Act.put, Zs]
       rfl
     refine done_ (by kernel_rfl) ?_
     go_wp2_with fail
     go_ret
     exact ⟨rfl, by repeat (first | exact Below.refl _ _ | apply zzN | apply zzD)⟩
   · replace cz : (z != decide (x < 0)) = false := Bool.eq_false_iff.2 cz
     have cz1 : decide (z = decide (x < 0)) = true := by simpa using cz
     have cz2 : (z == decide (x < 0)) = true := by simpa using cz
     rw [cz, Bool.false_or]
     by_cases c1 : u > 1
     · have c1b : decide (1 < u) = true := decide_eq_true c1
       rw [show decide (u > 1) = true from c1b, Bool.true_or]
       clear c1
       go_enter Try.func93, Try.ntmps93
       go_wp2_with fail
       go_region_held3 (fun w' => w'.cell? ⟨bV, 0, none⟩ = some (.slice (some ad) l0.length c0) ∧ w'.cell? ⟨bM, 0, none⟩ = some (.int .i64 m) ∧ w'.cell? ⟨bS, 5, none⟩ = some (.int .i64 a5) ∧ w'.cell? (ad.add i) = some (.int .i64 x)) (first | go_keep) ((go_at_call 47; (with_reducible refine (quant_Level.calls x m a5 a b 0 _ A1.out).mono ?_); rintro ed W2 ⟨rfl, ⟨nd, rfl⟩⟩))
       go_wp2_with fail
       refine start_ (n := 28) (S := fun w' => w'.cell? ⟨bV, 0, none⟩ = some (.slice (some ad) l0.length c0) ∧ w'.cell? ⟨bS, 7, none⟩ = some (.slice (some af) l7.length c7) ∧ w'.cell? (af.add i) = some (.bool z) ∧ w'.cell? (ad.add i) = some (.int .i64 x)) (ds := []) #[false, false, false, false, false, false, false, false, false, false, false, false, false, false, false, false, false, false, false, false, false, false, false, false, false, false, false, false] (by kernel_rfl) rfl rfl ⟨by go_simp, by go_simp, by go_simp, by go_simp⟩ (fun hHeld => ?_)
       refine pure_ (i := 0) (N := some 29) (v := ?_) (a' := ?_) #[true, false, false, false, false, false, false, false, false, false, false, false, false, false, false, false, false, false, false, false, false, false, false, false, false, false, false, false] rfl rfl (by kernel_rfl) (fun _ _ _ h => h) (Or.inl ⟨by rfl, ?_⟩) ?_ ?_
       rotate_left
       · intro w'
         go_simp
         with_reducible rfl
       rotate_left
       · simp only [Act.put, Zs]
         rfl
       refine pure_ (i := 1) (N := some 30) (v := ?_) (a' := ?_) #[true, true, false, false, false, false, false, false, false, false, false, false, false, false, false, false, false, false, false, false, false, false, false, false, false, false, false, false] rfl rfl (by kernel_rfl) (fun _ _ _ h => h) (Or.inl ⟨by rfl, ?_⟩) ?_ ?_
       rotate_left
       · intro w'
         go_simp
         with_reducible rfl
       rotate_left
       · simp only [Act.put, Zs]
         rfl
       refine pure_ (i := 2) (N := some 31) (v := ?_) (a' := ?_) #[true, true, true, false, false, false, false, false, false, false, false, false, false, false, false, false, false, false, false, false, false, false, false, false, false, false, false, false] rfl rfl (by kernel_rfl) (fun _ _ _ h => h) (Or.inl ⟨by rfl, ?_⟩) ?_ ?_
       rotate_left
       · intro w'
         go_simp
         with_reducible rfl
       rotate_left
       · simp only [Act.put, Zs]
         rfl
       refine pure_ (i := 3) (N := some 32) (v := ?_) (a' := ?_) #[true, true, true, true, false, false, false, false, false, false, false, false, false, false, false, false, false, false, false, false, false, false, false, false, false, false, false, false] rfl rfl (by kernel_rfl) (fun _ _ _ h => h) (Or.inl ⟨by rfl, ?_⟩) ?_ ?_
       rotate_left
       · intro w'
         go_simp
         with_reducible rfl
       rotate_left
       · simp only [Act.put, Zs]
         rfl
       refine pure_ (i := 5) (N := some 34) (v := ?_) (a' := ?_) #[true, true, true, true, false, true, false, false, false, false, false, false, false, false, false, false, false, false, false, false, false, false, false, false, false, false, false, false] rfl rfl (by kernel_rfl) (fun _ _ _ h => h) (Or.inl ⟨by rfl, ?_⟩) ?_ ?_
       rotate_left
       · intro w'
         go_simp
         with_reducible rfl
       rotate_left
       · simp only [Act.put, Zs]
         rfl
       refine pure_ (i := 9) (N := some 38) (v := ?_) (a' := ?_) #[true, true, true, true, false, true, false, false, false, true, false, false, false, false, false, false, false, false, false, false, false, false, false, false, false, false, false, false] rfl rfl (by kernel_rfl) (fun _ _ _ h => h) (Or.inl ⟨by rfl, ?_⟩) ?_ ?_
       rotate_left
       · intro w'
         go_simp
         with_reducible rfl
       rotate_left
       · simp only [Act.put, Zs]
         rfl
       refine take_ (i := 4) (N := some 33) (v := ?_) (a' := ?_) #[true, true, true, true, true, true, false, false, false, true, false, false, false, false, false, false, false, false, false, false, false, false, false, false, false, false, false, false] rfl rfl (by kernel_rfl) (fun _ _ _ h => h) (Or.inl ⟨by rfl, ?_⟩) hHeld ?_ ?_
       rotate_left
       · rintro w' ⟨s0, s1, s2, s3⟩
         go_simp
         with_reducible rfl
       rotate_left
       · simp only [Act.put, Zs]
         rfl
       refine pure_ (i := 6) (N := some 35) (v := ?_) (a' := ?_) #[true, true, true, true, true, true, true, false, false, true, false, false, false, false, false, false, false, false, false, false, false, false, false, false, false, false, false, false] rfl rfl (by kernel_rfl) (fun _ _ _ h => h) (Or.inl ⟨by rfl, ?_⟩) ?_ ?_
       rotate_left
       · intro w'
         go_simp
         with_reducible rfl
       rotate_left
       · simp only [Act.put, Zs]
         rfl
       refine take_ (i := 7) (N := some 36) (v := ?_) (a' := ?_) #[true, true, true, true, true, true, true, true, false, true, false, false, false, false, false, false, false, false, false, false, false, false, false, false, false, false, false, false] rfl rfl (by kernel_rfl) (fun _ _ _ h => h) (Or.inl ⟨by rfl, ?_⟩) hHeld ?_ ?_
       rotate_left
       · rintro w' ⟨s0, s1, s2, s3⟩
         go_simp
         with_reducible rfl
       rotate_left
       · simp only [Act.put, Zs]
         rfl
       refine take_ (i := 8) (N := some 37) (v := ?_) (a' := ?_) #[true, true, true, true, true, true, true, true, true, true, false, false, false, false, false, false, false, false, false, false, false, false, false, false, false, false, false, false] rfl rfl (by kernel_rfl) (fun _ _ _ h => h) (Or.inl ⟨by rfl, ?_⟩) hHeld ?_ ?_
       rotate_left
       · rintro w' ⟨s0, s1, s2, s3⟩
         go_simp
         with_reducible rfl
       rotate_left
       · simp only [Act.put, Zs]
         rfl
       refine pure_ (i := 10) (N := some 39) (v := ?_) (a' := ?_) #[true, true, true, true, true, true, true, true, true, true, true, false, false, false, false, false, false, false, false, false, false, false, false, false, false, false, false, false] rfl rfl (by kernel_rfl) (fun _ _ _ h => h) (Or.inl ⟨by rfl, ?_⟩) ?_ ?_
       rotate_left
       · intro w'
         go_simp
         with_reducible rfl
       rotate_left
       · simp only [Act.put, Zs]
         rfl
       refine take_ (i := 11) (N := some 40) (v := ?_) (a' := ?_) #[true, true, true, true, true, true, true, true, true, true, true, true, false, false, false, false, false, false, false, false, false, false, false, false, false, false, false, false] rfl rfl (by kernel_rfl) (fun _ _ _ h => h) (Or.inl ⟨by rfl, ?_⟩) hHeld ?_ ?_
       rotate_left
       · rintro w' ⟨s0, s1, s2, s3⟩
         go_simp
         with_reducible rfl
       rotate_left
       · simp only [Act.put, Zs]
         rfl
       refine pure_ (i := 12) (N := some 41) (v := ?_) (a' := ?_) #[true, true, true, true, true, true, true, true, true, true, true, true, true, false, false, false, false, false, false, false, false, false, false, false, false, false, false, false] rfl rfl (by kernel_rfl) (fun _ _ _ h => h) (Or.inl ⟨by rfl, ?_⟩) ?_ ?_
       rotate_left
       · intro w'
         go_simp
         with_reducible rfl
       rotate_left
       · simp only [Act.put, Zs]
         rfl
       refine pure_ (i := 13) (N := some 42) (v := ?_) (a' := ?_) #[true, true, true, true, true, true, true, true, true, true, true, true, true, true, false, false, false, false, false, false, false, false, false, false, false, false, false, false] rfl rfl (by kernel_rfl) (fun _ _ _ h => h) (Or.inl ⟨by rfl, ?_⟩) ?_ ?_
       rotate_left
       · intro w'
         go_simp
         with_reducible rfl
       rotate_left
       · simp only [Act.put, Zs]
         rfl
       refine pure_ (i := 14) (N := some 43) (v := ?_) (a' := ?_) #[true, true, true, true, true, true, true, true, true, true, true, true, true, true, true, false, false, false, false, false, false, false, false, false, false, false, false, false] rfl rfl (by kernel_rfl) (fun _ _ _ h => h) (Or.inl ⟨by rfl, ?_⟩) ?_ ?_
       rotate_left
       · intro w'
         go_simp
         with_reducible rfl
       rotate_left
       · simp only [Act.put, Zs]
         rfl
       refine pure_ (i := 15) (N := some 44) (v := ?_) (a' := ?_) #[true, true, true, true, true, true, true, true, true, true, true, true, true, true, true, true, false, false, false, false, false, false, false, false, false, false, false, false] rfl rfl (by kernel_rfl) (fun _ _ _ h => h) (Or.inl ⟨by rfl, ?_⟩) ?_ ?_
       rotate_left
       · intro w'
         go_simp
         with_reducible rfl
       rotate_left
       · simp only [Act.put, Zs]
         rfl
       refine pure_ (i := 16) (N := some 45) (v := ?_) (a' := ?_) #[true, true, true, true, true, true, true, true, true, true, true, true, true, true, true, true, true, false, false, false, false, false, false, false, false, false, false, false] rfl rfl (by kernel_rfl) (fun _ _ _ h => h) (Or.inl ⟨by rfl, ?_⟩) ?_ ?_
       rotate_left
       · intro w'
         go_simp
         with_reducible rfl
       rotate_left
       · simp only [Act.put, Zs]
         rfl
       refine pure_ (i := 17) (N := some 46) (v := ?_) (a' := ?_) #[true, true, true, true, true, true, true, true, true, true, true, true, true, true, true, true, true, true, false, false, false, false, false, false, false, false, false, false] rfl rfl (by kernel_rfl) (fun _ _ _ h => h) (Or.inl ⟨by rfl, ?_⟩) ?_ ?_
       rotate_left
       · intro w'
         go_simp
         with_reducible rfl
       rotate_left
       · simp only [Act.put, Zs]
         rfl
       refine pure_ (i := 18) (N := some 47) (v := ?_) (a' := ?_) #[true, true, true, true, true, true, true, true, true, true, true, true, true, true, true, true, true, true, true, false, false, false, false, false, false, false, false, false] rfl rfl (by kernel_rfl) (fun _ _ _ h => h) (Or.inl ⟨by rfl, ?_⟩) ?_ ?_
       rotate_left
       · intro w'
         go_simp
         with_reducible rfl
       rotate_left
       · simp only [Act.put, Zs]
         rfl
       refine pure_ (i := 19) (N := some 48) (v := ?_) (a' := ?_) #[true, true, true, true, true, true, true, true, true, true, true, true, true, true, true, true, true, true, true, true, false, false, false, false, false, false, false, false] rfl rfl (by kernel_rfl) (fun _ _ _ h => h) (Or.inl ⟨by rfl, ?_⟩) ?_ ?_
       rotate_left
       · intro w'
         go_simp
         with_reducible rfl
       rotate_left
       · simp only [Act.put, Zs]
         rfl
       refine pure_ (i := 20) (N := some 49) (v := undef) (a' := ?_) #[true, true, true, true, true, true, true, true, true, true, true, true, true, true, true, true, true, true, true, true, true, false, false, false, false, false, false, false] rfl rfl (by kernel_rfl) (fun _ _ _ h => h) (Or.inr ⟨by rfl, rfl⟩) ?_ ?_
       rotate_left
       · simp only [Act.put, Zs]
         rfl
       refine pure_ (i := 21) (N := some 50) (v := undef) (a' := ?_) #[true, true, true, true, true, true, true, true, true, true, true, true, true, true, true, true, true, true, true, true, true, true, false, false, false, false, false, false] rfl rfl (by kernel_rfl) (fun _ _ _ h => h) (Or.inr ⟨by rfl, rfl⟩) ?_ ?_
       rotate_left
       · simp only [Act.put, Zs]
         rfl
       refine pure_ (i := 22) (N := some 51) (v := undef) (a' := ?_) #[true, true, true, true, true, true, true, true, true, true, true, true, true, true, true, true, true, true, true, true, true, true, true, false, false, false, false, false] rfl rfl (by kernel_rfl) (fun _ _ _ h => h) (Or.inr ⟨by rfl, rfl⟩) ?_ ?_
       rotate_left
       · simp only [Act.put, Zs]
         rfl
       refine pure_ (i := 23) (N := some 52) (v := undef) (a' := ?_) #[true, true, true, true, true, true, true, true, true, true, true, true, true, true, true, true, true, true, true, true, true, true, true, true, false, false, false, false] rfl rfl (by kernel_rfl) (fun _ _ _ h => h) (Or.inr ⟨by rfl, rfl⟩) ?_ ?_
       rotate_left
       · simp only [Act.put, Zs]
         rfl
       refine pure_ (i := 24) (N := some 53) (v := undef) (a' := ?_) #[true, true, true, true, true, true, true, true, true, true, true, true, true, true, true, true, true, true, true, true, true, true, true, true, true, false, false, false] rfl rfl (by kernel_rfl) (fun _ _ _ h => h) (Or.inr ⟨by rfl, rfl⟩) ?_ ?_
       rotate_left
       · simp only [Act.put, Zs]
         rfl
       refine pure_ (i := 25) (N := some 54) (v := undef) (a' := ?_) #[true, true, true, true, true, true, true, true, true, true, true, true, true, true, true, true, true, true, true, true, true, true, true, true, true, true, false, false] rfl rfl (by kernel_rfl) (fun _ _ _ h => h) (Or.inr ⟨by rfl, rfl⟩) ?_ ?_
       rotate_left
       · simp only [Act.put, Zs]
         rfl
       refine pure_ (i := 26) (N := some 55) (v := ?_) (a' := ?_) #[true, true, true, true, true, true, true, true, true, true, true, true, true, true, true, true, true, true, true, true, true, true, true, true, true, true, true, false] rfl rfl (by kernel_rfl) (fun _ _ _ h => h) (Or.inl ⟨by rfl, ?_⟩) ?_ ?_
       rotate_left
       · intro w'
         go_simp
         with_reducible rfl
       rotate_left
       · simp only [Act.put, Zs]
         rfl
       refine pure_ (i := 27) (N := some 5) (v := ?_) (a' := ?_) #[true, true, true, true, true, true, true, true, true, true, true, true, true, true, true, true, true, true, true, true, true, true, true, true, true, true, true, true] rfl rfl (by kernel_rfl) (fun _ _ _ h => h) (Or.inl ⟨by rfl, ?_⟩) ?_ ?_
       rotate_left
       · intro w'
         go_simp
         with_reducible rfl
       rotate_left
       · simp only [Act.put, Zs]
         rfl
       refine done_ (by kernel_rfl) ?_
       go_wp2_with fail
       go_ret
       exact ⟨rfl, by repeat (first | exact Below.refl _ _ | apply zzN | apply zzD)⟩
     · have c1b : decide (1 < u) = false := decide_eq_false c1
       rw [show decide (u > 1) = false from c1b, Bool.false_or]
       clear c1
       by_cases c2 : u = 1
       · have c2b : (u == 1) = true := beq_iff_eq.2 c2
         rw [c2b, Bool.true_and]
         clear c2
         go_enter Try.func93, Try.ntmps93
         go_wp2_with fail
         go_region_held3 (fun w' => w'.cell? ⟨bV, 0, none⟩ = some (.slice (some ad) l0.length c0) ∧ w'.cell? ⟨bM, 0, none⟩ = some (.int .i64 m) ∧ w'.cell? ⟨bS, 5, none⟩ = some (.int .i64 a5) ∧ w'.cell? (ad.add i) = some (.int .i64 x)) (first | go_keep) ((go_at_call 47; (with_reducible refine (quant_Level.calls x m a5 a b 0 _ A1.out).mono ?_); rintro ed W2 ⟨rfl, ⟨nd, rfl⟩⟩))
         go_wp2_with fail
         refine start_ (n := 28) (S := fun w' => w'.cell? ⟨bV, 0, none⟩ = some (.slice (some ad) l0.length c0) ∧ w'.cell? ⟨bS, 7, none⟩ = some (.slice (some af) l7.length c7) ∧ w'.cell? (af.add i) = some (.bool z) ∧ w'.cell? (ad.add i) = some (.int .i64 x)) (ds := []) #[false, false, false, false, false, false, false, false, false, false, false, false, false, false, false, false, false, false, false, false, false, false, false, false, false, false, false, false] (by kernel_rfl) rfl rfl ⟨by go_simp, by go_simp, by go_simp, by go_simp⟩ (fun hHeld => ?_)
         refine pure_ (i := 0) (N := some 29) (v := ?_) (a' := ?_) #[true, false, false, false, false, false, false, false, false, false, false, false, false, false, false, false, false, false, false, false, false, false, false, false, false, false, false, false] rfl rfl (by kernel_rfl) (fun _ _ _ h => h) (Or.inl ⟨by rfl, ?_⟩) ?_ ?_
         rotate_left
         · intro w'
           go_simp
           with_reducible rfl
         rotate_left
         · simp only [Act.put, Zs]
           rfl
         refine pure_ (i := 1) (N := some 30) (v := ?_) (a' := ?_) #[true, true, false, false, false, false, false, false, false, false, false, false, false, false, false, false, false, false, false, false, false, false, false, false, false, false, false, false] rfl rfl (by kernel_rfl) (fun _ _ _ h => h) (Or.inl ⟨by rfl, ?_⟩) ?_ ?_
         rotate_left
         · intro w'
           go_simp
           with_reducible rfl
         rotate_left
         · simp only [Act.put, Zs]
           rfl
         refine pure_ (i := 2) (N := some 31) (v := ?_) (a' := ?_) #[true, true, true, false, false, false, false, false, false, false, false, false, false, false, false, false, false, false, false, false, false, false, false, false, false, false, false, false] rfl rfl (by kernel_rfl) (fun _ _ _ h => h) (Or.inl ⟨by rfl, ?_⟩) ?_ ?_
         rotate_left
         · intro w'
           go_simp
           with_reducible rfl
         rotate_left
         · simp only [Act.put, Zs]
           rfl
         refine pure_ (i := 3) (N := some 32) (v := ?_) (a' := ?_) #[true, true, true, true, false, false, false, false, false, false, false, false, false, false, false, false, false, false, false, false, false, false, false, false, false, false, false, false] rfl rfl (by kernel_rfl) (fun _ _ _ h => h) (Or.inl ⟨by rfl, ?_⟩) ?_ ?_
         rotate_left
         · intro w'
           go_simp
           with_reducible rfl
         rotate_left
         · simp only [Act.put, Zs]
           rfl
         refine pure_ (i := 5) (N := some 34) (v := ?_) (a' := ?_) #[true, true, true, true, false, true, false, false, false, false, false, false, false, false, false, false, false, false, false, false, false, false, false, false, false, false, false, false] rfl rfl (by kernel_rfl) (fun _ _ _ h => h) (Or.inl ⟨by rfl, ?_⟩) ?_ ?_
         rotate_left
         · intro w'
           go_simp
           with_reducible rfl
         rotate_left
         · simp only [Act.put, Zs]
           rfl
         refine pure_ (i := 9) (N := some 38) (v := ?_) (a' := ?_) #[true, true, true, true, false, true, false, false, false, true, false, false, false, false, false, false, false, false, false, false, false, false, false, false, false, false, false, false] rfl rfl (by kernel_rfl) (fun _ _ _ h => h) (Or.inl ⟨by rfl, ?_⟩) ?_ ?_
         rotate_left
         · intro w'
           go_simp
           with_reducible rfl
         rotate_left
         · simp only [Act.put, Zs]
           rfl
         refine take_ (i := 4) (N := some 33) (v := ?_) (a' := ?_) #[true, true, true, true, true, true, false, false, false, true, false, false, false, false, false, false, false, false, false, false, false, false, false, false, false, false, false, false] rfl rfl (by kernel_rfl) (fun _ _ _ h => h) (Or.inl ⟨by rfl, ?_⟩) hHeld ?_ ?_
         rotate_left
         · rintro w' ⟨s0, s1, s2, s3⟩
           go_simp
           with_reducible rfl
         rotate_left
         · simp only [Act.put, Zs]
           rfl
         refine pure_ (i := 6) (N := some 35) (v := ?_) (a' := ?_) #[true, true, true, true, true, true, true, false, false, true, false, false, false, false, false, false, false, false, false, false, false, false, false, false, false, false, false, false] rfl rfl (by kernel_rfl) (fun _ _ _ h => h) (Or.inl ⟨by rfl, ?_⟩) ?_ ?_
         rotate_left
         · intro w'
           go_simp
           with_reducible rfl
         rotate_left
         · simp only [Act.put, Zs]
           rfl
         refine take_ (i := 7) (N := some 36) (v := ?_) (a' := ?_) #[true, true, true, true, true, true, true, true, false, true, false, false, false, false, false, false, false, false, false, false, false, false, false, false, false, false, false, false] rfl rfl (by kernel_rfl) (fun _ _ _ h => h) (Or.inl ⟨by rfl, ?_⟩) hHeld ?_ ?_
         rotate_left
         · rintro w' ⟨s0, s1, s2, s3⟩
           go_simp
           with_reducible rfl
         rotate_left
         · simp only [Act.put, Zs]
           rfl
         refine take_ (i := 8) (N := some 37) (v := ?_) (a' := ?_) #[true, true, true, true, true, true, true, true, true, true, false, false, false, false, false, false, false, false, false, false, false, false, false, false, false, false, false, false] rfl rfl (by kernel_rfl) (fun _ _ _ h => h) (Or.inl ⟨by rfl, ?_⟩) hHeld ?_ ?_
         rotate_left
         · rintro w' ⟨s0, s1, s2, s3⟩
           go_simp
           with_reducible rfl
         rotate_left
         · simp only [Act.put, Zs]
           rfl
         refine pure_ (i := 10) (N := some 39) (v := ?_) (a' := ?_) #[true, true, true, true, true, true, true, true, true, true, true, false, false, false, false, false, false, false, false, false, false, false, false, false, false, false, false, false] rfl rfl (by kernel_rfl) (fun _ _ _ h => h) (Or.inl ⟨by rfl, ?_⟩) ?_ ?_
         rotate_left
         · intro w'
           go_simp
           with_reducible rfl
         rotate_left
         · simp only [Act.put, Zs]
           rfl
         refine take_ (i := 11) (N := some 40) (v := ?_) (a' := ?_) #[true, true, true, true, true, true, true, true, true, true, true, true, false, false, false, false, false, false, false, false, false, false, false, false, false, false, false, false] rfl rfl (by kernel_rfl) (fun _ _ _ h => h) (Or.inl ⟨by rfl, ?_⟩) hHeld ?_ ?_
         rotate_left
         · rintro w' ⟨s0, s1, s2, s3⟩
           go_simp
           with_reducible rfl
         rotate_left
         · simp only [Act.put, Zs]
           rfl
         refine pure_ (i := 12) (N := some 41) (v := ?_) (a' := ?_) #[true, true, true, true, true, true, true, true, true, true, true, true, true, false, false, false, false, false, false, false, false, false, false, false, false, false, false, false] rfl rfl (by kernel_rfl) (fun _ _ _ h => h) (Or.inl ⟨by rfl, ?_⟩) ?_ ?_
         rotate_left
         · intro w'
           go_simp
           with_reducible rfl
         rotate_left
         · simp only [Act.put, Zs]
           rfl
         refine pure_ (i := 13) (N := some 42) (v := ?_) (a' := ?_) #[true, true, true, true, true, true, true, true, true, true, true, true, true, true, false, false, false, false, false, false, false, false, false, false, false, false, false, false] rfl rfl (by kernel_rfl) (fun _ _ _ h => h) (Or.inl ⟨by rfl, ?_⟩) ?_ ?_
         rotate_left
         · intro w'
           go_simp
           with_reducible rfl
         rotate_left
         · simp only [Act.put, Zs]
           rfl
         refine pure_ (i := 14) (N := some 43) (v := ?_) (a' := ?_) #[true, true, true, true, true, true, true, true, true, true, true, true, true, true, true, false, false, false, false, false, false, false, false, false, false, false, false, false] rfl rfl (by kernel_rfl) (fun _ _ _ h => h) (Or.inl ⟨by rfl, ?_⟩) ?_ ?_
         rotate_left
         · intro w'
           go_simp
           with_reducible rfl
         rotate_left
         · simp only [Act.put, Zs]
           rfl
         refine pure_ (i := 15) (N := some 44) (v := ?_) (a' := ?_) #[true, true, true, true, true, true, true, true, true, true, true, true, true, true, true, true, false, false, false, false, false, false, false, false, false, false, false, false] rfl rfl (by kernel_rfl) (fun _ _ _ h => h) (Or.inl ⟨by rfl, ?_⟩) ?_ ?_
         rotate_left
         · intro w'
           go_simp
           with_reducible rfl
         rotate_left
         · simp only [Act.put, Zs]
           rfl
         refine pure_ (i := 16) (N := some 45) (v := ?_) (a' := ?_) #[true, true, true, true, true, true, true, true, true, true, true, true, true, true, true, true, true, false, false, false, false, false, false, false, false, false, false, false] rfl rfl (by kernel_rfl) (fun _ _ _ h => h) (Or.inl ⟨by rfl, ?_⟩) ?_ ?_
         rotate_left
         · intro w'
           go_simp
           with_reducible rfl
         rotate_left
         · simp only [Act.put, Zs]
           rfl
         refine pure_ (i := 17) (N := some 46) (v := ?_) (a' := ?_) #[true, true, true, true, true, true, true, true, true, true, true, true, true, true, true, true, true, true, false, false, false, false, false, false, false, false, false, false] rfl rfl (by kernel_rfl) (fun _ _ _ h => h) (Or.inl ⟨by rfl, ?_⟩) ?_ ?_
         rotate_left
         · intro w'
           go_simp
           with_reducible rfl
         rotate_left
         · simp only [Act.put, Zs]
           rfl
         refine pure_ (i := 18) (N := some 47) (v := ?_) (a' := ?_) #[true, true, true, true, true, true, true, true, true, true, true, true, true, true, true, true, true, true, true, false, false, false, false, false, false, false, false, false] rfl rfl (by kernel_rfl) (fun _ _ _ h => h) (Or.inl ⟨by rfl, ?_⟩) ?_ ?_
         rotate_left
         · intro w'
           go_simp
           with_reducible rfl
         rotate_left
         · simp only [Act.put, Zs]
           rfl
         refine pure_ (i := 19) (N := some 48) (v := ?_) (a' := ?_) #[true, true, true, true, true, true, true, true, true, true, true, true, true, true, true, true, true, true, true, true, false, false, false, false, false, false, false, false] rfl rfl (by kernel_rfl) (fun _ _ _ h => h) (Or.inl ⟨by rfl, ?_⟩) ?_ ?_
         rotate_left
         · intro w'
           go_simp
           with_reducible rfl
         rotate_left
         · simp only [Act.put, Zs]
           rfl
         refine pure_ (i := 20) (N := some 49) (v := ?_) (a' := ?_) #[true, true, true, true, true, true, true, true, true, true, true, true, true, true, true, true, true, true, true, true, true, false, false, false, false, false, false, false] rfl rfl (by kernel_rfl) (fun _ _ _ h => h) (Or.inl ⟨by rfl, ?_⟩) ?_ ?_
         rotate_left
         · intro w'
           go_simp
           with_reducible rfl
         rotate_left
         · simp only [Act.put, Zs]
           rfl
         refine pure_ (i := 21) (N := some 50) (v := ?_) (a' := ?_) #[true, true, true, true, true, true, true, true, true, true, true, true, true, true, true, true, true, true, true, true, true, true, false, false, false, false, false, false] rfl rfl (by kernel_rfl) (fun _ _ _ h => h) (Or.inl ⟨by rfl, ?_⟩) ?_ ?_
         rotate_left
         · intro w'
           go_simp
           with_reducible rfl
         rotate_left
         · simp only [Act.put, Zs]
           rfl
         refine pure_ (i := 22) (N := some 51) (v := ?_) (a' := ?_) #[true, true, true, true, true, true, true, true, true, true, true, true, true, true, true, true, true, true, true, true, true, true, true, false, false, false, false, false] rfl rfl (by kernel_rfl) (fun _ _ _ h => h) (Or.inl ⟨by rfl, ?_⟩) ?_ ?_
         rotate_left
         · intro w'
           go_simp
           with_reducible rfl
         rotate_left
         · simp only [Act.put, Zs]
           rfl
         refine pure_ (i := 23) (N := some 52) (v := ?_) (a' := ?_) #[true, true, true, true, true, true, true, true, true, true, true, true, true, true, true, true, true, true, true, true, true, true, true, true, false, false, false, false] rfl rfl (by kernel_rfl) (fun _ _ _ h => h) (Or.inl ⟨by rfl, ?_⟩) ?_ ?_
         rotate_left
         · intro w'
           go_simp
           with_reducible rfl
         rotate_left
         · simp only [Act.put, Zs]
           rfl
         refine pure_ (i := 24) (N := some 53) (v := ?_) (a' := ?_) #[true, true, true, true, true, true, true, true, true, true, true, true, true, true, true, true, true, true, true, true, true, true, true, true, true, false, false, false] rfl rfl (by kernel_rfl) (fun _ _ _ h => h) (Or.inl ⟨by rfl, ?_⟩) ?_ ?_
         rotate_left
         · intro w'
           go_simp
           with_reducible rfl
         rotate_left
         · simp only [Act.put, Zs]
           rfl
         refine pure_ (i := 25) (N := some 54) (v := ?_) (a' := ?_) #[true, true, true, true, true, true, true, true, true, true, true, true, true, true, true, true, true, true, true, true, true, true, true, true, true, true, false, false] rfl rfl (by kernel_rfl) (fun _ _ _ h => h) (Or.inl ⟨by rfl, ?_⟩) ?_ ?_
         rotate_left
         · intro w'
           go_simp
           with_reducible rfl
         rotate_left
         · simp only [Act.put, Zs]
           rfl
         refine pure_ (i := 26) (N := some 55) (v := ?_) (a' := ?_) #[true, true, true, true, true, true, true, true, true, true, true, true, true, true, true, true, true, true, true, true, true, true, true, true, true, true, true, false] rfl rfl (by kernel_rfl) (fun _ _ _ h => h) (Or.inl ⟨by rfl, ?_⟩) ?_ ?_
         rotate_left
         · intro w'
           go_simp
           with_reducible rfl
         rotate_left
         · simp only [Act.put, Zs]
           rfl
         refine pure_ (i := 27) (N := some 5) (v := ?_) (a' := ?_) #[true, true, true, true, true, true, true, true, true, true, true, true, true, true, true, true, true, true, true, true, true, true, true, true, true, true, true, true] rfl rfl (by kernel_rfl) (fun _ _ _ h => h) (Or.inl ⟨by rfl, ?_⟩) ?_ ?_
         rotate_left
         · intro w'
           go_simp
           with_reducible rfl
         rotate_left
         · simp only [Act.put, Zs]
           rfl
         refine done_ (by kernel_rfl) ?_
         go_wp2_with fail
         go_ret
         exact ⟨rfl, by repeat (first | exact Below.refl _ _ | apply zzN | apply zzD)⟩
       · have c2b : (u == 1) = false := beq_eq_false_iff_ne.2 c2
         rw [c2b, Bool.false_and]
         clear c2
         go_enter Try.func93, Try.ntmps93
         go_wp2_with fail
         go_region_held3 (fun w' => w'.cell? ⟨bV, 0, none⟩ = some (.slice (some ad) l0.length c0) ∧ w'.cell? ⟨bM, 0, none⟩ = some (.int .i64 m) ∧ w'.cell? ⟨bS, 5, none⟩ = some (.int .i64 a5) ∧ w'.cell? (ad.add i) = some (.int .i64 x)) (first | go_keep) ((go_at_call 47; (with_reducible refine (quant_Level.calls x m a5 a b 0 _ A1.out).mono ?_); rintro ed W2 ⟨rfl, ⟨nd, rfl⟩⟩))
         go_wp2_with fail
         refine start_ (n := 28) (S := fun w' => w'.cell? ⟨bV, 0, none⟩ = some (.slice (some ad) l0.length c0) ∧ w'.cell? ⟨bS, 7, none⟩ = some (.slice (some af) l7.length c7) ∧ w'.cell? (af.add i) = some (.bool z) ∧ w'.cell? (ad.add i) = some (.int .i64 x)) (ds := []) #[false, false, false, false, false, false, false, false, false, false, false, false, false, false, false, false, false, false, false, false, false, false, false, false, false, false, false, false] (by kernel_rfl) rfl rfl ⟨by go_simp, by go_simp, by go_simp, by go_simp⟩ (fun hHeld => ?_)
         refine pure_ (i := 0) (N := some 29) (v := ?_) (a' := ?_) #[true, false, false, false, false, false, false, false, false, false, false, false, false, false, false, false, false, false, false, false, false, false, false, false, false, false, false, false] rfl rfl (by kernel_rfl) (fun _ _ _ h => h) (Or.inl ⟨by rfl, ?_⟩) ?_ ?_
         rotate_left
         · intro w'
           go_simp
           with_reducible rfl
         rotate_left
         · simp only [Act.put, Zs]
           rfl
         refine pure_ (i := 1) (N := some 30) (v := ?_) (a' := ?_) #[true, true, false, false, false, false, false, false, false, false, false, false, false, false, false, false, false, false, false, false, false, false, false, false, false, false, false, false] rfl rfl (by kernel_rfl) (fun _ _ _ h => h) (Or.inl ⟨by rfl, ?_⟩) ?_ ?_
         rotate_left
         · intro w'
           go_simp
           with_reducible rfl
         rotate_left
         · simp only [Act.put, Zs]
           rfl
         refine pure_ (i := 2) (N := some 31) (v := ?_) (a' := ?_) #[true, true, true, false, false, false, false, false, false, false, false, false, false, false, false, false, false, false, false, false, false, false, false, false, false, false, false, false] rfl rfl (by kernel_rfl) (fun _ _ _ h => h) (Or.inl ⟨by rfl, ?_⟩) ?_ ?_
         rotate_left
         · intro w'
           go_simp
           with_reducible rfl
         rotate_left
         · simp only [Act.put, Zs]
           rfl
         refine pure_ (i := 3) (N := some 32) (v := ?_) (a' := ?_) #[true, true, true, true, false, false, false, false, false, false, false, false, false, false, false, false, false, false, false, false, false, false, false, false, false, false, false, false] rfl rfl (by kernel_rfl) (fun _ _ _ h => h) (Or.inl ⟨by rfl, ?_⟩) ?_ ?_
         rotate_left
         · intro w'
           go_simp
           with_reducible rfl
         rotate_left
         · simp only [Act.put, Zs]
           rfl
         refine pure_ (i := 5) (N := some 34) (v := ?_) (a' := ?_) #[true, true, true, true, false, true, false, false, false, false, false, false, false, false, false, false, false, false, false, false, false, false, false, false, false, false, false, false] rfl rfl (by kernel_rfl) (fun _ _ _ h => h) (Or.inl ⟨by rfl, ?_⟩) ?_ ?_
         rotate_left
         · intro w'
           go_simp
           with_reducible rfl
         rotate_left
         · simp only [Act.put, Zs]
           rfl
         refine pure_ (i := 9) (N := some 38) (v := ?_) (a' := ?_) #[true, true, true, true, false, true, false, false, false, true, false, false, false, false, false, false, false, false, false, false, false, false, false, false, false, false, false, false] rfl rfl (by kernel_rfl) (fun _ _ _ h => h) (Or.inl ⟨by rfl, ?_⟩) ?_ ?_
         rotate_left
         · intro w'
           go_simp
           with_reducible rfl
         rotate_left
         · simp only [Act.put, Zs]
           rfl
         refine take_ (i := 4) (N := some 33) (v := ?_) (a' := ?_) #[true, true, true, true, true, true, false, false, false, true, false, false, false, false, false, false, false, false, false, false, false, false, false, false, false, false, false, false] rfl rfl (by kernel_rfl) (fun _ _ _ h => h) (Or.inl ⟨by rfl, ?_⟩) hHeld ?_ ?_
         rotate_left
         · rintro w' ⟨s0, s1, s2, s3⟩
           go_simp
           with_reducible rfl
         rotate_left
         · simp only [Act.put, Zs]
           rfl
         refine pure_ (i := 6) (N := some 35) (v := ?_) (a' := ?_) #[true, true, true, true, true, true, true, false, false, true, false, false, false, false, false, false, false, false, false, false, false, false, false, false, false, false, false, false] rfl rfl (by kernel_rfl) (fun _ _ _ h => h) (Or.inl ⟨by rfl, ?_⟩) ?_ ?_
         rotate_left
         · intro w'
           go_simp
           with_reducible rfl
         rotate_left
         · simp only [Act.put, Zs]
           rfl
         refine take_ (i := 7) (N := some 36) (v := ?_) (a' := ?_) #[true, true, true, true, true, true, true, true, false, true, false, false, false, false, false, false, false, false, false, false, false, false, false, false, false, false, false, false] rfl rfl (by kernel_rfl) (fun _ _ _ h => h) (Or.inl ⟨by rfl, ?_⟩) hHeld ?_ ?_
         rotate_left
         · rintro w' ⟨s0, s1, s2, s3⟩
           go_simp
           with_reducible rfl
         rotate_left
         · simp only [Act.put, Zs]
           rfl
         refine take_ (i := 8) (N := some 37) (v := ?_) (a' := ?_) #[true, true, true, true, true, true, true, true, true, true, false, false, false, false, false, false, false, false, false, false, false, false, false, false, false, false, false, false] rfl rfl (by kernel_rfl) (fun _ _ _ h => h) (Or.inl ⟨by rfl, ?_⟩) hHeld ?_ ?_
         rotate_left
         · rintro w' ⟨s0, s1, s2, s3⟩
           go_simp
           with_reducible rfl
         rotate_left
         · simp only [Act.put, Zs]
           rfl
         refine pure_ (i := 10) (N := some 39) (v := ?_) (a' := ?_) #[true, true, true, true, true, true, true, true, true, true, true, false, false, false, false, false, false, false, false, false, false, false, false, false, false, false, false, false] rfl rfl (by kernel_rfl) (fun _ _ _ h => h) (Or.inl ⟨by rfl, ?_⟩) ?_ ?_
         rotate_left
         · intro w'
           go_simp
           with_reducible rfl
         rotate_left
         · simp only [Act.put, Zs]
           rfl
         refine take_ (i := 11) (N := some 40) (v := ?_) (a' := ?_) #[true, true, true, true, true, true, true, true, true, true, true, true, false, false, false, false, false, false, false, false, false, false, false, false, false, false, false, false] rfl rfl (by kernel_rfl) (fun _ _ _ h => h) (Or.inl ⟨by rfl, ?_⟩) hHeld ?_ ?_
         rotate_left
         · rintro w' ⟨s0, s1, s2, s3⟩
           go_simp
           with_reducible rfl
         rotate_left
         · simp only [Act.put, Zs]
           rfl
         refine pure_ (i := 12) (N := some 41) (v := ?_) (a' := ?_) #[true, true, true, true, true, true, true, true, true, true, true, true, true, false, false, false, false, false, false, false, false, false, false, false, false, false, false, false] rfl rfl (by kernel_rfl) (fun _ _ _ h => h) (Or.inl ⟨by rfl, ?_⟩) ?_ ?_
         rotate_left
         · intro w'
           go_simp
           with_reducible rfl
         rotate_left
         · simp only [Act.put, Zs]
           rfl
         refine pure_ (i := 13) (N := some 42) (v := ?_) (a' := ?_) #[true, true, true, true, true, true, true, true, true, true, true, true, true, true, false, false, false, false, false, false, false, false, false, false, false, false, false, false] rfl rfl (by kernel_rfl) (fun _ _ _ h => h) (Or.inl ⟨by rfl, ?_⟩) ?_ ?_
         rotate_left
         · intro w'
           go_simp
           with_reducible rfl
         rotate_left
         · simp only [Act.put, Zs]
           rfl
         refine pure_ (i := 14) (N := some 43) (v := ?_) (a' := ?_) #[true, true, true, true, true, true, true, true, true, true, true, true, true, true, true, false, false, false, false, false, false, false, false, false, false, false, false, false] rfl rfl (by kernel_rfl) (fun _ _ _ h => h) (Or.inl ⟨by rfl, ?_⟩) ?_ ?_
         rotate_left
         · intro w'
           go_simp
           with_reducible rfl
         rotate_left
         · simp only [Act.put, Zs]
           rfl
         refine pure_ (i := 15) (N := some 44) (v := ?_) (a' := ?_) #[true, true, true, true, true, true, true, true, true, true, true, true, true, true, true, true, false, false, false, false, false, false, false, false, false, false, false, false] rfl rfl (by kernel_rfl) (fun _ _ _ h => h) (Or.inl ⟨by rfl, ?_⟩) ?_ ?_
         rotate_left
         · intro w'
           go_simp
           with_reducible rfl
         rotate_left
         · simp only [Act.put, Zs]
           rfl
         refine pure_ (i := 16) (N := some 45) (v := ?_) (a' := ?_) #[true, true, true, true, true, true, true, true, true, true, true, true, true, true, true, true, true, false, false, false, false, false, false, false, false, false, false, false] rfl rfl (by kernel_rfl) (fun _ _ _ h => h) (Or.inl ⟨by rfl, ?_⟩) ?_ ?_
         rotate_left
         · intro w'
           go_simp
           with_reducible rfl
         rotate_left
         · simp only [Act.put, Zs]
           rfl
         refine pure_ (i := 17) (N := some 46) (v := ?_) (a' := ?_) #[true, true, true, true, true, true, true, true, true, true, true, true, true, true, true, true, true, true, false, false, false, false, false, false, false, false, false, false] rfl rfl (by kernel_rfl) (fun _ _ _ h => h) (Or.inl ⟨by rfl, ?_⟩) ?_ ?_
         rotate_left
         · intro w'
           go_simp
           with_reducible rfl
         rotate_left
         · simp only [Act.put, Zs]
           rfl
         refine pure_ (i := 18) (N := some 47) (v := ?_) (a' := ?_) #[true, true, true, true, true, true, true, true, true, true, true, true, true, true, true, true, true, true, true, false, false, false, false, false, false, false, false, false] rfl rfl (by kernel_rfl) (fun _ _ _ h => h) (Or.inl ⟨by rfl, ?_⟩) ?_ ?_
         rotate_left
         · intro w'
           go_simp
           with_reducible rfl
         rotate_left
         · simp only [Act.put, Zs]
           rfl
         refine pure_ (i := 19) (N := some 48) (v := ?_) (a' := ?_) #[true, true, true, true, true, true, true, true, true, true, true, true, true, true, true, true, true, true, true, true, false, false, false, false, false, false, false, false] rfl rfl (by kernel_rfl) (fun _ _ _ h => h) (Or.inl ⟨by rfl, ?_⟩) ?_ ?_
         rotate_left
         · intro w'
           go_simp
           with_reducible rfl
         rotate_left
         · simp only [Act.put, Zs]
           rfl
         refine pure_ (i := 20) (N := some 49) (v := ?_) (a' := ?_) #[true, true, true, true, true, true, true, true, true, true, true, true, true, true, true, true, true, true, true, true, true, false, false, false, false, false, false, false] rfl rfl (by kernel_rfl) (fun _ _ _ h => h) (Or.inl ⟨by rfl, ?_⟩) ?_ ?_
         rotate_left
         · intro w'
           go_simp
           with_reducible rfl
         rotate_left
         · simp only [Act.put, Zs]
           rfl
         refine pure_ (i := 21) (N := some 50) (v := ?_) (a' := ?_) #[true, true, true, true, true, true, true, true, true, true, true, true, true, true, true, true, true, true, true, true, true, true, false, false, false, false, false, false] rfl rfl (by kernel_rfl) (fun _ _ _ h => h) (Or.inl ⟨by rfl, ?_⟩) ?_ ?_
         rotate_left
         · intro w'
           go_simp
           with_reducible rfl
         rotate_left
         · simp only [Act.put, Zs]
           rfl
         refine pure_ (i := 22) (N := some 51) (v := ?_) (a' := ?_) #[true, true, true, true, true, true, true, true, true, true, true, true, true, true, true, true, true, true, true, true, true, true, true, false, false, false, false, false] rfl rfl (by kernel_rfl) (fun _ _ _ h => h) (Or.inl ⟨by rfl, ?_⟩) ?_ ?_
         rotate_left
         · intro w'
           go_simp
           with_reducible rfl
         rotate_left
         · simp only [Act.put, Zs]
           rfl
         refine pure_ (i := 23) (N := some 52) (v := undef) (a' := ?_) #[true, true, true, true, true, true, true, true, true, true, true, true, true, true, true, true, true, true, true, true, true, true, true, true, false, false, false, false] rfl rfl (by kernel_rfl) (fun _ _ _ h => h) (Or.inr ⟨by rfl, rfl⟩) ?_ ?_
         rotate_left
         · simp only [Act.put, Zs]
           rfl
         refine pure_ (i := 24) (N := some 53) (v := undef) (a' := ?_) #[true, true, true, true, true, true, true, true, true, true, true, true, true, true, true, true, true, true, true, true, true, true, true, true, true, false, false, false] rfl rfl (by kernel_rfl) (fun _ _ _ h => h) (Or.inr ⟨by rfl, rfl⟩) ?_ ?_
         rotate_left
         · simp only [Act.put, Zs]
           rfl
         refine pure_ (i := 25) (N := some 54) (v := ?_) (a' := ?_) #[true, true, true, true, true, true, true, true, true, true, true, true, true, true, true, true, true, true, true, true, true, true, true, true, true, true, false, false] rfl rfl (by kernel_rfl) (fun _ _ _ h => h) (Or.inl ⟨by rfl, ?_⟩) ?_ ?_
         rotate_left
         · intro w'
           go_simp
           with_reducible rfl
         rotate_left
         · simp only [Act.put, Zs]
           rfl
         refine pure_ (i := 26) (N := some 55) (v := ?_) (a' := ?_) #[true, true, true, true, true, true, true, true, true, true, true, true, true, true, true, true, true, true, true, true, true, true, true, true, true, true, true, false] rfl rfl (by kernel_rfl) (fun _ _ _ h => h) (Or.inl ⟨by rfl, ?_⟩) ?_ ?_
         rotate_left
         · intro w'
           go_simp
           with_reducible rfl
         rotate_left
         · simp only [Act.put, Zs]
           rfl
         refine pure_ (i := 27) (N := some 5) (v := ?_) (a' := ?_) #[true, true, true, true, true, true, true, true, true, true, true, true, true, true, true, true, true, true, true, true, true, true, true, true, true, true, true, true] rfl rfl (by kernel_rfl) (fun _ _ _ h => h) (Or.inl ⟨by rfl, ?_⟩) ?_ ?_
         rotate_left
         · intro w'
           go_simp
           with_reducible rfl
         rotate_left
         · simp only [Act.put, Zs]
           rfl
         refine done_ (by kernel_rfl) ?_
         go_wp2_with fail
         go_ret
         exact ⟨rfl, by repeat (first | exact Below.refl _ _ | apply zzN | apply zzD)⟩
 · have ceb : (e != 0) = true := bne_iff_ne.2 ce
   rw [decide_eq_true ce, Bool.true_or, Bool.true_or, Bool.true_or]
   clear ce
   go_enter Try.func93, Try.ntmps93
   go_wp2_with fail
   go_region_held3 (fun w' => w'.cell? ⟨bV, 0, none⟩ = some (.slice (some ad) l0.length c0) ∧ w'.cell? ⟨bM, 0, none⟩ = some (.int .i64 m) ∧ w'.cell? ⟨bS, 5, none⟩ = some (.int .i64 a5) ∧ w'.cell? (ad.add i) = some (.int .i64 x)) (first | go_keep) ((go_at_call 47; (with_reducible refine (quant_Level.calls x m a5 a b e _ A1.out).mono ?_); rintro ed W2 ⟨rfl, ⟨nd, rfl⟩⟩))
   go_wp2_with fail
   refine start_ (n := 28) (S := fun w' => w'.cell? ⟨bV, 0, none⟩ = some (.slice (some ad) l0.length c0) ∧ w'.cell? ⟨bS, 7, none⟩ = some (.slice (some af) l7.length c7) ∧ w'.cell? (af.add i) = some (.bool z) ∧ w'.cell? (ad.add i) = some (.int .i64 x)) (ds := []) #[false, false, false, false, false, false, false, false, false, false, false, false, false, false, false, false, false, false, false, false, false, false, false, false, false, false, false, false] (by kernel_rfl) rfl rfl ⟨by go_simp, by go_simp, by go_simp, by go_simp⟩ (fun hHeld => ?_)
   refine pure_ (i := 0) (N := some 29) (v := ?_) (a' := ?_) #[true, false, false, false, false, false, false, false, false, false, false, false, false, false, false, false, false, false, false, false, false, false, false, false, false, false, false, false] rfl rfl (by kernel_rfl) (fun _ _ _ h => h) (Or.inl ⟨by rfl, ?_⟩) ?_ ?_
   rotate_left
   · intro w'
     go_simp
     with_reducible rfl
   rotate_left
   · simp only [Act.put, Zs]
     rfl
   refine pure_ (i := 1) (N := some 30) (v := ?_) (a' := ?_) #[true, true, false, false, false, false, false, false, false, false, false, false, false, false, false, false, false, false, false, false, false, false, false, false, false, false, false, false] rfl rfl (by kernel_rfl) (fun _ _ _ h => h) (Or.inl ⟨by rfl, ?_⟩) ?_ ?_
   rotate_left
   · intro w'
     go_simp
     with_reducible rfl
   rotate_left
   · simp only [Act.put, Zs]
     rfl
   refine pure_ (i := 2) (N := some 31) (v := ?_) (a' := ?_) #[true, true, true, false, false, false, false, false, false, false, false, false, false, false, false, false, false, false, false, false, false, false, false, false, false, false, false, false] rfl rfl (by kernel_rfl) (fun _ _ _ h => h) (Or.inl ⟨by rfl, ?_⟩) ?_ ?_
   rotate_left
   · intro w'
     go_simp
     with_reducible rfl
   rotate_left
   · simp only [Act.put, Zs]
     rfl
   refine pure_ (i := 3) (N := some 32) (v := undef) (a' := ?_) #[true, true, true, true, false, false, false, false, false, false, false, false, false, false, false, false, false, false, false, false, false, false, false, false, false, false, false, false] rfl rfl (by kernel_rfl) (fun _ _ _ h => h) (Or.inr ⟨by rfl, rfl⟩) ?_ ?_
   rotate_left
   · simp only [Act.put, Zs]
     rfl
   refine pure_ (i := 4) (N := some 33) (v := undef) (a' := ?_) #[true, true, true, true, true, false, false, false, false, false, false, false, false, false, false, false, false, false, false, false, false, false, false, false, false, false, false, false] rfl rfl (by kernel_rfl) (fun _ _ _ h => h) (Or.inr ⟨by rfl, rfl⟩) ?_ ?_
   rotate_left
   · simp only [Act.put, Zs]
     rfl
   refine pure_ (i := 5) (N := some 34) (v := undef) (a' := ?_) #[true, true, true, true, true, true, false, false, false, false, false, false, false, false, false, false, false, false, false, false, false, false, false, false, false, false, false, false] rfl rfl (by kernel_rfl) (fun _ _ _ h => h) (Or.inr ⟨by rfl, rfl⟩) ?_ ?_
   rotate_left
   · simp only [Act.put, Zs]
     rfl
   refine pure_ (i := 6) (N := some 35) (v := undef) (a' := ?_) #[true, true, true, true, true, true, true, false, false, false, false, false, false, false, false, false, false, false, false, false, false, false, false, false, false, false, false, false] rfl rfl (by kernel_rfl) (fun _ _ _ h => h) (Or.inr ⟨by rfl, rfl⟩) ?_ ?_
   rotate_left
   · simp only [Act.put, Zs]
     rfl
   refine pure_ (i := 7) (N := some 36) (v := undef) (a' := ?_) #[true, true, true, true, true, true, true, true, false, false, false, false, false, false, false, false, false, false, false, false, false, false, false, false, false, false, false, false] rfl rfl (by kernel_rfl) (fun _ _ _ h => h) (Or.inr ⟨by rfl, rfl⟩) ?_ ?_
   rotate_left
   · simp only [Act.put, Zs]
     rfl
   refine pure_ (i := 8) (N := some 37) (v := undef) (a' := ?_) #[true, true, true, true, true, true, true, true, true, false, false, false, false, false, false, false, false, false, false, false, false, false, false, false, false, false, false, false] rfl rfl (by kernel_rfl) (fun _ _ _ h => h) (Or.inr ⟨by rfl, rfl⟩) ?_ ?_
   rotate_left
   · simp only [Act.put, Zs]
     rfl
   refine pure_ (i := 9) (N := some 38) (v := undef) (a' := ?_) #[true, true, true, true, true, true, true, true, true, true, false, false, false, false, false, false, false, false, false, false, false, false, false, false, false, false, false, false] rfl rfl (by kernel_rfl) (fun _ _ _ h => h) (Or.inr ⟨by rfl, rfl⟩) ?_ ?_
   rotate_left
   · simp only [Act.put, Zs]
     rfl
   refine pure_ (i := 10) (N := some 39) (v := undef) (a' := ?_) #[true, true, true, true, true, true, true, true, true, true, true, false, false, false, false, false, false, false, false, false, false, false, false, false, false, false, false, false] rfl rfl (by kernel_rfl) (fun _ _ _ h => h) (Or.inr ⟨by rfl, rfl⟩) ?_ ?_
   rotate_left
   · simp only [Act.put, Zs]
     rfl
   refine pure_ (i := 11) (N := some 40) (v := undef) (a' := ?_) #[true, true, true, true, true, true, true, true, true, true, true, true, false, false, false, false, false, false, false, false, false, false, false, false, false, false, false, false] rfl rfl (by kernel_rfl) (fun _ _ _ h => h) (Or.inr ⟨by rfl, rfl⟩) ?_ ?_
   rotate_left
   · simp only [Act.put, Zs]
     rfl
   refine pure_ (i := 12) (N := some 41) (v := undef) (a' := ?_) #[true, true, true, true, true, true, true, true, true, true, true, true, true, false, false, false, false, false, false, false, false, false, false, false, false, false, false, false] rfl rfl (by kernel_rfl) (fun _ _ _ h => h) (Or.inr ⟨by rfl, rfl⟩) ?_ ?_
   rotate_left
   · simp only [Act.put, Zs]
     rfl
   refine pure_ (i := 13) (N := some 42) (v := undef) (a' := ?_) #[true, true, true, true, true, true, true, true, true, true, true, true, true, true, false, false, false, false, false, false, false, false, false, false, false, false, false, false] rfl rfl (by kernel_rfl) (fun _ _ _ h => h) (Or.inr ⟨by rfl, rfl⟩) ?_ ?_
   rotate_left
   · simp only [Act.put, Zs]
     rfl
   refine pure_ (i := 14) (N := some 43) (v := ?_) (a' := ?_) #[true, true, true, true, true, true, true, true, true, true, true, true, true, true, true, false, false, false, false, false, false, false, false, false, false, false, false, false] rfl rfl (by kernel_rfl) (fun _ _ _ h => h) (Or.inl ⟨by rfl, ?_⟩) ?_ ?_
   rotate_left
   · intro w'
     go_simp
     with_reducible rfl
   rotate_left
   · simp only [Act.put, Zs]
     rfl
   refine pure_ (i := 15) (N := some 44) (v := ?_) (a' := ?_) #[true, true, true, true, true, true, true, true, true, true, true, true, true, true, true, true, false, false, false, false, false, false, false, false, false, false, false, false] rfl rfl (by kernel_rfl) (fun _ _ _ h => h) (Or.inl ⟨by rfl, ?_⟩) ?_ ?_
   rotate_left
   · intro w'
     go_simp
     with_reducible rfl
   rotate_left
   · simp only [Act.put, Zs]
     rfl
   refine pure_ (i := 16) (N := some 45) (v := undef) (a' := ?_) #[true, true, true, true, true, true, true, true, true, true, true, true, true, true, true, true, true, false, false, false, false, false, false, false, false, false, false, false] rfl rfl (by kernel_rfl) (fun _ _ _ h => h) (Or.inr ⟨by rfl, rfl⟩) ?_ ?_
   rotate_left
   · simp only [Act.put, Zs]
     rfl
   refine pure_ (i := 17) (N := some 46) (v := undef) (a' := ?_) #[true, true, true, true, true, true, true, true, true, true, true, true, true, true, true, true, true, true, false, false, false, false, false, false, false, false, false, false] rfl rfl (by kernel_rfl) (fun _ _ _ h => h) (Or.inr ⟨by rfl, rfl⟩) ?_ ?_
   rotate_left
   · simp only [Act.put, Zs]
     rfl
   refine pure_ (i := 18) (N := some 47) (v := ?_) (a' := ?_) #[true, true, true, true, true, true, true, true, true, true, true, true, true, true, true, true, true, true, true, false, false, false, false, false, false, false, false, false] rfl rfl (by kernel_rfl) (fun _ _ _ h => h) (Or.inl ⟨by rfl, ?_⟩) ?_ ?_
   rotate_left
   · intro w'
     go_simp
     with_reducible rfl
   rotate_left
   · simp only [Act.put, Zs]
     rfl
   refine pure_ (i := 19) (N := some 48) (v := ?_) (a' := ?_) #[true, true, true, true, true, true, true, true, true, true, true, true, true, true, true, true, true, true, true, true, false, false, false, false, false, false, false, false] rfl rfl (by kernel_rfl) (fun _ _ _ h => h) (Or.inl ⟨by rfl, ?_⟩) ?_ ?_
   rotate_left
   · intro w'
     go_simp
     with_reducible rfl
   rotate_left
   · simp only [Act.put, Zs]
     rfl
   refine pure_ (i := 20) (N := some 49) (v := undef) (a' := ?_) #[true, true, true, true, true, true, true, true, true, true, true, true, true, true, true, true, true, true, true, true, true, false, false, false, false, false, false, false] rfl rfl (by kernel_rfl) (fun _ _ _ h => h) (Or.inr ⟨by rfl, rfl⟩) ?_ ?_
   rotate_left
   · simp only [Act.put, Zs]
     rfl
   refine pure_ (i := 21) (N := some 50) (v := undef) (a' := ?_) #[true, true, true, true, true, true, true, true, true, true, true, true, true, true, true, true, true, true, true, true, true, true, false, false, false, false, false, false] rfl rfl (by kernel_rfl) (fun _ _ _ h => h) (Or.inr ⟨by rfl, rfl⟩) ?_ ?_
   rotate_left
   · simp only [Act.put, Zs]
     rfl
   refine pure_ (i := 22) (N := some 51) (v := undef) (a' := ?_) #[true, true, true, true, true, true, true, true, true, true, true, true, true, true, true, true, true, true, true, true, true, true, true, false, false, false, false, false] rfl rfl (by kernel_rfl) (fun _ _ _ h => h) (Or.inr ⟨by rfl, rfl⟩) ?_ ?_
   rotate_left
   · simp only [Act.put, Zs]
     rfl
   refine pure_ (i := 23) (N := some 52) (v := undef) (a' := ?_) #[true, true, true, true, true, true, true, true, true, true, true, true, true, true, true, true, true, true, true, true, true, true, true, true, false, false, false, false] rfl rfl (by kernel_rfl) (fun _ _ _ h => h) (Or.inr ⟨by rfl, rfl⟩) ?_ ?_
   rotate_left
   · simp only [Act.put, Zs]
     rfl
   refine pure_ (i := 24) (N := some 53) (v := undef) (a' := ?_) #[true, true, true, true, true, true, true, true, true, true, true, true, true, true, true, true, true, true, true, true, true, true, true, true, true, false, false, false] rfl rfl (by kernel_rfl) (fun _ _ _ h => h) (Or.inr ⟨by rfl, rfl⟩) ?_ ?_
   rotate_left
   · simp only [Act.put, Zs]
     rfl
   refine pure_ (i := 25) (N := some 54) (v := undef) (a' := ?_) #[true, true, true, true, true, true, true, true, true, true, true, true, true, true, true, true, true, true, true, true, true, true, true, true, true, true, false, false] rfl rfl (by kernel_rfl) (fun _ _ _ h => h) (Or.inr ⟨by rfl, rfl⟩) ?_ ?_
   rotate_left
   · simp only [Act.put, Zs]
     rfl
   refine pure_ (i := 26) (N := some 55) (v := ?_) (a' := ?_) #[true, true, true, true, true, true, true, true, true, true, true, true, true, true, true, true, true, true, true, true, true, true, true, true, true, true, true, false] rfl rfl (by kernel_rfl) (fun _ _ _ h => h) (Or.inl ⟨by rfl, ?_⟩) ?_ ?_
   rotate_left
   · intro w'
     go_simp
     with_reducible rfl
   rotate_left
   · simp only [Act.put, Zs]
     rfl
   refine pure_ (i := 27) (N := some 5) (v := ?_) (a' := ?_) #[true, true, true, true, true, true, true, true, true, true, true, true, true, true, true, true, true, true, true, true, true, true, true, true, true, true, true, true] rfl rfl (by kernel_rfl) (fun _ _ _ h => h) (Or.inl ⟨by rfl, ?_⟩) ?_ ?_
   rotate_left
   · intro w'
     go_simp
     with_reducible rfl
   rotate_left
   · simp only [Act.put, Zs]
     rfl
   refine done_ (by kernel_rfl) ?_
   go_wp2_with fail
   go_ret
   exact ⟨rfl, by repeat (first | exact Below.refl _ _ | apply zzN | apply zzD)⟩
theorem mostGo_i64 : ∀ (l : List Int) (m : Int), I64 m → I64 (mostGo (l.map absF) m).1
  | [], m, h => h
  | x :: l, m, h => by
    rw [List.map_cons, mostGo]
    split
    · refine mostGo_i64 l _ ?_
      split
      · exact res_i64 _
      · exact h
    · exact i64_zero
theorem mostV_i64 {l : List Int} (h : V64 l) : I64 (mostV l).1 := by
  unfold mostV
  split
  · exact mostGo_i64 l 0 i64_zero
  · exact i64_zero
def quant_Near.f (l0 : List Int) (a1_0 a1_1 : Int) (l1_2 l1_3 : List Int) (a1_4 a1_5 : Int) (l1_6 : List Int) (l1_7 : List Bool) : Option Bool :=
  if V64 l0 ∧ U64L l1_6 then some (if (mostV l0).2 = 0 ∧ MayP a1_0 a1_1 l1_2 l1_3 a1_4 a1_5 l1_6 l1_7 ∧ a1_0 = 2 ∧ a1_1 = (l0.length : Int) ∧ a1_4 = (mostV l0).1 then nearGo a1_4 a1_5 l0 l1_6 l1_7 l0.length 0 else false) else none
set_option maxHeartbeats 8000000 in
set_option maxRecDepth 100000 in
theorem quant_Near.calls (A0 : Option Addr) (c0 : Nat) (l0 : List Int) (a1_0 : Int) (a1_1 : Int) (A1_2 : Option Addr) (c1_2 : Nat) (l1_2 : List Int) (A1_3 : Option Addr) (c1_3 : Nat) (l1_3 : List Int) (a1_4 : Int) (a1_5 : Int) (A1_6 : Option Addr) (c1_6 : Nat) (l1_6 : List Int) (A1_7 : Option Addr) (c1_7 : Nat) (l1_7 : List Bool) (r : Bool) (w : World) (hr0 : Kd.C (Kd.int .i64) w A0 l0.length l0) (hc0 : l0.length ≤ c0) (hr1_2 : Kd.C (Kd.int .i64) w A1_2 l1_2.length l1_2) (hc1_2 : l1_2.length ≤ c1_2) (hr1_3 : Kd.C (Kd.int .i64) w A1_3 l1_3.length l1_3) (hc1_3 : l1_3.length ≤ c1_3) (hr1_6 : Kd.C (Kd.int .u64) w A1_6 l1_6.length l1_6) (hc1_6 : l1_6.length ≤ c1_6) (hr1_7 : Kd.C Kd.bool w A1_7 l1_7.length l1_7) (hc1_7 : l1_7.length ≤ c1_7) (h : quant_Near.f l0 a1_0 a1_1 l1_2 l1_3 a1_4 a1_5 l1_6 l1_7 = some r) :
    Calls Try.prog 58 #[.slice A0 l0.length c0, .agg #[.int .i64 a1_0, .int .i64 a1_1, .slice A1_2 l1_2.length c1_2, .slice A1_3 l1_3.length c1_3, .int .i64 a1_4, .int .i64 a1_5, .slice A1_6 l1_6.length c1_6, .slice A1_7 l1_7.length c1_7]] w fun e w' => e = .returned (.bool r) ∧ Below w.heap.size w w' := by
 unfold quant_Near.f at h
 split at h
 case isFalse => cases h
 rename_i hv
 have h := Option.some.inj h
 have hu := Try.underlying30
 have hent : ∀ (args : Array Value) (w : World), (callFunc 93 args).run Try.prog w = .ok (.enter 93 args) w := enters_of Try.func93 rfl rfl
 obtain ⟨⟨mm, me⟩, hm⟩ : ∃ p, mostV l0 = p := ⟨_, rfl⟩
 have A1 : Aside0 (vec_Most.f l0 = some (mm, me)) := ⟨(vec_Most.of l0 hv.1).trans (congrArg some hm)⟩
 have HMI : Aside0 (I64 mm) := ⟨by have := mostV_i64 hv.1; rwa [hm] at this⟩
 obtain ⟨pm, hpm⟩ : ∃ b, decide (MayP a1_0 a1_1 l1_2 l1_3 a1_4 a1_5 l1_6 l1_7) = b := ⟨_, rfl⟩
 have A2 : Aside0 (frame_May.f a1_0 a1_1 l1_2 l1_3 a1_4 a1_5 l1_6 l1_7 = some pm) := ⟨(frame_May.of _ _ _ _ _ _ _ _ hv.2).trans (congrArg some hpm)⟩
 rw [hm] at h
 dsimp only at h
 have HV := ZM hv.1
 have HR0 := ZM hr0
 have HC0 := ZM hc0
 have HR2 := ZM hr1_2
 have HC2 := ZM hc1_2
 have HR3 := ZM hr1_3
 have HC3 := ZM hc1_3
 have HR6 := ZM hr1_6
 have HC6 := ZM hc1_6
 have HR7 := ZM hr1_7
 have HC7 := ZM hc1_7
 have HM := ZM (Kd.C_max hr0)
 have HB := ZM (Below.refl w.heap.size w)
 clear hv hm hr0 hc0 hr1_2 hc1_2 hr1_3 hc1_3 hr1_6 hc1_6 hr1_7 hc1_7
 by_cases ce : me = 0
 case neg =>
  rw [if_neg (fun e => ce e.1)] at h
  subst h
  have ceb : (me != 0) = true := bne_iff_ne.2 ce
  clear ce hpm
  go_enter Try.func58, Try.ntmps58
  go_upto_region 2 with (first | ((with_reducible refine gate_dst (N := 2) rfl ?_); refine box_event ?hg (N := 2) ?hd (cs := #[.slice A0 l0.length c0]) (t := 27) ?hr ?_; (case hd => rfl); (case hg => rfl); (case hr => exact Z12); intro b1 hg w1 hbox hb; have n0 := ZM (below_then HB.out (Nat.le_refl _) hb); have BK1 := ZM hbox; have G1 : Aside0 (w.heap.size ≤ b1) := ⟨by rw [hg]; exact Nat.le_refl _⟩; clear HB hbox hb hg; have HB := n0; clear n0) | ((with_reducible refine gate_dst (N := 3) rfl ?_); refine box_event ?hg (N := 3) ?hd (cs := #[.int .i64 a1_0, .int .i64 a1_1, .slice A1_2 l1_2.length c1_2, .slice A1_3 l1_3.length c1_3, .int .i64 a1_4, .int .i64 a1_5, .slice A1_6 l1_6.length c1_6, .slice A1_7 l1_7.length c1_7]) (t := 30) ?hr ?_; (case hd => rfl); (case hg => rfl); (case hr => exact Z12); intro b2 hg w2 hbox hb; have n0 := ZM (below_then HB.out HB.out.size hb); have BK2 := ZM hbox; have n1 := ZM (blk_below BK1.out hb); have G2 : Aside0 (w.heap.size ≤ b2) := ⟨by rw [hg]; exact HB.out.size⟩; clear HB BK1 hbox hb hg; have HB := n0; have BK1 := n1; clear n0 n1; have hz1 : w2.cell? ⟨b1, 0, none⟩ = some (.slice A0 l0.length c0) := (blk_cell BK1.out 0).trans rfl) | (go_at_call 65; (with_reducible refine (vec_Most.calls A0 c0 l0 mm me _ (Kd.C_below HR0.out HB.out) HC0.out A1.out).mono ?_); rintro ed W1 ⟨rfl, hb⟩; have n0 := ZM (below_then HB.out HB.out.size hb); have n1 := ZM (blk_below BK1.out hb); have n2 := ZM (blk_below BK2.out hb); clear HB BK1 BK2 hb; have HB := n0; have BK1 := n1; have BK2 := n2; clear n0 n1 n2) | ((with_reducible refine gate_dst (N := 5) rfl ?_); refine box_event ?hg (N := 5) ?hd (cs := #[.int .i64 0]) (t := 2) ?hr ?_; (case hd => rfl); (case hg => rfl); (case hr => exact Z12); intro b3 hg w3 hbox hb; have n0 := ZM (below_then HB.out HB.out.size hb); have BK3 := ZM hbox; have n1 := ZM (blk_below BK1.out hb); have n2 := ZM (blk_below BK2.out hb); have G3 : Aside0 (w.heap.size ≤ b3) := ⟨by rw [hg]; exact HB.out.size⟩; have N1 : Aside0 (b1 ≠ b3) := ⟨by have := blk_lt BK1.out; omega⟩; have N2 : Aside0 (b2 ≠ b3) := ⟨by have := blk_lt BK2.out; omega⟩; clear HB BK1 BK2 hbox hb hg; have HB := n0; have BK1 := n1; have BK2 := n2; clear n0 n1 n2; have hc3 : w3.cell? ⟨b3, 0, none⟩ = some (.int .i64 0) := (blk_cell BK3.out 0).trans rfl; have hf3 : w3.frozen? ⟨b3, 0, none⟩ = false := blk_frozen BK3.out 0))
  have n0 := ZM (HB.out.setCell (p := ⟨b3, 0, none⟩) G3.out (.int .i64 mm))
  have n1 := ZM ((Below.heap_setCell w3 ⟨b3, 0, none⟩ (.int .i64 mm) b1 N1.out).trans BK1.out)
  have n2 := ZM ((Below.heap_setCell w3 ⟨b3, 0, none⟩ (.int .i64 mm) b2 N2.out).trans BK2.out)
  have n3 := ZM (blk_put (cs' := #[.int .i64 mm]) BK3.out 0 (.int .i64 mm) rfl)
  clear HB BK1 BK2 BK3
  have HB := n0
  have BK1 := n1
  have BK2 := n2
  have BK3 := n3
  clear n0 n1 n2 n3 hf3 hc3
  generalize w3.setCell ⟨b3, 0, none⟩ (.int .i64 mm) = W4 at HB BK1 BK2 BK3 ⊢
  have hs4_0 : W4.cell? ⟨b2, 0, none⟩ = some (.int .i64 a1_0) := (blk_cell BK2.out 0).trans rfl
  have hs4_1 : W4.cell? ⟨b2, 1, none⟩ = some (.int .i64 a1_1) := (blk_cell BK2.out 1).trans rfl
  have hs4_2 : W4.cell? ⟨b2, 2, none⟩ = some (.slice A1_2 l1_2.length c1_2) := (blk_cell BK2.out 2).trans rfl
  have hs4_3 : W4.cell? ⟨b2, 3, none⟩ = some (.slice A1_3 l1_3.length c1_3) := (blk_cell BK2.out 3).trans rfl
  have hs4_4 : W4.cell? ⟨b2, 4, none⟩ = some (.int .i64 a1_4) := (blk_cell BK2.out 4).trans rfl
  have hs4_5 : W4.cell? ⟨b2, 5, none⟩ = some (.int .i64 a1_5) := (blk_cell BK2.out 5).trans rfl
  have hs4_6 : W4.cell? ⟨b2, 6, none⟩ = some (.slice A1_6 l1_6.length c1_6) := (blk_cell BK2.out 6).trans rfl
  have hs4_7 : W4.cell? ⟨b2, 7, none⟩ = some (.slice A1_7 l1_7.length c1_7) := (blk_cell BK2.out 7).trans rfl
  have hv4 : W4.cell? ⟨b1, 0, none⟩ = some (.slice A0 l0.length c0) := (blk_cell BK1.out 0).trans rfl
  have hm4 : W4.cell? ⟨b3, 0, none⟩ = some (.int .i64 mm) := (blk_cell BK3.out 0).trans rfl
  go_wp2_with fail
  go_ret
  exact ⟨rfl, HB.out⟩
 subst ce
 by_cases cp : MayP a1_0 a1_1 l1_2 l1_3 a1_4 a1_5 l1_6 l1_7
 case neg =>
  rw [if_neg (fun e => cp e.2.1)] at h
  subst h
  rw [decide_eq_false cp] at hpm
  subst hpm
  clear cp
  go_enter Try.func58, Try.ntmps58
  go_upto_region 2 with (first | ((with_reducible refine gate_dst (N := 2) rfl ?_); refine box_event ?hg (N := 2) ?hd (cs := #[.slice A0 l0.length c0]) (t := 27) ?hr ?_; (case hd => rfl); (case hg => rfl); (case hr => exact Z12); intro b1 hg w1 hbox hb; have n0 := ZM (below_then HB.out (Nat.le_refl _) hb); have BK1 := ZM hbox; have G1 : Aside0 (w.heap.size ≤ b1) := ⟨by rw [hg]; exact Nat.le_refl _⟩; clear HB hbox hb hg; have HB := n0; clear n0) | ((with_reducible refine gate_dst (N := 3) rfl ?_); refine box_event ?hg (N := 3) ?hd (cs := #[.int .i64 a1_0, .int .i64 a1_1, .slice A1_2 l1_2.length c1_2, .slice A1_3 l1_3.length c1_3, .int .i64 a1_4, .int .i64 a1_5, .slice A1_6 l1_6.length c1_6, .slice A1_7 l1_7.length c1_7]) (t := 30) ?hr ?_; (case hd => rfl); (case hg => rfl); (case hr => exact Z12); intro b2 hg w2 hbox hb; have n0 := ZM (below_then HB.out HB.out.size hb); have BK2 := ZM hbox; have n1 := ZM (blk_below BK1.out hb); have G2 : Aside0 (w.heap.size ≤ b2) := ⟨by rw [hg]; exact HB.out.size⟩; clear HB BK1 hbox hb hg; have HB := n0; have BK1 := n1; clear n0 n1; have hz1 : w2.cell? ⟨b1, 0, none⟩ = some (.slice A0 l0.length c0) := (blk_cell BK1.out 0).trans rfl) | (go_at_call 65; (with_reducible refine (vec_Most.calls A0 c0 l0 mm 0 _ (Kd.C_below HR0.out HB.out) HC0.out A1.out).mono ?_); rintro ed W1 ⟨rfl, hb⟩; have n0 := ZM (below_then HB.out HB.out.size hb); have n1 := ZM (blk_below BK1.out hb); have n2 := ZM (blk_below BK2.out hb); clear HB BK1 BK2 hb; have HB := n0; have BK1 := n1; have BK2 := n2; clear n0 n1 n2) | ((with_reducible refine gate_dst (N := 5) rfl ?_); refine box_event ?hg (N := 5) ?hd (cs := #[.int .i64 0]) (t := 2) ?hr ?_; (case hd => rfl); (case hg => rfl); (case hr => exact Z12); intro b3 hg w3 hbox hb; have n0 := ZM (below_then HB.out HB.out.size hb); have BK3 := ZM hbox; have n1 := ZM (blk_below BK1.out hb); have n2 := ZM (blk_below BK2.out hb); have G3 : Aside0 (w.heap.size ≤ b3) := ⟨by rw [hg]; exact HB.out.size⟩; have N1 : Aside0 (b1 ≠ b3) := ⟨by have := blk_lt BK1.out; omega⟩; have N2 : Aside0 (b2 ≠ b3) := ⟨by have := blk_lt BK2.out; omega⟩; clear HB BK1 BK2 hbox hb hg; have HB := n0; have BK1 := n1; have BK2 := n2; clear n0 n1 n2; have hc3 : w3.cell? ⟨b3, 0, none⟩ = some (.int .i64 0) := (blk_cell BK3.out 0).trans rfl; have hf3 : w3.frozen? ⟨b3, 0, none⟩ = false := blk_frozen BK3.out 0))
  have n0 := ZM (HB.out.setCell (p := ⟨b3, 0, none⟩) G3.out (.int .i64 mm))
  have n1 := ZM ((Below.heap_setCell w3 ⟨b3, 0, none⟩ (.int .i64 mm) b1 N1.out).trans BK1.out)
  have n2 := ZM ((Below.heap_setCell w3 ⟨b3, 0, none⟩ (.int .i64 mm) b2 N2.out).trans BK2.out)
  have n3 := ZM (blk_put (cs' := #[.int .i64 mm]) BK3.out 0 (.int .i64 mm) rfl)
  clear HB BK1 BK2 BK3
  have HB := n0
  have BK1 := n1
  have BK2 := n2
  have BK3 := n3
  clear n0 n1 n2 n3 hf3 hc3
  generalize w3.setCell ⟨b3, 0, none⟩ (.int .i64 mm) = W4 at HB BK1 BK2 BK3 ⊢
  have hs4_0 : W4.cell? ⟨b2, 0, none⟩ = some (.int .i64 a1_0) := (blk_cell BK2.out 0).trans rfl
  have hs4_1 : W4.cell? ⟨b2, 1, none⟩ = some (.int .i64 a1_1) := (blk_cell BK2.out 1).trans rfl
  have hs4_2 : W4.cell? ⟨b2, 2, none⟩ = some (.slice A1_2 l1_2.length c1_2) := (blk_cell BK2.out 2).trans rfl
  have hs4_3 : W4.cell? ⟨b2, 3, none⟩ = some (.slice A1_3 l1_3.length c1_3) := (blk_cell BK2.out 3).trans rfl
  have hs4_4 : W4.cell? ⟨b2, 4, none⟩ = some (.int .i64 a1_4) := (blk_cell BK2.out 4).trans rfl
  have hs4_5 : W4.cell? ⟨b2, 5, none⟩ = some (.int .i64 a1_5) := (blk_cell BK2.out 5).trans rfl
  have hs4_6 : W4.cell? ⟨b2, 6, none⟩ = some (.slice A1_6 l1_6.length c1_6) := (blk_cell BK2.out 6).trans rfl
  have hs4_7 : W4.cell? ⟨b2, 7, none⟩ = some (.slice A1_7 l1_7.length c1_7) := (blk_cell BK2.out 7).trans rfl
  have hv4 : W4.cell? ⟨b1, 0, none⟩ = some (.slice A0 l0.length c0) := (blk_cell BK1.out 0).trans rfl
  have hm4 : W4.cell? ⟨b3, 0, none⟩ = some (.int .i64 mm) := (blk_cell BK3.out 0).trans rfl
  go_wp2_with (go_at_call 60; (with_reducible refine (frame_May.calls a1_0 a1_1 A1_2 c1_2 l1_2 A1_3 c1_3 l1_3 a1_4 a1_5 A1_6 c1_6 l1_6 A1_7 c1_7 l1_7 false _ (Kd.C_below HR2.out HB.out) HC2.out (Kd.C_below HR3.out HB.out) HC3.out (Kd.C_below HR6.out HB.out) HC6.out (Kd.C_below HR7.out HB.out) HC7.out A2.out).mono ?_); rintro ed W5 ⟨rfl, hb⟩; have n0 := ZM (below_then HB.out HB.out.size hb); have n1 := ZM (blk_below BK1.out hb); have n2 := ZM (blk_below BK2.out hb); have n3 := ZM (blk_below BK3.out hb); clear HB BK1 BK2 BK3 hb; have HB := n0; have BK1 := n1; have BK2 := n2; have BK3 := n3; clear n0 n1 n2 n3; have hs5_0 : W5.cell? ⟨b2, 0, none⟩ = some (.int .i64 a1_0) := (blk_cell BK2.out 0).trans rfl; have hs5_1 : W5.cell? ⟨b2, 1, none⟩ = some (.int .i64 a1_1) := (blk_cell BK2.out 1).trans rfl; have hs5_2 : W5.cell? ⟨b2, 2, none⟩ = some (.slice A1_2 l1_2.length c1_2) := (blk_cell BK2.out 2).trans rfl; have hs5_3 : W5.cell? ⟨b2, 3, none⟩ = some (.slice A1_3 l1_3.length c1_3) := (blk_cell BK2.out 3).trans rfl; have hs5_4 : W5.cell? ⟨b2, 4, none⟩ = some (.int .i64 a1_4) := (blk_cell BK2.out 4).trans rfl; have hs5_5 : W5.cell? ⟨b2, 5, none⟩ = some (.int .i64 a1_5) := (blk_cell BK2.out 5).trans rfl; have hs5_6 : W5.cell? ⟨b2, 6, none⟩ = some (.slice A1_6 l1_6.length c1_6) := (blk_cell BK2.out 6).trans rfl; have hs5_7 : W5.cell? ⟨b2, 7, none⟩ = some (.slice A1_7 l1_7.length c1_7) := (blk_cell BK2.out 7).trans rfl; have hv5 : W5.cell? ⟨b1, 0, none⟩ = some (.slice A0 l0.length c0) := (blk_cell BK1.out 0).trans rfl; have hm5 : W5.cell? ⟨b3, 0, none⟩ = some (.int .i64 mm) := (blk_cell BK3.out 0).trans rfl)
  go_ret
  exact ⟨rfl, HB.out⟩
 rw [decide_eq_true cp] at hpm
 subst hpm
 by_cases c0_ : a1_0 = 2
 case neg =>
  rw [if_neg (fun e => c0_ e.2.2.1)] at h
  subst h
  have c0b : (a1_0 != 2) = true := bne_iff_ne.2 c0_
  clear c0_ cp
  go_enter Try.func58, Try.ntmps58
  go_upto_region 2 with (first | ((with_reducible refine gate_dst (N := 2) rfl ?_); refine box_event ?hg (N := 2) ?hd (cs := #[.slice A0 l0.length c0]) (t := 27) ?hr ?_; (case hd => rfl); (case hg => rfl); (case hr => exact Z12); intro b1 hg w1 hbox hb; have n0 := ZM (below_then HB.out (Nat.le_refl _) hb); have BK1 := ZM hbox; have G1 : Aside0 (w.heap.size ≤ b1) := ⟨by rw [hg]; exact Nat.le_refl _⟩; clear HB hbox hb hg; have HB := n0; clear n0) | ((with_reducible refine gate_dst (N := 3) rfl ?_); refine box_event ?hg (N := 3) ?hd (cs := #[.int .i64 a1_0, .int .i64 a1_1, .slice A1_2 l1_2.length c1_2, .slice A1_3 l1_3.length c1_3, .int .i64 a1_4, .int .i64 a1_5, .slice A1_6 l1_6.length c1_6, .slice A1_7 l1_7.length c1_7]) (t := 30) ?hr ?_; (case hd => rfl); (case hg => rfl); (case hr => exact Z12); intro b2 hg w2 hbox hb; have n0 := ZM (below_then HB.out HB.out.size hb); have BK2 := ZM hbox; have n1 := ZM (blk_below BK1.out hb); have G2 : Aside0 (w.heap.size ≤ b2) := ⟨by rw [hg]; exact HB.out.size⟩; clear HB BK1 hbox hb hg; have HB := n0; have BK1 := n1; clear n0 n1; have hz1 : w2.cell? ⟨b1, 0, none⟩ = some (.slice A0 l0.length c0) := (blk_cell BK1.out 0).trans rfl) | (go_at_call 65; (with_reducible refine (vec_Most.calls A0 c0 l0 mm 0 _ (Kd.C_below HR0.out HB.out) HC0.out A1.out).mono ?_); rintro ed W1 ⟨rfl, hb⟩; have n0 := ZM (below_then HB.out HB.out.size hb); have n1 := ZM (blk_below BK1.out hb); have n2 := ZM (blk_below BK2.out hb); clear HB BK1 BK2 hb; have HB := n0; have BK1 := n1; have BK2 := n2; clear n0 n1 n2) | ((with_reducible refine gate_dst (N := 5) rfl ?_); refine box_event ?hg (N := 5) ?hd (cs := #[.int .i64 0]) (t := 2) ?hr ?_; (case hd => rfl); (case hg => rfl); (case hr => exact Z12); intro b3 hg w3 hbox hb; have n0 := ZM (below_then HB.out HB.out.size hb); have BK3 := ZM hbox; have n1 := ZM (blk_below BK1.out hb); have n2 := ZM (blk_below BK2.out hb); have G3 : Aside0 (w.heap.size ≤ b3) := ⟨by rw [hg]; exact HB.out.size⟩; have N1 : Aside0 (b1 ≠ b3) := ⟨by have := blk_lt BK1.out; omega⟩; have N2 : Aside0 (b2 ≠ b3) := ⟨by have := blk_lt BK2.out; omega⟩; clear HB BK1 BK2 hbox hb hg; have HB := n0; have BK1 := n1; have BK2 := n2; clear n0 n1 n2; have hc3 : w3.cell? ⟨b3, 0, none⟩ = some (.int .i64 0) := (blk_cell BK3.out 0).trans rfl; have hf3 : w3.frozen? ⟨b3, 0, none⟩ = false := blk_frozen BK3.out 0))
  have n0 := ZM (HB.out.setCell (p := ⟨b3, 0, none⟩) G3.out (.int .i64 mm))
  have n1 := ZM ((Below.heap_setCell w3 ⟨b3, 0, none⟩ (.int .i64 mm) b1 N1.out).trans BK1.out)
  have n2 := ZM ((Below.heap_setCell w3 ⟨b3, 0, none⟩ (.int .i64 mm) b2 N2.out).trans BK2.out)
  have n3 := ZM (blk_put (cs' := #[.int .i64 mm]) BK3.out 0 (.int .i64 mm) rfl)
  clear HB BK1 BK2 BK3
  have HB := n0
  have BK1 := n1
  have BK2 := n2
  have BK3 := n3
  clear n0 n1 n2 n3 hf3 hc3
  generalize w3.setCell ⟨b3, 0, none⟩ (.int .i64 mm) = W4 at HB BK1 BK2 BK3 ⊢
  have hs4_0 : W4.cell? ⟨b2, 0, none⟩ = some (.int .i64 a1_0) := (blk_cell BK2.out 0).trans rfl
  have hs4_1 : W4.cell? ⟨b2, 1, none⟩ = some (.int .i64 a1_1) := (blk_cell BK2.out 1).trans rfl
  have hs4_2 : W4.cell? ⟨b2, 2, none⟩ = some (.slice A1_2 l1_2.length c1_2) := (blk_cell BK2.out 2).trans rfl
  have hs4_3 : W4.cell? ⟨b2, 3, none⟩ = some (.slice A1_3 l1_3.length c1_3) := (blk_cell BK2.out 3).trans rfl
  have hs4_4 : W4.cell? ⟨b2, 4, none⟩ = some (.int .i64 a1_4) := (blk_cell BK2.out 4).trans rfl
  have hs4_5 : W4.cell? ⟨b2, 5, none⟩ = some (.int .i64 a1_5) := (blk_cell BK2.out 5).trans rfl
  have hs4_6 : W4.cell? ⟨b2, 6, none⟩ = some (.slice A1_6 l1_6.length c1_6) := (blk_cell BK2.out 6).trans rfl
  have hs4_7 : W4.cell? ⟨b2, 7, none⟩ = some (.slice A1_7 l1_7.length c1_7) := (blk_cell BK2.out 7).trans rfl
  have hv4 : W4.cell? ⟨b1, 0, none⟩ = some (.slice A0 l0.length c0) := (blk_cell BK1.out 0).trans rfl
  have hm4 : W4.cell? ⟨b3, 0, none⟩ = some (.int .i64 mm) := (blk_cell BK3.out 0).trans rfl
  go_wp2_with (go_at_call 60; (with_reducible refine (frame_May.calls a1_0 a1_1 A1_2 c1_2 l1_2 A1_3 c1_3 l1_3 a1_4 a1_5 A1_6 c1_6 l1_6 A1_7 c1_7 l1_7 true _ (Kd.C_below HR2.out HB.out) HC2.out (Kd.C_below HR3.out HB.out) HC3.out (Kd.C_below HR6.out HB.out) HC6.out (Kd.C_below HR7.out HB.out) HC7.out A2.out).mono ?_); rintro ed W5 ⟨rfl, hb⟩; have n0 := ZM (below_then HB.out HB.out.size hb); have n1 := ZM (blk_below BK1.out hb); have n2 := ZM (blk_below BK2.out hb); have n3 := ZM (blk_below BK3.out hb); clear HB BK1 BK2 BK3 hb; have HB := n0; have BK1 := n1; have BK2 := n2; have BK3 := n3; clear n0 n1 n2 n3; have hs5_0 : W5.cell? ⟨b2, 0, none⟩ = some (.int .i64 a1_0) := (blk_cell BK2.out 0).trans rfl; have hs5_1 : W5.cell? ⟨b2, 1, none⟩ = some (.int .i64 a1_1) := (blk_cell BK2.out 1).trans rfl; have hs5_2 : W5.cell? ⟨b2, 2, none⟩ = some (.slice A1_2 l1_2.length c1_2) := (blk_cell BK2.out 2).trans rfl; have hs5_3 : W5.cell? ⟨b2, 3, none⟩ = some (.slice A1_3 l1_3.length c1_3) := (blk_cell BK2.out 3).trans rfl; have hs5_4 : W5.cell? ⟨b2, 4, none⟩ = some (.int .i64 a1_4) := (blk_cell BK2.out 4).trans rfl; have hs5_5 : W5.cell? ⟨b2, 5, none⟩ = some (.int .i64 a1_5) := (blk_cell BK2.out 5).trans rfl; have hs5_6 : W5.cell? ⟨b2, 6, none⟩ = some (.slice A1_6 l1_6.length c1_6) := (blk_cell BK2.out 6).trans rfl; have hs5_7 : W5.cell? ⟨b2, 7, none⟩ = some (.slice A1_7 l1_7.length c1_7) := (blk_cell BK2.out 7).trans rfl; have hv5 : W5.cell? ⟨b1, 0, none⟩ = some (.slice A0 l0.length c0) := (blk_cell BK1.out 0).trans rfl; have hm5 : W5.cell? ⟨b3, 0, none⟩ = some (.int .i64 mm) := (blk_cell BK3.out 0).trans rfl)
  go_ret
  exact ⟨rfl, HB.out⟩
 have c0b : (a1_0 != 2) = false := bne_eq_false_iff_eq.2 c0_
 by_cases c1_ : a1_1 = (l0.length : Int)
 case neg =>
  rw [if_neg (fun e => c1_ e.2.2.2.1)] at h
  subst h
  have c1b : (a1_1 != (l0.length : Int)) = true := bne_iff_ne.2 c1_
  clear c0_ c1_ cp
  go_enter Try.func58, Try.ntmps58
  go_upto_region 2 with (first | ((with_reducible refine gate_dst (N := 2) rfl ?_); refine box_event ?hg (N := 2) ?hd (cs := #[.slice A0 l0.length c0]) (t := 27) ?hr ?_; (case hd => rfl); (case hg => rfl); (case hr => exact Z12); intro b1 hg w1 hbox hb; have n0 := ZM (below_then HB.out (Nat.le_refl _) hb); have BK1 := ZM hbox; have G1 : Aside0 (w.heap.size ≤ b1) := ⟨by rw [hg]; exact Nat.le_refl _⟩; clear HB hbox hb hg; have HB := n0; clear n0) | ((with_reducible refine gate_dst (N := 3) rfl ?_); refine box_event ?hg (N := 3) ?hd (cs := #[.int .i64 a1_0, .int .i64 a1_1, .slice A1_2 l1_2.length c1_2, .slice A1_3 l1_3.length c1_3, .int .i64 a1_4, .int .i64 a1_5, .slice A1_6 l1_6.length c1_6, .slice A1_7 l1_7.length c1_7]) (t := 30) ?hr ?_; (case hd => rfl); (case hg => rfl); (case hr => exact Z12); intro b2 hg w2 hbox hb; have n0 := ZM (below_then HB.out HB.out.size hb); have BK2 := ZM hbox; have n1 := ZM (blk_below BK1.out hb); have G2 : Aside0 (w.heap.size ≤ b2) := ⟨by rw [hg]; exact HB.out.size⟩; clear HB BK1 hbox hb hg; have HB := n0; have BK1 := n1; clear n0 n1; have hz1 : w2.cell? ⟨b1, 0, none⟩ = some (.slice A0 l0.length c0) := (blk_cell BK1.out 0).trans rfl) | (go_at_call 65; (with_reducible refine (vec_Most.calls A0 c0 l0 mm 0 _ (Kd.C_below HR0.out HB.out) HC0.out A1.out).mono ?_); rintro ed W1 ⟨rfl, hb⟩; have n0 := ZM (below_then HB.out HB.out.size hb); have n1 := ZM (blk_below BK1.out hb); have n2 := ZM (blk_below BK2.out hb); clear HB BK1 BK2 hb; have HB := n0; have BK1 := n1; have BK2 := n2; clear n0 n1 n2) | ((with_reducible refine gate_dst (N := 5) rfl ?_); refine box_event ?hg (N := 5) ?hd (cs := #[.int .i64 0]) (t := 2) ?hr ?_; (case hd => rfl); (case hg => rfl); (case hr => exact Z12); intro b3 hg w3 hbox hb; have n0 := ZM (below_then HB.out HB.out.size hb); have BK3 := ZM hbox; have n1 := ZM (blk_below BK1.out hb); have n2 := ZM (blk_below BK2.out hb); have G3 : Aside0 (w.heap.size ≤ b3) := ⟨by rw [hg]; exact HB.out.size⟩; have N1 : Aside0 (b1 ≠ b3) := ⟨by have := blk_lt BK1.out; omega⟩; have N2 : Aside0 (b2 ≠ b3) := ⟨by have := blk_lt BK2.out; omega⟩; clear HB BK1 BK2 hbox hb hg; have HB := n0; have BK1 := n1; have BK2 := n2; clear n0 n1 n2; have hc3 : w3.cell? ⟨b3, 0, none⟩ = some (.int .i64 0) := (blk_cell BK3.out 0).trans rfl; have hf3 : w3.frozen? ⟨b3, 0, none⟩ = false := blk_frozen BK3.out 0))
  have n0 := ZM (HB.out.setCell (p := ⟨b3, 0, none⟩) G3.out (.int .i64 mm))
  have n1 := ZM ((Below.heap_setCell w3 ⟨b3, 0, none⟩ (.int .i64 mm) b1 N1.out).trans BK1.out)
  have n2 := ZM ((Below.heap_setCell w3 ⟨b3, 0, none⟩ (.int .i64 mm) b2 N2.out).trans BK2.out)
  have n3 := ZM (blk_put (cs' := #[.int .i64 mm]) BK3.out 0 (.int .i64 mm) rfl)
  clear HB BK1 BK2 BK3
  have HB := n0
  have BK1 := n1
  have BK2 := n2
  have BK3 := n3
  clear n0 n1 n2 n3 hf3 hc3
  generalize w3.setCell ⟨b3, 0, none⟩ (.int .i64 mm) = W4 at HB BK1 BK2 BK3 ⊢
  have hs4_0 : W4.cell? ⟨b2, 0, none⟩ = some (.int .i64 a1_0) := (blk_cell BK2.out 0).trans rfl
  have hs4_1 : W4.cell? ⟨b2, 1, none⟩ = some (.int .i64 a1_1) := (blk_cell BK2.out 1).trans rfl
  have hs4_2 : W4.cell? ⟨b2, 2, none⟩ = some (.slice A1_2 l1_2.length c1_2) := (blk_cell BK2.out 2).trans rfl
  have hs4_3 : W4.cell? ⟨b2, 3, none⟩ = some (.slice A1_3 l1_3.length c1_3) := (blk_cell BK2.out 3).trans rfl
  have hs4_4 : W4.cell? ⟨b2, 4, none⟩ = some (.int .i64 a1_4) := (blk_cell BK2.out 4).trans rfl
  have hs4_5 : W4.cell? ⟨b2, 5, none⟩ = some (.int .i64 a1_5) := (blk_cell BK2.out 5).trans rfl
  have hs4_6 : W4.cell? ⟨b2, 6, none⟩ = some (.slice A1_6 l1_6.length c1_6) := (blk_cell BK2.out 6).trans rfl
  have hs4_7 : W4.cell? ⟨b2, 7, none⟩ = some (.slice A1_7 l1_7.length c1_7) := (blk_cell BK2.out 7).trans rfl
  have hv4 : W4.cell? ⟨b1, 0, none⟩ = some (.slice A0 l0.length c0) := (blk_cell BK1.out 0).trans rfl
  have hm4 : W4.cell? ⟨b3, 0, none⟩ = some (.int .i64 mm) := (blk_cell BK3.out 0).trans rfl
  go_wp2_with (go_at_call 60; (with_reducible refine (frame_May.calls a1_0 a1_1 A1_2 c1_2 l1_2 A1_3 c1_3 l1_3 a1_4 a1_5 A1_6 c1_6 l1_6 A1_7 c1_7 l1_7 true _ (Kd.C_below HR2.out HB.out) HC2.out (Kd.C_below HR3.out HB.out) HC3.out (Kd.C_below HR6.out HB.out) HC6.out (Kd.C_below HR7.out HB.out) HC7.out A2.out).mono ?_); rintro ed W5 ⟨rfl, hb⟩; have n0 := ZM (below_then HB.out HB.out.size hb); have n1 := ZM (blk_below BK1.out hb); have n2 := ZM (blk_below BK2.out hb); have n3 := ZM (blk_below BK3.out hb); clear HB BK1 BK2 BK3 hb; have HB := n0; have BK1 := n1; have BK2 := n2; have BK3 := n3; clear n0 n1 n2 n3; have hs5_0 : W5.cell? ⟨b2, 0, none⟩ = some (.int .i64 a1_0) := (blk_cell BK2.out 0).trans rfl; have hs5_1 : W5.cell? ⟨b2, 1, none⟩ = some (.int .i64 a1_1) := (blk_cell BK2.out 1).trans rfl; have hs5_2 : W5.cell? ⟨b2, 2, none⟩ = some (.slice A1_2 l1_2.length c1_2) := (blk_cell BK2.out 2).trans rfl; have hs5_3 : W5.cell? ⟨b2, 3, none⟩ = some (.slice A1_3 l1_3.length c1_3) := (blk_cell BK2.out 3).trans rfl; have hs5_4 : W5.cell? ⟨b2, 4, none⟩ = some (.int .i64 a1_4) := (blk_cell BK2.out 4).trans rfl; have hs5_5 : W5.cell? ⟨b2, 5, none⟩ = some (.int .i64 a1_5) := (blk_cell BK2.out 5).trans rfl; have hs5_6 : W5.cell? ⟨b2, 6, none⟩ = some (.slice A1_6 l1_6.length c1_6) := (blk_cell BK2.out 6).trans rfl; have hs5_7 : W5.cell? ⟨b2, 7, none⟩ = some (.slice A1_7 l1_7.length c1_7) := (blk_cell BK2.out 7).trans rfl; have hv5 : W5.cell? ⟨b1, 0, none⟩ = some (.slice A0 l0.length c0) := (blk_cell BK1.out 0).trans rfl; have hm5 : W5.cell? ⟨b3, 0, none⟩ = some (.int .i64 mm) := (blk_cell BK3.out 0).trans rfl)
  go_ret
  exact ⟨rfl, HB.out⟩
 have c1b : (a1_1 != (l0.length : Int)) = false := bne_eq_false_iff_eq.2 c1_
 by_cases c4_ : a1_4 = mm
 case neg =>
  rw [if_neg (fun e => c4_ e.2.2.2.2)] at h
  subst h
  have c4b : (a1_4 != mm) = true := bne_iff_ne.2 c4_
  clear c0_ c1_ c4_ cp
  go_enter Try.func58, Try.ntmps58
  go_upto_region 2 with (first | ((with_reducible refine gate_dst (N := 2) rfl ?_); refine box_event ?hg (N := 2) ?hd (cs := #[.slice A0 l0.length c0]) (t := 27) ?hr ?_; (case hd => rfl); (case hg => rfl); (case hr => exact Z12); intro b1 hg w1 hbox hb; have n0 := ZM (below_then HB.out (Nat.le_refl _) hb); have BK1 := ZM hbox; have G1 : Aside0 (w.heap.size ≤ b1) := ⟨by rw [hg]; exact Nat.le_refl _⟩; clear HB hbox hb hg; have HB := n0; clear n0) | ((with_reducible refine gate_dst (N := 3) rfl ?_); refine box_event ?hg (N := 3) ?hd (cs := #[.int .i64 a1_0, .int .i64 a1_1, .slice A1_2 l1_2.length c1_2, .slice A1_3 l1_3.length c1_3, .int .i64 a1_4, .int .i64 a1_5, .slice A1_6 l1_6.length c1_6, .slice A1_7 l1_7.length c1_7]) (t := 30) ?hr ?_; (case hd => rfl); (case hg => rfl); (case hr => exact Z12); intro b2 hg w2 hbox hb; have n0 := ZM (below_then HB.out HB.out.size hb); have BK2 := ZM hbox; have n1 := ZM (blk_below BK1.out hb); have G2 : Aside0 (w.heap.size ≤ b2) := ⟨by rw [hg]; exact HB.out.size⟩; clear HB BK1 hbox hb hg; have HB := n0; have BK1 := n1; clear n0 n1; have hz1 : w2.cell? ⟨b1, 0, none⟩ = some (.slice A0 l0.length c0) := (blk_cell BK1.out 0).trans rfl) | (go_at_call 65; (with_reducible refine (vec_Most.calls A0 c0 l0 mm 0 _ (Kd.C_below HR0.out HB.out) HC0.out A1.out).mono ?_); rintro ed W1 ⟨rfl, hb⟩; have n0 := ZM (below_then HB.out HB.out.size hb); have n1 := ZM (blk_below BK1.out hb); have n2 := ZM (blk_below BK2.out hb); clear HB BK1 BK2 hb; have HB := n0; have BK1 := n1; have BK2 := n2; clear n0 n1 n2) | ((with_reducible refine gate_dst (N := 5) rfl ?_); refine box_event ?hg (N := 5) ?hd (cs := #[.int .i64 0]) (t := 2) ?hr ?_; (case hd => rfl); (case hg => rfl); (case hr => exact Z12); intro b3 hg w3 hbox hb; have n0 := ZM (below_then HB.out HB.out.size hb); have BK3 := ZM hbox; have n1 := ZM (blk_below BK1.out hb); have n2 := ZM (blk_below BK2.out hb); have G3 : Aside0 (w.heap.size ≤ b3) := ⟨by rw [hg]; exact HB.out.size⟩; have N1 : Aside0 (b1 ≠ b3) := ⟨by have := blk_lt BK1.out; omega⟩; have N2 : Aside0 (b2 ≠ b3) := ⟨by have := blk_lt BK2.out; omega⟩; clear HB BK1 BK2 hbox hb hg; have HB := n0; have BK1 := n1; have BK2 := n2; clear n0 n1 n2; have hc3 : w3.cell? ⟨b3, 0, none⟩ = some (.int .i64 0) := (blk_cell BK3.out 0).trans rfl; have hf3 : w3.frozen? ⟨b3, 0, none⟩ = false := blk_frozen BK3.out 0))
  have n0 := ZM (HB.out.setCell (p := ⟨b3, 0, none⟩) G3.out (.int .i64 mm))
  have n1 := ZM ((Below.heap_setCell w3 ⟨b3, 0, none⟩ (.int .i64 mm) b1 N1.out).trans BK1.out)
  have n2 := ZM ((Below.heap_setCell w3 ⟨b3, 0, none⟩ (.int .i64 mm) b2 N2.out).trans BK2.out)
  have n3 := ZM (blk_put (cs' := #[.int .i64 mm]) BK3.out 0 (.int .i64 mm) rfl)
  clear HB BK1 BK2 BK3
  have HB := n0
  have BK1 := n1
  have BK2 := n2
  have BK3 := n3
  clear n0 n1 n2 n3 hf3 hc3
  generalize w3.setCell ⟨b3, 0, none⟩ (.int .i64 mm) = W4 at HB BK1 BK2 BK3 ⊢
  have hs4_0 : W4.cell? ⟨b2, 0, none⟩ = some (.int .i64 a1_0) := (blk_cell BK2.out 0).trans rfl
  have hs4_1 : W4.cell? ⟨b2, 1, none⟩ = some (.int .i64 a1_1) := (blk_cell BK2.out 1).trans rfl
  have hs4_2 : W4.cell? ⟨b2, 2, none⟩ = some (.slice A1_2 l1_2.length c1_2) := (blk_cell BK2.out 2).trans rfl
  have hs4_3 : W4.cell? ⟨b2, 3, none⟩ = some (.slice A1_3 l1_3.length c1_3) := (blk_cell BK2.out 3).trans rfl
  have hs4_4 : W4.cell? ⟨b2, 4, none⟩ = some (.int .i64 a1_4) := (blk_cell BK2.out 4).trans rfl
  have hs4_5 : W4.cell? ⟨b2, 5, none⟩ = some (.int .i64 a1_5) := (blk_cell BK2.out 5).trans rfl
  have hs4_6 : W4.cell? ⟨b2, 6, none⟩ = some (.slice A1_6 l1_6.length c1_6) := (blk_cell BK2.out 6).trans rfl
  have hs4_7 : W4.cell? ⟨b2, 7, none⟩ = some (.slice A1_7 l1_7.length c1_7) := (blk_cell BK2.out 7).trans rfl
  have hv4 : W4.cell? ⟨b1, 0, none⟩ = some (.slice A0 l0.length c0) := (blk_cell BK1.out 0).trans rfl
  have hm4 : W4.cell? ⟨b3, 0, none⟩ = some (.int .i64 mm) := (blk_cell BK3.out 0).trans rfl
  go_wp2_with (go_at_call 60; (with_reducible refine (frame_May.calls a1_0 a1_1 A1_2 c1_2 l1_2 A1_3 c1_3 l1_3 a1_4 a1_5 A1_6 c1_6 l1_6 A1_7 c1_7 l1_7 true _ (Kd.C_below HR2.out HB.out) HC2.out (Kd.C_below HR3.out HB.out) HC3.out (Kd.C_below HR6.out HB.out) HC6.out (Kd.C_below HR7.out HB.out) HC7.out A2.out).mono ?_); rintro ed W5 ⟨rfl, hb⟩; have n0 := ZM (below_then HB.out HB.out.size hb); have n1 := ZM (blk_below BK1.out hb); have n2 := ZM (blk_below BK2.out hb); have n3 := ZM (blk_below BK3.out hb); clear HB BK1 BK2 BK3 hb; have HB := n0; have BK1 := n1; have BK2 := n2; have BK3 := n3; clear n0 n1 n2 n3; have hs5_0 : W5.cell? ⟨b2, 0, none⟩ = some (.int .i64 a1_0) := (blk_cell BK2.out 0).trans rfl; have hs5_1 : W5.cell? ⟨b2, 1, none⟩ = some (.int .i64 a1_1) := (blk_cell BK2.out 1).trans rfl; have hs5_2 : W5.cell? ⟨b2, 2, none⟩ = some (.slice A1_2 l1_2.length c1_2) := (blk_cell BK2.out 2).trans rfl; have hs5_3 : W5.cell? ⟨b2, 3, none⟩ = some (.slice A1_3 l1_3.length c1_3) := (blk_cell BK2.out 3).trans rfl; have hs5_4 : W5.cell? ⟨b2, 4, none⟩ = some (.int .i64 a1_4) := (blk_cell BK2.out 4).trans rfl; have hs5_5 : W5.cell? ⟨b2, 5, none⟩ = some (.int .i64 a1_5) := (blk_cell BK2.out 5).trans rfl; have hs5_6 : W5.cell? ⟨b2, 6, none⟩ = some (.slice A1_6 l1_6.length c1_6) := (blk_cell BK2.out 6).trans rfl; have hs5_7 : W5.cell? ⟨b2, 7, none⟩ = some (.slice A1_7 l1_7.length c1_7) := (blk_cell BK2.out 7).trans rfl; have hv5 : W5.cell? ⟨b1, 0, none⟩ = some (.slice A0 l0.length c0) := (blk_cell BK1.out 0).trans rfl; have hm5 : W5.cell? ⟨b3, 0, none⟩ = some (.int .i64 mm) := (blk_cell BK3.out 0).trans rfl)
  go_ret
  exact ⟨rfl, HB.out⟩
 rw [if_pos ⟨rfl, cp, c0_, c1_, c4_⟩] at h
 have HL6 : Aside0 (l1_6.length = l0.length) := ⟨by rcases cp.2 with e | e | e | e <;> first | (exfalso; have := e.1; omega) | (have := e.2.2.1; omega)⟩
 have HL7 : Aside0 (l1_7.length = l0.length) := ⟨by rcases cp.2 with e | e | e | e <;> first | (exfalso; have := e.1; omega) | (have := e.2.2.2.2.2.2.2; omega)⟩
 have HG := ZM h
 subst c4_
 clear cp c0_ c1_ h
 go_enter Try.func58, Try.ntmps58
 go_upto_region 2 with (first | ((with_reducible refine gate_dst (N := 2) rfl ?_); refine box_event ?hg (N := 2) ?hd (cs := #[.slice A0 l0.length c0]) (t := 27) ?hr ?_; (case hd => rfl); (case hg => rfl); (case hr => exact Z12); intro b1 hg w1 hbox hb; have n0 := ZM (below_then HB.out (Nat.le_refl _) hb); have BK1 := ZM hbox; have G1 : Aside0 (w.heap.size ≤ b1) := ⟨by rw [hg]; exact Nat.le_refl _⟩; clear HB hbox hb hg; have HB := n0; clear n0) | ((with_reducible refine gate_dst (N := 3) rfl ?_); refine box_event ?hg (N := 3) ?hd (cs := #[.int .i64 a1_0, .int .i64 a1_1, .slice A1_2 l1_2.length c1_2, .slice A1_3 l1_3.length c1_3, .int .i64 a1_4, .int .i64 a1_5, .slice A1_6 l1_6.length c1_6, .slice A1_7 l1_7.length c1_7]) (t := 30) ?hr ?_; (case hd => rfl); (case hg => rfl); (case hr => exact Z12); intro b2 hg w2 hbox hb; have n0 := ZM (below_then HB.out HB.out.size hb); have BK2 := ZM hbox; have n1 := ZM (blk_below BK1.out hb); have G2 : Aside0 (w.heap.size ≤ b2) := ⟨by rw [hg]; exact HB.out.size⟩; clear HB BK1 hbox hb hg; have HB := n0; have BK1 := n1; clear n0 n1; have hz1 : w2.cell? ⟨b1, 0, none⟩ = some (.slice A0 l0.length c0) := (blk_cell BK1.out 0).trans rfl) | (go_at_call 65; (with_reducible refine (vec_Most.calls A0 c0 l0 a1_4 0 _ (Kd.C_below HR0.out HB.out) HC0.out A1.out).mono ?_); rintro ed W1 ⟨rfl, hb⟩; have n0 := ZM (below_then HB.out HB.out.size hb); have n1 := ZM (blk_below BK1.out hb); have n2 := ZM (blk_below BK2.out hb); clear HB BK1 BK2 hb; have HB := n0; have BK1 := n1; have BK2 := n2; clear n0 n1 n2) | ((with_reducible refine gate_dst (N := 5) rfl ?_); refine box_event ?hg (N := 5) ?hd (cs := #[.int .i64 0]) (t := 2) ?hr ?_; (case hd => rfl); (case hg => rfl); (case hr => exact Z12); intro b3 hg w3 hbox hb; have n0 := ZM (below_then HB.out HB.out.size hb); have BK3 := ZM hbox; have n1 := ZM (blk_below BK1.out hb); have n2 := ZM (blk_below BK2.out hb); have G3 : Aside0 (w.heap.size ≤ b3) := ⟨by rw [hg]; exact HB.out.size⟩; have N1 : Aside0 (b1 ≠ b3) := ⟨by have := blk_lt BK1.out; omega⟩; have N2 : Aside0 (b2 ≠ b3) := ⟨by have := blk_lt BK2.out; omega⟩; clear HB BK1 BK2 hbox hb hg; have HB := n0; have BK1 := n1; have BK2 := n2; clear n0 n1 n2; have hc3 : w3.cell? ⟨b3, 0, none⟩ = some (.int .i64 0) := (blk_cell BK3.out 0).trans rfl; have hf3 : w3.frozen? ⟨b3, 0, none⟩ = false := blk_frozen BK3.out 0))
 have n0 := ZM (HB.out.setCell (p := ⟨b3, 0, none⟩) G3.out (.int .i64 a1_4))
 have n1 := ZM ((Below.heap_setCell w3 ⟨b3, 0, none⟩ (.int .i64 a1_4) b1 N1.out).trans BK1.out)
 have n2 := ZM ((Below.heap_setCell w3 ⟨b3, 0, none⟩ (.int .i64 a1_4) b2 N2.out).trans BK2.out)
 have n3 := ZM (blk_put (cs' := #[.int .i64 a1_4]) BK3.out 0 (.int .i64 a1_4) rfl)
 clear HB BK1 BK2 BK3
 have HB := n0
 have BK1 := n1
 have BK2 := n2
 have BK3 := n3
 clear n0 n1 n2 n3 hf3 hc3
 generalize w3.setCell ⟨b3, 0, none⟩ (.int .i64 a1_4) = W4 at HB BK1 BK2 BK3 ⊢
 have hs4_0 : W4.cell? ⟨b2, 0, none⟩ = some (.int .i64 a1_0) := (blk_cell BK2.out 0).trans rfl
 have hs4_1 : W4.cell? ⟨b2, 1, none⟩ = some (.int .i64 a1_1) := (blk_cell BK2.out 1).trans rfl
 have hs4_2 : W4.cell? ⟨b2, 2, none⟩ = some (.slice A1_2 l1_2.length c1_2) := (blk_cell BK2.out 2).trans rfl
 have hs4_3 : W4.cell? ⟨b2, 3, none⟩ = some (.slice A1_3 l1_3.length c1_3) := (blk_cell BK2.out 3).trans rfl
 have hs4_4 : W4.cell? ⟨b2, 4, none⟩ = some (.int .i64 a1_4) := (blk_cell BK2.out 4).trans rfl
 have hs4_5 : W4.cell? ⟨b2, 5, none⟩ = some (.int .i64 a1_5) := (blk_cell BK2.out 5).trans rfl
 have hs4_6 : W4.cell? ⟨b2, 6, none⟩ = some (.slice A1_6 l1_6.length c1_6) := (blk_cell BK2.out 6).trans rfl
 have hs4_7 : W4.cell? ⟨b2, 7, none⟩ = some (.slice A1_7 l1_7.length c1_7) := (blk_cell BK2.out 7).trans rfl
 have hv4 : W4.cell? ⟨b1, 0, none⟩ = some (.slice A0 l0.length c0) := (blk_cell BK1.out 0).trans rfl
 have hm4 : W4.cell? ⟨b3, 0, none⟩ = some (.int .i64 a1_4) := (blk_cell BK3.out 0).trans rfl
 go_wp2_with (go_at_call 60; (with_reducible refine (frame_May.calls a1_0 a1_1 A1_2 c1_2 l1_2 A1_3 c1_3 l1_3 a1_4 a1_5 A1_6 c1_6 l1_6 A1_7 c1_7 l1_7 true _ (Kd.C_below HR2.out HB.out) HC2.out (Kd.C_below HR3.out HB.out) HC3.out (Kd.C_below HR6.out HB.out) HC6.out (Kd.C_below HR7.out HB.out) HC7.out A2.out).mono ?_); rintro ed W5 ⟨rfl, hb⟩; have n0 := ZM (below_then HB.out HB.out.size hb); have n1 := ZM (blk_below BK1.out hb); have n2 := ZM (blk_below BK2.out hb); have n3 := ZM (blk_below BK3.out hb); clear HB BK1 BK2 BK3 hb; have HB := n0; have BK1 := n1; have BK2 := n2; have BK3 := n3; clear n0 n1 n2 n3; have hs5_0 : W5.cell? ⟨b2, 0, none⟩ = some (.int .i64 a1_0) := (blk_cell BK2.out 0).trans rfl; have hs5_1 : W5.cell? ⟨b2, 1, none⟩ = some (.int .i64 a1_1) := (blk_cell BK2.out 1).trans rfl; have hs5_2 : W5.cell? ⟨b2, 2, none⟩ = some (.slice A1_2 l1_2.length c1_2) := (blk_cell BK2.out 2).trans rfl; have hs5_3 : W5.cell? ⟨b2, 3, none⟩ = some (.slice A1_3 l1_3.length c1_3) := (blk_cell BK2.out 3).trans rfl; have hs5_4 : W5.cell? ⟨b2, 4, none⟩ = some (.int .i64 a1_4) := (blk_cell BK2.out 4).trans rfl; have hs5_5 : W5.cell? ⟨b2, 5, none⟩ = some (.int .i64 a1_5) := (blk_cell BK2.out 5).trans rfl; have hs5_6 : W5.cell? ⟨b2, 6, none⟩ = some (.slice A1_6 l1_6.length c1_6) := (blk_cell BK2.out 6).trans rfl; have hs5_7 : W5.cell? ⟨b2, 7, none⟩ = some (.slice A1_7 l1_7.length c1_7) := (blk_cell BK2.out 7).trans rfl; have hv5 : W5.cell? ⟨b1, 0, none⟩ = some (.slice A0 l0.length c0) := (blk_cell BK1.out 0).trans rfl; have hm5 : W5.cell? ⟨b3, 0, none⟩ = some (.int .i64 a1_4) := (blk_cell BK3.out 0).trans rfl)
 go_loopw [42] (fun vi W => ∃ (k : Nat), vi = .int .i64 k ∧ Aside0 (k ≤ l0.length) ∧ Aside0 (nearGo a1_4 a1_5 l0 l1_6 l1_7 (l0.length - k) k = r) ∧ Aside0 (W.heap[b1]? = some (.cells #[.slice A0 l0.length c0] 27 (0, 0))) ∧ Aside0 (W.heap[b2]? = some (.cells #[.int .i64 a1_0, .int .i64 a1_1, .slice A1_2 l1_2.length c1_2, .slice A1_3 l1_3.length c1_3, .int .i64 a1_4, .int .i64 a1_5, .slice A1_6 l1_6.length c1_6, .slice A1_7 l1_7.length c1_7] 30 (0, 0))) ∧ Aside0 (W.heap[b3]? = some (.cells #[.int .i64 a1_4] 2 (0, 0))) ∧ Aside0 (Below w.heap.size w W)) (fun i _ => l0.length - (intOf i).toNat)
 case atStart => exact ⟨0, rfl, ⟨Nat.zero_le _⟩, HG, BK1, BK2, BK3, HB⟩
 case round =>
  obtain ⟨k, rfl, ⟨hk⟩, ⟨hgo⟩, BK1, BK2, BK3, HB⟩ := hrel
  clear HG
  by_cases hlt : k < l0.length
  · have HLT := ZM hlt
    have hltb : decide ((k : Int) < (l0.length : Int)) = true := decide_eq_true (by omega)
    obtain ⟨o, ho⟩ : ∃ o, offN a1_4 a1_5 (rd l0 (k : Int)) (rd l1_6 (k : Int)) (rdOf false l1_7 (k : Int)) = o := ⟨_, rfl⟩
    rw [show l0.length - k = (l0.length - (k + 1)) + 1 by omega, nearGo, ho] at hgo
    by_cases co : o = true
    · subst co
      rw [if_pos rfl] at hgo
      subst hgo
      clear hk
      go_wp2_with (go_at_fn 93; refine (quant_Near_1.calls b1 b3 b2 A0 c0 l0 a1_4 a1_0 a1_1 a1_4 a1_5 (.slice A1_2 l1_2.length c1_2) (.slice A1_3 l1_3.length c1_3) A1_6 c1_6 l1_6 A1_7 c1_7 l1_7 k _ BK1.out BK3.out BK2.out (Kd.C_below HR0.out HB.out) (Kd.C_below HR6.out HB.out) (Kd.C_below HR7.out HB.out) HLT.out (by have := HLT.out; have := HL6.out; omega) (by have := HLT.out; have := HL7.out; omega) HV.out HMI.out).mono ?_; rintro ed W6 ⟨rfl, hb⟩; rw [ho]; have n0 := ZM (below_then HB.out HB.out.size hb); have n1 := ZM (blk_below BK1.out hb); have n2 := ZM (blk_below BK2.out hb); have n3 := ZM (blk_below BK3.out hb); clear HB BK1 BK2 BK3 hb; have HB := n0; have BK1 := n1; have BK2 := n2; have BK3 := n3; clear n0 n1 n2 n3)
      go_ret
      exact ⟨rfl, HB.out⟩
    · replace co : o = false := Bool.eq_false_iff.2 co
      subst co
      rw [if_neg (by decide)] at hgo
      have HG := ZM hgo
      clear hgo hk
      go_wp2_with (go_at_fn 93; refine (quant_Near_1.calls b1 b3 b2 A0 c0 l0 a1_4 a1_0 a1_1 a1_4 a1_5 (.slice A1_2 l1_2.length c1_2) (.slice A1_3 l1_3.length c1_3) A1_6 c1_6 l1_6 A1_7 c1_7 l1_7 k _ BK1.out BK3.out BK2.out (Kd.C_below HR0.out HB.out) (Kd.C_below HR6.out HB.out) (Kd.C_below HR7.out HB.out) HLT.out (by have := HLT.out; have := HL6.out; omega) (by have := HLT.out; have := HL7.out; omega) HV.out HMI.out).mono ?_; rintro ed W6 ⟨rfl, hb⟩; rw [ho]; have n0 := ZM (below_then HB.out HB.out.size hb); have n1 := ZM (blk_below BK1.out hb); have n2 := ZM (blk_below BK2.out hb); have n3 := ZM (blk_below BK3.out hb); clear HB BK1 BK2 BK3 hb; have HB := n0; have BK1 := n1; have BK2 := n2; have BK3 := n3; clear n0 n1 n2 n3)
      exact ⟨⟨k + 1, by first | rfl | (rw [wrap64_of (show I64 ((k : Int) + 1) by have := HLT.out; have := HM.out; unfold I64; omega)]; rfl), ⟨HLT.out⟩, HG, BK1, BK2, BK3, HB⟩, by have := HLT.out; have := HM.out; (try rw [wrap64_of (show I64 ((k : Int) + 1) by unfold I64; omega)]); simp [intOf]; omega⟩
  · have hkn : k = l0.length := by omega
    subst hkn
    rw [Nat.sub_self, nearGo] at hgo
    subst hgo
    clear hk
    go_wp2
    go_ret
    exact ⟨rfl, HB.out⟩
end Go.Proofs.Ytkfhdpnfcaghbaa.HQ
