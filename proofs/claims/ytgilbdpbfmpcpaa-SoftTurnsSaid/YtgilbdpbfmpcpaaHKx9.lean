/- What Go functions do, each as a plain Lean function with the same answers, and the proof of it, in every world: printed by the session's driver over the kit's print, with texts by hand. -/
import Derived.Test.YtgilbdpbfmpcpaaHKx0
import Derived.Test.YtgilbdpbfmpcpaaHKx1
import Derived.Test.YtgilbdpbfmpcpaaHKx5
import Derived.Test.YtgilbdpbfmpcpaaHKx7
import Derived.Test.YtgilbdpbfmpcpaaHKx8
namespace Go.Proofs.Ytgilbdpbfmpcpaa.HK
open Go.RowKit Go.Proofs.YtgilbdpbfmpcpaaW.PrintWords Go.Proofs.YtgilbdpbfmpcpaaW.PrintLast Go.Proofs.YtgilbdpbfmpcpaaW.PrintMore
attribute [local go_sem] max2_int min2_int max_two min_two max_three min_three max_four min_four   -- for this text's walks alone
open Go.Proofs.Ytgilbdpbfmpcpaa.Sp
attribute [local go_sem] Go.Proofs.Ytgilbdpbfmpcpaa.Sp.u64_not
set_option linter.unusedVariables false
set_option linter.unusedSimpArgs false

/-! ### thrumlaw15_SoftTurns: function 3 -/
def thrumlaw15_SoftTurns.j0 : Nat → List Int → List Int → Int → Bool → List (List Int) → Int → Bool → Option (Bool)
 | 0, _, _, _, _, _, _, _ => none
 | k + 1, x0, x1, x2, x7, x8, x9, x37 => if x37 = true then (if x7 = true then (some (x9 != 0)) else (some false)) else ((soft_Tell.f 2 x0 x1 x2).bind fun bt264 => (if 1 < (x8.length : Int) then (if ([] : List Int).length + (rd_L1 x8 1).length < 17592186044416 then ((some (([] : List Int) ++ (rd_L1 x8 1) : List Int)).bind fun y269 => (if 0 < (x8.length : Int) then (if y269.length + (rd_L1 x8 0).length < 17592186044416 then ((soft_Tell.f 2 (y269 ++ (rd_L1 x8 0)) x1 x2).bind fun bt276 => (if ([] : List Int).length + (rd_L1 x8 0).length < 17592186044416 then ((some (([] : List Int) ++ (rd_L1 x8 0) : List Int)).bind fun y281 => (if y281.length + (rd_L1 x8 0).length < 17592186044416 then ((soft_Tell.f 2 (y281 ++ (rd_L1 x8 0)) x1 x2).bind fun bt288 => (if bt264.2 = 0 then (if bt276.2 = 0 then (if bt288.2 = 0 then (if (bt264.1.length : Int) = 2 then (if (bt276.1.length : Int) = 2 then (if (bt288.1.length : Int) = 2 then (if x7 = true then (if 0 < (bt264.1.length : Int) then (if 1 < (bt276.1.length : Int) then (if (rd bt264.1 0) = (rd bt276.1 1) then (if 1 < (bt264.1.length : Int) then (if 0 < (bt276.1.length : Int) then (if (rd bt264.1 1) = (rd bt276.1 0) then (if 0 < (bt288.1.length : Int) then (if 1 < (bt288.1.length : Int) then (some ((rd bt288.1 0) == (rd bt288.1 1))) else (none)) else (none)) else (some false)) else (none)) else (none)) else (some false)) else (none)) else (none)) else (some false)) else (some false)) else (some false)) else (some false)) else (some false)) else (some false)) else (if x7 = true then (some (bt276.2 != 0)) else (some false)))) else (none))) else (none))) else (none)) else (none))) else (none)) else (none)))
def thrumlaw15_SoftTurns.f (k : Nat) (l0 : List Int) (l1 : List Int) (a2 : Int) : Option (Bool) := (thrumlaw15_live.f).bind fun t255 => (if t255 = true then ((thrumref14_Few.f l0 (([(⟨l1, 0⟩ : S26)] : List (S26)))).bind fun t259 => (if t259 = true then ((soft_Rows.f 2 l0).bind fun bt260 => (if bt260.2 = 0 then (thrumlaw15_SoftTurns.j0 k l0 l1 a2 t255 bt260.1 bt260.2 ((bt260.1.length : Int) != 2)) else (thrumlaw15_SoftTurns.j0 k l0 l1 a2 t255 bt260.1 bt260.2 true))) else (some t255))) else (some false))
theorem thrumlaw15_SoftTurns.mono_l : ∀ k, (∀ y0 y1 y2 y3 y4 y5 y6, LeO (thrumlaw15_SoftTurns.j0 k y0 y1 y2 y3 y4 y5 y6) (thrumlaw15_SoftTurns.j0 (k + 1) y0 y1 y2 y3 y4 y5 y6))
 | 0 => fun _ _ _ _ _ _ _ r h => by simp [thrumlaw15_SoftTurns.j0] at h
 | k + 1 => by
  have ih0 := thrumlaw15_SoftTurns.mono_l k
  ·
   intro y0 y1 y2 y3 y4 y5 y6
   unfold thrumlaw15_SoftTurns.j0
   repeat' first
   | (with_reducible exact ih0 _ _ _ _ _ _ _)
   | (with_reducible exact LeO.refl _)
   | (with_reducible exact LeO.none _)
   | (with_reducible refine LeO.ite ?_ ?_)
   | (with_reducible refine LeO.bind ?_ (fun _ => ?_))
   | exact ih0 _ _ _ _ _ _ _
   | exact LeO.none _
   | refine LeO.ite ?_ ?_
   | refine LeO.bind ?_ (fun _ => ?_)
theorem thrumlaw15_SoftTurns.mono : ∀ a0 a1 a2 k, LeO (thrumlaw15_SoftTurns.f k a0 a1 a2) (thrumlaw15_SoftTurns.f (k + 1) a0 a1 a2) := by
 intro a0 a1 a2 k
 have ih0 := thrumlaw15_SoftTurns.mono_l k
 unfold thrumlaw15_SoftTurns.f
 repeat' first
   | (with_reducible exact ih0 _ _ _ _ _ _ _)
   | (with_reducible exact LeO.refl _)
   | (with_reducible exact LeO.none _)
   | (with_reducible refine LeO.ite ?_ ?_)
   | (with_reducible refine LeO.bind ?_ (fun _ => ?_))
   | exact ih0 _ _ _ _ _ _ _
   | exact LeO.none _
   | refine LeO.ite ?_ ?_
   | refine LeO.bind ?_ (fun _ => ?_)
def thrumlaw15_SoftTurns.T10 : Bool × List (List Nat × List Nat) := (true, [([], []), ([0], [0]), ([1], [1]), ([2], [2]), ([], []), ([4], [4]), ([5], [5]), ([3, 6, 3], [3, 6]), ([], []), ([], []), ([7, 8, 9, 7], [7, 8, 9]), ([10], [10]), ([11], [11]), ([11], [11]), ([12, 10, 0, 1, 2, 3, 4, 5, 6, 7, 8, 9, 10, 11, 12], [12]), ([13, 14, 0, 1, 2, 3, 4, 5, 6, 7, 8, 9, 10, 11, 12, 13, 14], [13])])
def thrumlaw15_SoftTurns.B10 : List Nat := [0, 1, 3, 7, 0, 16, 48, 127, 0, 0, 1023, 2047, 4095, 4095, 8191, 32767]
theorem thrumlaw15_SoftTurns.tab10 : rtab .any (opsOf Try.f3 10) = thrumlaw15_SoftTurns.T10 := by kernel_rfl
theorem thrumlaw15_SoftTurns.bits10 : waitsOk thrumlaw15_SoftTurns.T10.2 thrumlaw15_SoftTurns.B10 = true := by kernel_rfl
def thrumlaw15_SoftTurns.T11 : Bool × List (List Nat × List Nat) := (true, [([], []), ([0], [0]), ([1], [1]), ([2], [2]), ([], []), ([4], [4]), ([5], [5]), ([3, 6, 3], [3, 6]), ([], []), ([], []), ([7, 8, 9, 7], [7, 8, 9]), ([10], [10]), ([11], [11]), ([11], [11]), ([12, 10, 0, 1, 2, 3, 4, 5, 6, 7, 8, 9, 10, 11, 12], [12]), ([13, 14, 0, 1, 2, 3, 4, 5, 6, 7, 8, 9, 10, 11, 12, 13, 14], [13])])
def thrumlaw15_SoftTurns.B11 : List Nat := [0, 1, 3, 7, 0, 16, 48, 127, 0, 0, 1023, 2047, 4095, 4095, 8191, 32767]
theorem thrumlaw15_SoftTurns.tab11 : rtab .any (opsOf Try.f3 11) = thrumlaw15_SoftTurns.T11 := by kernel_rfl
theorem thrumlaw15_SoftTurns.bits11 : waitsOk thrumlaw15_SoftTurns.T11.2 thrumlaw15_SoftTurns.B11 = true := by kernel_rfl
def thrumlaw15_SoftTurns.T16 : Bool × List (List Nat × List Nat) := (true, [([], []), ([0], [0]), ([1], [1]), ([2, 1], [1, 2]), ([3, 1], [1, 3]), ([1], [1]), ([5, 1], [1, 5]), ([6, 1], [1, 6]), ([4, 7, 1], [1, 4, 7]), ([1, 8], [1, 8]), ([9, 1], [9]), ([10], [10]), ([11, 10], [10, 11]), ([12, 10], [10, 12]), ([10], [10]), ([14, 10], [10, 14]), ([15, 10], [10, 15]), ([13, 16, 10], [10, 13, 16]), ([10, 17], [10, 17]), ([18, 10], [18]), ([19], [19]), ([20, 19], [19, 20]), ([21, 19], [19, 21]), ([19], [19]), ([23, 19], [19, 23]), ([24, 19], [19, 24]), ([22, 25, 19], [19, 22, 25]), ([19, 26], [19, 26]), ([27, 19, 0, 1, 2, 3, 4, 5, 6, 7, 8, 9, 10, 11, 12, 13, 14, 15, 16, 17, 18, 19, 20, 21, 22, 23, 24, 25, 26, 27], [27])])
def thrumlaw15_SoftTurns.B16 : List Nat := [0, 1, 3, 7, 15, 3, 35, 99, 255, 511, 1023, 2047, 4095, 8191, 2047, 18431, 51199, 131071, 262143, 524287, 1048575, 2097151, 4194303, 1048575, 9437183, 26214399, 67108863, 134217727, 268435455]
theorem thrumlaw15_SoftTurns.tab16 : rtab .any (opsOf Try.f3 16) = thrumlaw15_SoftTurns.T16 := by kernel_rfl
theorem thrumlaw15_SoftTurns.bits16 : waitsOk thrumlaw15_SoftTurns.T16.2 thrumlaw15_SoftTurns.B16 = true := by kernel_rfl
set_option maxHeartbeats 80000000 in
set_option maxRecDepth 100000 in
theorem thrumlaw15_SoftTurns.calls (k : Nat) (A0 : Option Addr) (c0 : Nat) (l0 : List Int) (P1_ : Nat → Prop) (A1 : Option Addr) (c1 : Nat) (l1 : List Int) (a2 : Int) (r : Bool) (w : World) (hr0 : Kd.C (Kd.int .i64) w A0 l0.length l0) (hc0 : l0.length ≤ c0) (hs1 : Kd.V (Kd.int .i64) 2 w w.heap.size (fun k_ => P1_ k_) (.slice A1 l1.length c1) l1) (h : thrumlaw15_SoftTurns.f k l0 l1 a2 = some r) (hr_ : r = true) :
  Calls Try.prog 3 #[.slice A0 l0.length c0, .slice A1 l1.length c1, .int .i64 a2] w fun e w' => e = .returned (.bool r) ∧ Below w.heap.size w w' := by
 have HR_ := Aside0.mk hr_
 clear hr_
 have hu26 := Try.underlying26
 have HR0 := Aside0.mk hr0
 have HC0 := Aside0.mk hc0
 clear hr0 hc0
 have HO1 := Aside0.mk (show Kd.V (Kd.int .i64) 2 w w.heap.size (fun k_ => (P1_ k_ ∨ w.heap.size ≤ k_)) (.slice A1 l1.length c1) l1 from Kd.V_mono hs1 (fun k_ hk => .inl hk))
 have HB := Aside0.mk (Below.refl w.heap.size w)
 have H : ((thrumlaw15_live.f).bind fun t255 => (if t255 = true then ((thrumref14_Few.f l0 (([(⟨l1, 0⟩ : S26)] : List (S26)))).bind fun t259 => (if t259 = true then ((soft_Rows.f 2 l0).bind fun bt260 => (if bt260.2 = 0 then (thrumlaw15_SoftTurns.j0 k l0 l1 a2 t255 bt260.1 bt260.2 ((bt260.1.length : Int) != 2)) else (thrumlaw15_SoftTurns.j0 k l0 l1 a2 t255 bt260.1 bt260.2 true))) else (some t255))) else (some false))) = some r := h
 clear h
 replace H := Option.bind_eq_some_iff.mp H
 obtain ⟨t255, A40, H⟩ := H
 replace H : (if t255 = true then ((thrumref14_Few.f l0 (([(⟨l1, 0⟩ : S26)] : List (S26)))).bind fun t259 => (if t259 = true then ((soft_Rows.f 2 l0).bind fun bt260 => (if bt260.2 = 0 then (thrumlaw15_SoftTurns.j0 k l0 l1 a2 t255 bt260.1 bt260.2 ((bt260.1.length : Int) != 2)) else (thrumlaw15_SoftTurns.j0 k l0 l1 a2 t255 bt260.1 bt260.2 true))) else (some t255))) else (some false)) = some r := H
 have A4 := Aside0.mk A40
 clear A40
 by_cases c5 : t255 = true
 ·
  subst c5
  have H1 : ((thrumref14_Few.f l0 (([(⟨l1, 0⟩ : S26)] : List (S26)))).bind fun t259 => (if t259 = true then ((soft_Rows.f 2 l0).bind fun bt260 => (if bt260.2 = 0 then (thrumlaw15_SoftTurns.j0 k l0 l1 a2 true bt260.1 bt260.2 ((bt260.1.length : Int) != 2)) else (thrumlaw15_SoftTurns.j0 k l0 l1 a2 true bt260.1 bt260.2 true))) else (some true))) = some r := by rw [if_pos rfl] at H; exact H
  clear H
  have H := H1
  clear H1
  obtain ⟨y256, hy256⟩ : ∃ y_ : List (S26), y_ = (([(⟨l1, 0⟩ : S26)] : List (S26))) := ⟨_, rfl⟩
  replace H : ((thrumref14_Few.f l0 y256).bind fun t259 => (if t259 = true then ((soft_Rows.f 2 l0).bind fun bt260 => (if bt260.2 = 0 then (thrumlaw15_SoftTurns.j0 k l0 l1 a2 true bt260.1 bt260.2 ((bt260.1.length : Int) != 2)) else (thrumlaw15_SoftTurns.j0 k l0 l1 a2 true bt260.1 bt260.2 true))) else (some true))) = some r := by first | (rw [hy256]; with_reducible exact H) | (have H2_ := (Option.bind_some _ _).symm.trans H; rw [hy256]; with_reducible exact H2_) | (have H2_ := (Option.bind_some _ _).symm.trans H; with_reducible exact H2_) | with_reducible exact H | (rw [hy256]; exact H) | exact H
  have Ny256 := Aside0.mk hy256
  clear hy256
  replace H := Option.bind_eq_some_iff.mp H
  obtain ⟨t259, A60, H⟩ := H
  replace H : (if t259 = true then ((soft_Rows.f 2 l0).bind fun bt260 => (if bt260.2 = 0 then (thrumlaw15_SoftTurns.j0 k l0 l1 a2 true bt260.1 bt260.2 ((bt260.1.length : Int) != 2)) else (thrumlaw15_SoftTurns.j0 k l0 l1 a2 true bt260.1 bt260.2 true))) else (some true)) = some r := H
  have A6 := Aside0.mk A60
  clear A60
  by_cases c7 : t259 = true
  ·
   subst c7
   have H1 : ((soft_Rows.f 2 l0).bind fun bt260 => (if bt260.2 = 0 then (thrumlaw15_SoftTurns.j0 k l0 l1 a2 true bt260.1 bt260.2 ((bt260.1.length : Int) != 2)) else (thrumlaw15_SoftTurns.j0 k l0 l1 a2 true bt260.1 bt260.2 true))) = some r := by rw [if_pos rfl] at H; exact H
   clear H
   have H := H1
   clear H1
   replace H := Option.bind_eq_some_iff.mp H
   obtain ⟨⟨t260, t261⟩, A80, H⟩ := H
   replace H : (if t261 = 0 then (thrumlaw15_SoftTurns.j0 k l0 l1 a2 true t260 t261 ((t260.length : Int) != 2)) else (thrumlaw15_SoftTurns.j0 k l0 l1 a2 true t260 t261 true)) = some r := H
   have A8 := Aside0.mk A80
   clear A80
   have HC9 := Aside0.mk H
   clear H
   go_enter Try.func3, Try.ntmps3
   go_upto_region 7 with (first | ((with_reducible refine gate_callee (f := 5) rfl ?_); refine goesL_ (some 16) rfl rfl Try.func5 (by kernel_rfl) rfl #[] rfl (by (try simp only [List.map_toArray, List.map_cons, List.map_nil]); first | done | rfl | (simp only [List.length_drop, List.length_take]; rfl)) ?_; (with_reducible refine (thrumlaw15_live.calls  true _ A4.out).mono ?_); rintro e w10 ⟨rfl, hb⟩; refine ⟨_, rfl, ?_⟩; have n0_ := Aside0.mk (Kd.V_below (by (with_reducible repeat (first | apply Kd.V_alloc | apply Kd.V_drewN | apply Kd.V_drew)); exact HO1.out) hb); have n1_ := Aside0.mk (zzT (by repeat (first | (with_reducible first | exact HB.out | apply zzA | apply zzN | apply zzD) | exact HB.out)) hb); clear HO1; clear HB; have HO1 := n0_; have HB := n1_; clear n0_ n1_; (try clear hb); (try clear hb2); (try clear hk); (try clear hi)) | ((with_reducible refine gate_dst (N := 22) rfl ?_); (try (refine gate_guard (by rfl) ?_; dsimp only)); refine Kd.N_lit k26 _ 26 ?hg (N' := 22) ?hd (xs := ([(⟨l1, 0⟩ : S26)] : List (S26))) (inner := [.slice A1 l1.length c1, .int .i64 0]) (ok := (fun k_ => (P1_ k_ ∨ w.heap.size ≤ k_))) (okp := (fun k_ => (P1_ k_ ∨ w.heap.size ≤ k_))) ?hr ?hp (fun _ hk => hk) ((show ∀ k_, w10.heap.size ≤ k_ → (fun k_ => (P1_ k_ ∨ w.heap.size ≤ k_)) k_ from fun k_ hk => (.inr (Nat.le_trans (zzS (by repeat (first | (with_reducible first | exact HB.out | apply zzA | apply zzN | apply zzD) | exact HB.out))) hk))) _ (Nat.le_refl _)) (Below.refl _ _) (Nat.le_refl _) (by simp) ?_; (case hd => rfl); (case hg => rfl); (case hr => first | (go_simp; done) | (go_simp; rfl)); (case hp => exact (Reps.c2 (show Kd.FK k26 _ _ (⟨l1, 0⟩ : S26) [.slice A1 l1.length c1, .int .i64 0] from (k26_mkF _ _ (⟨l1, 0⟩ : S26) (Kd.V_reads' (Kd.V_mono (ok' := (fun k_ => (P1_ k_ ∨ w.heap.size ≤ k_))) (HO1.out) (fun k_ hk => hk))).2.1 (Kd.V_F (Kd.V_mono (ok' := (fun k_ => (P1_ k_ ∨ w.heap.size ≤ k_))) (HO1.out) (fun k_ hk => hk))))) (Reps.none _ _))); intro v257 w11 ho12 hb hg_ hnew_; clear hg_ hnew_; (first | rw [← Ny256.out] at ho12 | (simp only [Int.reduceToNat] at ho12; rw [← Ny256.out] at ho12)); have n0_ := Aside0.mk (Kd.V_elder' (by (with_reducible repeat (first | apply Kd.V_alloc | apply Kd.V_drewN | apply Kd.V_drew)); exact HO1.out) (Kd.N_base ho12) hb); have n1_ := Aside0.mk (Kd.N_lower ho12 (zzS (by repeat (first | (with_reducible first | exact HB.out | apply zzA | apply zzN | apply zzD) | exact HB.out)))); have n2_ := Aside0.mk (zzT (by repeat (first | (with_reducible first | exact HB.out | apply zzA | apply zzN | apply zzD) | exact HB.out)) hb); clear HO1; clear HB; have HO1 := n0_; have HO258 := n1_; have HB := n2_; clear n0_ n1_ n2_; clear hb ho12; obtain ⟨Ao13, co13, eo13⟩ := Kd.N_slice HO258.out; subst eo13) | ((with_reducible refine gate_callee (f := 6) rfl ?_); refine goesL_ (some 23) rfl rfl Try.func6 (by kernel_rfl) rfl #[.slice A0 l0.length c0, .slice Ao13 y256.length co13] rfl (by (try simp only [List.map_toArray, List.map_cons, List.map_nil]); first | done | rfl | (simp only [List.length_drop, List.length_take]; rfl)) ?_; (with_reducible refine (thrumref14_Few.calls _ _ l0 _ _ y256 true _ ?side1 ?side2 ?side3 ?side4 A6.out).mono ?_); (case side1 => repeat (first | exact (Kd.C_below HR0.out HB.out) | (with_reducible refine ccA ?_ _) | (with_reducible refine ccN ?_ _) | (with_reducible refine ccD ?_))); (case side2 => exact HC0.out); (case side3 => repeat (first | exact (Kd.N_reads' HO258.out).2.2 | (with_reducible refine ccA ?_ _) | (with_reducible refine ccN ?_ _) | (with_reducible refine ccD ?_))); (case side4 => exact (Kd.N_reads' HO258.out).2.1); rintro e w14 ⟨rfl, hb⟩; refine ⟨_, rfl, ?_⟩; have n0_ := Aside0.mk (Kd.V_below (by (with_reducible repeat (first | apply Kd.V_alloc | apply Kd.V_drewN | apply Kd.V_drew)); exact HO1.out) hb); have n1_ := Aside0.mk (Kd.N_below (by (with_reducible repeat (first | apply Kd.N_alloc | apply Kd.N_drewN | apply Kd.N_drew)); exact HO258.out) hb); have n2_ := Aside0.mk (zzT (by repeat (first | (with_reducible first | exact HB.out | apply zzA | apply zzN | apply zzD) | exact HB.out)) hb); clear HO1; clear HO258; clear HB; have HO1 := n0_; have HO258 := n1_; have HB := n2_; clear n0_ n1_ n2_; (try clear hb); (try clear hb2); (try clear hk); (try clear hi)) | ((with_reducible refine gate_callee (f := 7) rfl ?_); refine goesL_ (some 28) rfl rfl Try.func7 (by kernel_rfl) rfl #[.int .i64 2, .slice A0 l0.length c0] rfl (by (try simp only [List.map_toArray, List.map_cons, List.map_nil]); first | done | rfl | (simp only [List.length_drop, List.length_take]; rfl)) ?_; (with_reducible refine (soft_Rows.calls 2 _ _ l0 t260 t261 _ ?side1 ?side2 A8.out).mono ?_); (case side1 => repeat (first | exact (Kd.C_below HR0.out HB.out) | (with_reducible refine ccA ?_ _) | (with_reducible refine ccN ?_ _) | (with_reducible refine ccD ?_))); (case side2 => exact HC0.out); rintro e w15 ⟨v262, rfl, ho0, hb⟩; refine ⟨_, rfl, ?_⟩; have n0_ := Aside0.mk (Kd.V_elder' (by (with_reducible repeat (first | apply Kd.V_alloc | apply Kd.V_drewN | apply Kd.V_drew)); exact HO1.out) (Kd.N_base (Kd.S_N ho0)) hb); have n1_ := Aside0.mk (Kd.N_elder' (by (with_reducible repeat (first | apply Kd.N_alloc | apply Kd.N_drewN | apply Kd.N_drew)); exact HO258.out) (Kd.N_base (Kd.S_N ho0)) hb); have n2_ := Aside0.mk (Kd.N_lower (Kd.N_mono (ok' := fun k_ => (P1_ k_ ∨ w.heap.size ≤ k_) ∧ some k_ ≠ (.slice Ao13 y256.length co13 : Value).ownBlock) (Kd.S_N (Kd.S_bound ho0)) (fun k_ hk_ => ⟨(.inr (Nat.le_trans (zzS (by repeat (first | (with_reducible first | exact HB.out | apply zzA | apply zzN | apply zzD) | exact HB.out))) hk_.2.1)), (Kd.fresh' (Kd.N_lt (by (with_reducible repeat (first | apply Kd.N_alloc | apply Kd.N_drewN | apply Kd.N_drew)); exact HO258.out)) k_ hk_.2.1)⟩)) (zzS (by repeat (first | (with_reducible first | exact HB.out | apply zzA | apply zzN | apply zzD) | exact HB.out)))); have n3_ := Aside0.mk (zzT (by repeat (first | (with_reducible first | exact HB.out | apply zzA | apply zzN | apply zzD) | exact HB.out)) hb); clear HO1; clear HO258; clear HB; have HO1 := n0_; have HO258 := n1_; have HO263 := n2_; have HB := n3_; clear n0_ n1_ n2_ n3_; (try clear hb); (try clear hb2); (try clear hk); (try clear hi); (try clear ho0)))
   (try simp only [Act.put, List.setIfInBounds_toArray, List.set_cons_zero, List.set_cons_succ])
   go_cut [37] (fun v37 wc => ∃ (kq : Nat) (x37_8 : Bool), v37 = .bool x37_8 ∧ Aside0 (thrumlaw15_SoftTurns.j0 kq l0 l1 a2 true t260 t261 x37_8 = some r) ∧ Aside0 (kq ≤ k) ∧ Aside0 (Kd.V (Kd.int .i64) 2 wc w.heap.size (fun k_ => (P1_ k_ ∨ w.heap.size ≤ k_) ∧ some k_ ≠ (v262 : Value).ownBlock) (.slice A1 l1.length c1) l1) ∧ Aside0 (Kd.N (Kd.slice 2 (Kd.int .i64)) 22 wc w.heap.size (fun k_ => (P1_ k_ ∨ w.heap.size ≤ k_)) v262 t260) ∧ Aside0 (Below w.heap.size w wc))
   case first =>
    have H := HC9.out
    clear HC9
    by_cases c16 : t261 = 0
    ·
     rw [if_pos c16] at H
     have c16b0 : (t261 == 0) = true := beq_iff_eq.mpr c16
     have c16b1 : (t261 != 0) = false := bne_eq_false_iff_eq.mpr c16
     clear c16
     (first | rw [c16b0] | (simp only [i64_w, i32_w]; rw [c16b0]) | skip)
     focus
      have H' := Aside0.mk H
      clear H
      obtain ⟨Ao17, co17, eo17⟩ := Kd.N_slice HO263.out
      subst eo17
      go_wp2
      go_meet
      case rel => exact ⟨_, (((t260.length : Int) != 2)), (by first | rfl | (simp; done) | (simp [*]; done)), H', ⟨by first | omega | exact Nat.le_refl _⟩, ⟨by (with_reducible repeat (first | apply Kd.V_alloc | apply Kd.V_drewN | apply Kd.V_drew)); exact Kd.V_mono HO1.out (fun _ hk => ⟨hk.1.1, hk.2⟩)⟩, ⟨by (with_reducible repeat (first | apply Kd.N_alloc | apply Kd.N_drewN | apply Kd.N_drew)); exact Kd.N_mono HO263.out (fun _ hk => hk.1)⟩, ⟨by repeat (first | (with_reducible first | exact HB.out | apply zzA | apply zzN | apply zzD) | exact HB.out)⟩⟩
    ·
     rw [if_neg c16] at H
     have c16b0 : (t261 == 0) = false := beq_eq_false_iff_ne.mpr c16
     have c16b1 : (t261 != 0) = true := bne_iff_ne.mpr c16
     (first | rw [c16b0] | (simp only [i64_w, i32_w]; rw [c16b0]) | skip)
     focus
      have H' := Aside0.mk H
      clear H
      go_wp2
      go_meet
      case rel => exact ⟨_, (true), (by first | rfl | (simp; done) | (simp [*]; done)), H', ⟨by first | omega | exact Nat.le_refl _⟩, ⟨by (with_reducible repeat (first | apply Kd.V_alloc | apply Kd.V_drewN | apply Kd.V_drew)); exact Kd.V_mono HO1.out (fun _ hk => ⟨hk.1.1, hk.2⟩)⟩, ⟨by (with_reducible repeat (first | apply Kd.N_alloc | apply Kd.N_drewN | apply Kd.N_drew)); exact Kd.N_mono HO263.out (fun _ hk => hk.1)⟩, ⟨by repeat (first | (with_reducible first | exact HB.out | apply zzA | apply zzN | apply zzD) | exact HB.out)⟩⟩
   case rest =>
    clear HC9
    try clear c1
    try clear c2
    try clear p2
    try clear c3
    try clear c5
    try clear c6
    try clear c7
    try clear c16
    try clear c16b0
    try clear c16b1
    obtain ⟨kq, x37_8, rfl, HA, HJ8, HO_1, HO_8, HB⟩ := hcut
    cases kq with
    | zero => exact absurd HA.out (by simp [thrumlaw15_SoftTurns.j0])
    | succ kj8 =>
     have H := HA.out
     clear HA
     simp only [thrumlaw15_SoftTurns.j0] at H
     by_cases c18 : x37_8 = true
     ·
      subst c18
      have H1 : (if true = true then (some (t261 != 0)) else (some false)) = some r := by rw [if_pos rfl] at H; exact H
      clear H
      have H := H1
      clear H1
      first | rw [if_pos rfl] at H | rw [if_pos trivial] at H
      focus
       obtain rfl := Option.some.inj H
       go_wp2
       go_ret
       exact ⟨by first | rfl | (simp [errW_none, errW_some] <;> rfl) | (simp [*, errW_none, errW_some] <;> rfl), by repeat (first | (with_reducible first | exact HB.out | apply zzA | apply zzN | apply zzD) | exact HB.out)⟩
     ·
      replace c18 := Bool.eq_false_iff.mpr c18
      subst c18
      have H1 : ((soft_Tell.f 2 l0 l1 a2).bind fun bt264 => (if 1 < (t260.length : Int) then (if ([] : List Int).length + (rd_L1 t260 1).length < 17592186044416 then ((some (([] : List Int) ++ (rd_L1 t260 1) : List Int)).bind fun y269 => (if 0 < (t260.length : Int) then (if y269.length + (rd_L1 t260 0).length < 17592186044416 then ((soft_Tell.f 2 (y269 ++ (rd_L1 t260 0)) l1 a2).bind fun bt276 => (if ([] : List Int).length + (rd_L1 t260 0).length < 17592186044416 then ((some (([] : List Int) ++ (rd_L1 t260 0) : List Int)).bind fun y281 => (if y281.length + (rd_L1 t260 0).length < 17592186044416 then ((soft_Tell.f 2 (y281 ++ (rd_L1 t260 0)) l1 a2).bind fun bt288 => (if bt264.2 = 0 then (if bt276.2 = 0 then (if bt288.2 = 0 then (if (bt264.1.length : Int) = 2 then (if (bt276.1.length : Int) = 2 then (if (bt288.1.length : Int) = 2 then (if true = true then (if 0 < (bt264.1.length : Int) then (if 1 < (bt276.1.length : Int) then (if (rd bt264.1 0) = (rd bt276.1 1) then (if 1 < (bt264.1.length : Int) then (if 0 < (bt276.1.length : Int) then (if (rd bt264.1 1) = (rd bt276.1 0) then (if 0 < (bt288.1.length : Int) then (if 1 < (bt288.1.length : Int) then (some ((rd bt288.1 0) == (rd bt288.1 1))) else (none)) else (none)) else (some false)) else (none)) else (none)) else (some false)) else (none)) else (none)) else (some false)) else (some false)) else (some false)) else (some false)) else (some false)) else (some false)) else (if true = true then (some (bt276.2 != 0)) else (some false)))) else (none))) else (none))) else (none)) else (none))) else (none)) else (none))) = some r := by rw [if_neg (show ¬ (false = true) by decide)] at H; exact H
      clear H
      have H := H1
      clear H1
      replace H := Option.bind_eq_some_iff.mp H
      obtain ⟨⟨t264, t265⟩, A190, H⟩ := H
      replace H : (if 1 < (t260.length : Int) then (if ([] : List Int).length + (rd_L1 t260 1).length < 17592186044416 then ((some (([] : List Int) ++ (rd_L1 t260 1) : List Int)).bind fun y269 => (if 0 < (t260.length : Int) then (if y269.length + (rd_L1 t260 0).length < 17592186044416 then ((soft_Tell.f 2 (y269 ++ (rd_L1 t260 0)) l1 a2).bind fun bt276 => (if ([] : List Int).length + (rd_L1 t260 0).length < 17592186044416 then ((some (([] : List Int) ++ (rd_L1 t260 0) : List Int)).bind fun y281 => (if y281.length + (rd_L1 t260 0).length < 17592186044416 then ((soft_Tell.f 2 (y281 ++ (rd_L1 t260 0)) l1 a2).bind fun bt288 => (if t265 = 0 then (if bt276.2 = 0 then (if bt288.2 = 0 then (if (t264.length : Int) = 2 then (if (bt276.1.length : Int) = 2 then (if (bt288.1.length : Int) = 2 then (if true = true then (if 0 < (t264.length : Int) then (if 1 < (bt276.1.length : Int) then (if (rd t264 0) = (rd bt276.1 1) then (if 1 < (t264.length : Int) then (if 0 < (bt276.1.length : Int) then (if (rd t264 1) = (rd bt276.1 0) then (if 0 < (bt288.1.length : Int) then (if 1 < (bt288.1.length : Int) then (some ((rd bt288.1 0) == (rd bt288.1 1))) else (none)) else (none)) else (some false)) else (none)) else (none)) else (some false)) else (none)) else (none)) else (some false)) else (some false)) else (some false)) else (some false)) else (some false)) else (some false)) else (if true = true then (some (bt276.2 != 0)) else (some false)))) else (none))) else (none))) else (none)) else (none))) else (none)) else (none)) = some r := H
      have A19 := Aside0.mk A190
      clear A190
      by_cases c20 : 1 < (t260.length : Int)
      ·
       rw [if_pos c20] at H
       have c20b0 : decide (1 < (t260.length : Int)) = true := decide_eq_true c20
       have c20b1 : decide (1 < t260.length) = true := decide_eq_true (by omega)
       clear c20
       by_cases c21 : ([] : List Int).length + (rd_L1 t260 1).length < 17592186044416
       ·
        rw [if_pos c21] at H
        have LMc21 := Aside0.mk c21
        clear c21
        obtain ⟨y269, hy269⟩ : ∃ y_ : List Int, y_ = (([] : List Int) ++ (rd_L1 t260 1)) := ⟨_, rfl⟩
        replace H : (if 0 < (t260.length : Int) then (if y269.length + (rd_L1 t260 0).length < 17592186044416 then ((soft_Tell.f 2 (y269 ++ (rd_L1 t260 0)) l1 a2).bind fun bt276 => (if ([] : List Int).length + (rd_L1 t260 0).length < 17592186044416 then ((some (([] : List Int) ++ (rd_L1 t260 0) : List Int)).bind fun y281 => (if y281.length + (rd_L1 t260 0).length < 17592186044416 then ((soft_Tell.f 2 (y281 ++ (rd_L1 t260 0)) l1 a2).bind fun bt288 => (if t265 = 0 then (if bt276.2 = 0 then (if bt288.2 = 0 then (if (t264.length : Int) = 2 then (if (bt276.1.length : Int) = 2 then (if (bt288.1.length : Int) = 2 then (if true = true then (if 0 < (t264.length : Int) then (if 1 < (bt276.1.length : Int) then (if (rd t264 0) = (rd bt276.1 1) then (if 1 < (t264.length : Int) then (if 0 < (bt276.1.length : Int) then (if (rd t264 1) = (rd bt276.1 0) then (if 0 < (bt288.1.length : Int) then (if 1 < (bt288.1.length : Int) then (some ((rd bt288.1 0) == (rd bt288.1 1))) else (none)) else (none)) else (some false)) else (none)) else (none)) else (some false)) else (none)) else (none)) else (some false)) else (some false)) else (some false)) else (some false)) else (some false)) else (some false)) else (if true = true then (some (bt276.2 != 0)) else (some false)))) else (none))) else (none))) else (none)) else (none)) = some r := by first | (rw [hy269]; with_reducible exact H) | (have H2_ := (Option.bind_some _ _).symm.trans H; rw [hy269]; with_reducible exact H2_) | (have H2_ := (Option.bind_some _ _).symm.trans H; with_reducible exact H2_) | with_reducible exact H | (rw [hy269]; exact H) | exact H
        have Ny269 := Aside0.mk hy269
        clear hy269
        by_cases c22 : 0 < (t260.length : Int)
        ·
         rw [if_pos c22] at H
         have c22b0 : decide (0 < (t260.length : Int)) = true := decide_eq_true c22
         have c22b1 : decide (0 < t260.length) = true := decide_eq_true (by omega)
         clear c22
         by_cases c23 : y269.length + (rd_L1 t260 0).length < 17592186044416
         ·
          rw [if_pos c23] at H
          have LMc23 := Aside0.mk c23
          clear c23
          obtain ⟨y273, hy273⟩ : ∃ y_ : List Int, y_ = (y269 ++ (rd_L1 t260 0)) := ⟨_, rfl⟩
          replace H : ((soft_Tell.f 2 y273 l1 a2).bind fun bt276 => (if ([] : List Int).length + (rd_L1 t260 0).length < 17592186044416 then ((some (([] : List Int) ++ (rd_L1 t260 0) : List Int)).bind fun y281 => (if y281.length + (rd_L1 t260 0).length < 17592186044416 then ((soft_Tell.f 2 (y281 ++ (rd_L1 t260 0)) l1 a2).bind fun bt288 => (if t265 = 0 then (if bt276.2 = 0 then (if bt288.2 = 0 then (if (t264.length : Int) = 2 then (if (bt276.1.length : Int) = 2 then (if (bt288.1.length : Int) = 2 then (if true = true then (if 0 < (t264.length : Int) then (if 1 < (bt276.1.length : Int) then (if (rd t264 0) = (rd bt276.1 1) then (if 1 < (t264.length : Int) then (if 0 < (bt276.1.length : Int) then (if (rd t264 1) = (rd bt276.1 0) then (if 0 < (bt288.1.length : Int) then (if 1 < (bt288.1.length : Int) then (some ((rd bt288.1 0) == (rd bt288.1 1))) else (none)) else (none)) else (some false)) else (none)) else (none)) else (some false)) else (none)) else (none)) else (some false)) else (some false)) else (some false)) else (some false)) else (some false)) else (some false)) else (if true = true then (some (bt276.2 != 0)) else (some false)))) else (none))) else (none))) = some r := by first | (rw [hy273]; with_reducible exact H) | (have H2_ := (Option.bind_some _ _).symm.trans H; rw [hy273]; with_reducible exact H2_) | (have H2_ := (Option.bind_some _ _).symm.trans H; with_reducible exact H2_) | with_reducible exact H | (rw [hy273]; exact H) | exact H
          have Ny273 := Aside0.mk hy273
          clear hy273
          replace H := Option.bind_eq_some_iff.mp H
          obtain ⟨⟨t276, t277⟩, A240, H⟩ := H
          replace H : (if ([] : List Int).length + (rd_L1 t260 0).length < 17592186044416 then ((some (([] : List Int) ++ (rd_L1 t260 0) : List Int)).bind fun y281 => (if y281.length + (rd_L1 t260 0).length < 17592186044416 then ((soft_Tell.f 2 (y281 ++ (rd_L1 t260 0)) l1 a2).bind fun bt288 => (if t265 = 0 then (if t277 = 0 then (if bt288.2 = 0 then (if (t264.length : Int) = 2 then (if (t276.length : Int) = 2 then (if (bt288.1.length : Int) = 2 then (if true = true then (if 0 < (t264.length : Int) then (if 1 < (t276.length : Int) then (if (rd t264 0) = (rd t276 1) then (if 1 < (t264.length : Int) then (if 0 < (t276.length : Int) then (if (rd t264 1) = (rd t276 0) then (if 0 < (bt288.1.length : Int) then (if 1 < (bt288.1.length : Int) then (some ((rd bt288.1 0) == (rd bt288.1 1))) else (none)) else (none)) else (some false)) else (none)) else (none)) else (some false)) else (none)) else (none)) else (some false)) else (some false)) else (some false)) else (some false)) else (some false)) else (some false)) else (if true = true then (some (t277 != 0)) else (some false)))) else (none))) else (none)) = some r := H
          have A24 := Aside0.mk A240
          clear A240
          by_cases c25 : ([] : List Int).length + (rd_L1 t260 0).length < 17592186044416
          ·
           rw [if_pos c25] at H
           have LMc25 := Aside0.mk c25
           clear c25
           obtain ⟨y281, hy281⟩ : ∃ y_ : List Int, y_ = (([] : List Int) ++ (rd_L1 t260 0)) := ⟨_, rfl⟩
           replace H : (if y281.length + (rd_L1 t260 0).length < 17592186044416 then ((soft_Tell.f 2 (y281 ++ (rd_L1 t260 0)) l1 a2).bind fun bt288 => (if t265 = 0 then (if t277 = 0 then (if bt288.2 = 0 then (if (t264.length : Int) = 2 then (if (t276.length : Int) = 2 then (if (bt288.1.length : Int) = 2 then (if true = true then (if 0 < (t264.length : Int) then (if 1 < (t276.length : Int) then (if (rd t264 0) = (rd t276 1) then (if 1 < (t264.length : Int) then (if 0 < (t276.length : Int) then (if (rd t264 1) = (rd t276 0) then (if 0 < (bt288.1.length : Int) then (if 1 < (bt288.1.length : Int) then (some ((rd bt288.1 0) == (rd bt288.1 1))) else (none)) else (none)) else (some false)) else (none)) else (none)) else (some false)) else (none)) else (none)) else (some false)) else (some false)) else (some false)) else (some false)) else (some false)) else (some false)) else (if true = true then (some (t277 != 0)) else (some false)))) else (none)) = some r := by first | (rw [hy281]; with_reducible exact H) | (have H2_ := (Option.bind_some _ _).symm.trans H; rw [hy281]; with_reducible exact H2_) | (have H2_ := (Option.bind_some _ _).symm.trans H; with_reducible exact H2_) | with_reducible exact H | (rw [hy281]; exact H) | exact H
           have Ny281 := Aside0.mk hy281
           clear hy281
           by_cases c26 : y281.length + (rd_L1 t260 0).length < 17592186044416
           ·
            rw [if_pos c26] at H
            have LMc26 := Aside0.mk c26
            clear c26
            obtain ⟨y285, hy285⟩ : ∃ y_ : List Int, y_ = (y281 ++ (rd_L1 t260 0)) := ⟨_, rfl⟩
            replace H : ((soft_Tell.f 2 y285 l1 a2).bind fun bt288 => (if t265 = 0 then (if t277 = 0 then (if bt288.2 = 0 then (if (t264.length : Int) = 2 then (if (t276.length : Int) = 2 then (if (bt288.1.length : Int) = 2 then (if true = true then (if 0 < (t264.length : Int) then (if 1 < (t276.length : Int) then (if (rd t264 0) = (rd t276 1) then (if 1 < (t264.length : Int) then (if 0 < (t276.length : Int) then (if (rd t264 1) = (rd t276 0) then (if 0 < (bt288.1.length : Int) then (if 1 < (bt288.1.length : Int) then (some ((rd bt288.1 0) == (rd bt288.1 1))) else (none)) else (none)) else (some false)) else (none)) else (none)) else (some false)) else (none)) else (none)) else (some false)) else (some false)) else (some false)) else (some false)) else (some false)) else (some false)) else (if true = true then (some (t277 != 0)) else (some false)))) = some r := by first | (rw [hy285]; with_reducible exact H) | (have H2_ := (Option.bind_some _ _).symm.trans H; rw [hy285]; with_reducible exact H2_) | (have H2_ := (Option.bind_some _ _).symm.trans H; with_reducible exact H2_) | with_reducible exact H | (rw [hy285]; exact H) | exact H
            have Ny285 := Aside0.mk hy285
            clear hy285
            replace H := Option.bind_eq_some_iff.mp H
            obtain ⟨⟨t288, t289⟩, A270, H⟩ := H
            replace H : (if t265 = 0 then (if t277 = 0 then (if t289 = 0 then (if (t264.length : Int) = 2 then (if (t276.length : Int) = 2 then (if (t288.length : Int) = 2 then (if true = true then (if 0 < (t264.length : Int) then (if 1 < (t276.length : Int) then (if (rd t264 0) = (rd t276 1) then (if 1 < (t264.length : Int) then (if 0 < (t276.length : Int) then (if (rd t264 1) = (rd t276 0) then (if 0 < (t288.length : Int) then (if 1 < (t288.length : Int) then (some ((rd t288 0) == (rd t288 1))) else (none)) else (none)) else (some false)) else (none)) else (none)) else (some false)) else (none)) else (none)) else (some false)) else (some false)) else (some false)) else (some false)) else (some false)) else (some false)) else (if true = true then (some (t277 != 0)) else (some false))) = some r := H
            have A27 := Aside0.mk A270
            clear A270
            by_cases c28 : t265 = 0
            ·
             rw [if_pos c28] at H
             have c28b0 : (t265 == 0) = true := beq_iff_eq.mpr c28
             have c28b1 : (t265 != 0) = false := bne_eq_false_iff_eq.mpr c28
             clear c28
             by_cases c29 : t277 = 0
             ·
              rw [if_pos c29] at H
              have c29b0 : (t277 == 0) = true := beq_iff_eq.mpr c29
              have c29b1 : (t277 != 0) = false := bne_eq_false_iff_eq.mpr c29
              clear c29
              by_cases c30 : t289 = 0
              ·
               rw [if_pos c30] at H
               have c30b0 : (t289 == 0) = true := beq_iff_eq.mpr c30
               have c30b1 : (t289 != 0) = false := bne_eq_false_iff_eq.mpr c30
               clear c30
               by_cases c31 : (t264.length : Int) = 2
               ·
                rw [if_pos c31] at H
                have c31b0 : ((t264.length : Int) == 2) = true := beq_iff_eq.mpr c31
                have c31b1 : ((t264.length : Int) != 2) = false := bne_eq_false_iff_eq.mpr c31
                clear c31
                by_cases c32 : (t276.length : Int) = 2
                ·
                 rw [if_pos c32] at H
                 have c32b0 : ((t276.length : Int) == 2) = true := beq_iff_eq.mpr c32
                 have c32b1 : ((t276.length : Int) != 2) = false := bne_eq_false_iff_eq.mpr c32
                 clear c32
                 by_cases c33 : (t288.length : Int) = 2
                 ·
                  rw [if_pos c33] at H
                  have c33b0 : ((t288.length : Int) == 2) = true := beq_iff_eq.mpr c33
                  have c33b1 : ((t288.length : Int) != 2) = false := bne_eq_false_iff_eq.mpr c33
                  clear c33
                  first | rw [if_pos rfl] at H | rw [if_pos trivial] at H
                  by_cases c34 : 0 < (t264.length : Int)
                  ·
                   rw [if_pos c34] at H
                   have c34b0 : decide (0 < (t264.length : Int)) = true := decide_eq_true c34
                   have c34b1 : decide (0 < t264.length) = true := decide_eq_true (by omega)
                   clear c34
                   by_cases c35 : 1 < (t276.length : Int)
                   ·
                    rw [if_pos c35] at H
                    have c35b0 : decide (1 < (t276.length : Int)) = true := decide_eq_true c35
                    have c35b1 : decide (1 < t276.length) = true := decide_eq_true (by omega)
                    clear c35
                    by_cases c36 : (rd t264 0) = (rd t276 1)
                    ·
                     rw [if_pos c36] at H
                     have c36b0 : ((rd t264 0) == (rd t276 1)) = true := beq_iff_eq.mpr c36
                     have c36b1 : ((rd t264 0) != (rd t276 1)) = false := bne_eq_false_iff_eq.mpr c36
                     clear c36
                     by_cases c37 : 1 < (t264.length : Int)
                     ·
                      rw [if_pos c37] at H
                      have c37b0 : decide (1 < (t264.length : Int)) = true := decide_eq_true c37
                      have c37b1 : decide (1 < t264.length) = true := decide_eq_true (by omega)
                      clear c37
                      by_cases c38 : 0 < (t276.length : Int)
                      ·
                       rw [if_pos c38] at H
                       have c38b0 : decide (0 < (t276.length : Int)) = true := decide_eq_true c38
                       have c38b1 : decide (0 < t276.length) = true := decide_eq_true (by omega)
                       clear c38
                       by_cases c39 : (rd t264 1) = (rd t276 0)
                       ·
                        rw [if_pos c39] at H
                        have c39b0 : ((rd t264 1) == (rd t276 0)) = true := beq_iff_eq.mpr c39
                        have c39b1 : ((rd t264 1) != (rd t276 0)) = false := bne_eq_false_iff_eq.mpr c39
                        clear c39
                        by_cases c40 : 0 < (t288.length : Int)
                        ·
                         rw [if_pos c40] at H
                         have c40b0 : decide (0 < (t288.length : Int)) = true := decide_eq_true c40
                         have c40b1 : decide (0 < t288.length) = true := decide_eq_true (by omega)
                         clear c40
                         by_cases c41 : 1 < (t288.length : Int)
                         ·
                          rw [if_pos c41] at H
                          have c41b0 : decide (1 < (t288.length : Int)) = true := decide_eq_true c41
                          have c41b1 : decide (1 < t288.length) = true := decide_eq_true (by omega)
                          clear c41
                          focus
                           obtain rfl := Option.some.inj H
                           try go_wp2_with (first | ((with_reducible refine gate_callee (f := 8) rfl ?_); refine goesL_ (some 47) rfl rfl Try.func8 (by kernel_rfl) rfl #[.int .i64 2, .slice A0 l0.length c0, .slice A1 l1.length c1, .int .i64 a2] rfl (by (try simp only [List.map_toArray, List.map_cons, List.map_nil]); first | done | rfl | (simp only [List.length_drop, List.length_take]; rfl)) ?_; (with_reducible refine (soft_Tell.calls 2 _ _ l0 _ _ l1 a2 t264 t265 _ ?side1 ?side2 ?side3 ?side4 A19.out).mono ?_); (case side1 => repeat (first | exact (Kd.C_below HR0.out HB.out) | (with_reducible refine ccA ?_ _) | (with_reducible refine ccN ?_ _) | (with_reducible refine ccD ?_))); (case side2 => exact HC0.out); (case side3 => repeat (first | exact (Kd.V_reads' HO_1.out).2.2 | (with_reducible refine ccA ?_ _) | (with_reducible refine ccN ?_ _) | (with_reducible refine ccD ?_))); (case side4 => exact (Kd.V_reads' HO_1.out).2.1); rintro e w42 ⟨v266, rfl, ho0, hb⟩; refine ⟨_, rfl, ?_⟩; have n0_ := Aside0.mk (Kd.V_elder' (by (with_reducible repeat (first | apply Kd.V_alloc | apply Kd.V_drewN | apply Kd.V_drew)); exact HO_1.out) (Kd.R_base ho0) hb); have n1_ := Aside0.mk (Kd.N_elder' (by (with_reducible repeat (first | apply Kd.N_alloc | apply Kd.N_drewN | apply Kd.N_drew)); exact HO_8.out) (Kd.R_base ho0) hb); have n2_ := Aside0.mk (Kd.R_lower (Kd.R_newM (M := fun k_ => (w.heap.size ≤ k_)) ho0 (zzS (by repeat (first | (with_reducible first | exact HB.out | apply zzA | apply zzN | apply zzD) | exact HB.out))) (fun k_ h_ => h_)) (zzS (by repeat (first | (with_reducible first | exact HB.out | apply zzA | apply zzN | apply zzD) | exact HB.out)))); have n3_ := Aside0.mk (zzT (by repeat (first | (with_reducible first | exact HB.out | apply zzA | apply zzN | apply zzD) | exact HB.out)) hb); clear HO_1; clear HO_8; clear HB; have HO_1 := n0_; have HO_8 := n1_; have HO267 := n2_; have HB := n3_; clear n0_ n1_ n2_ n3_; (try clear hb); (try clear hb2); (try clear hk); (try clear hi); (try clear ho0)))
                           have n0_ := Aside0.mk (Kd.V_drew HO_1.out)
                           have n1_ := Aside0.mk (Kd.N_drew HO_8.out)
                           have n2_ := Aside0.mk (rrD HO267.out)
                           have n3_ := Aside0.mk (zzD HB.out)
                           clear HO_1
                           clear HO_8
                           clear HO267
                           clear HB
                           have HO_1 := n0_
                           have HO_8 := n1_
                           have HO267 := n2_
                           have HB := n3_
                           clear n0_ n1_ n2_ n3_
                           obtain ⟨Ao44, co44, eo44⟩ := Kd.N_slice HO_8.out
                           (first | subst eo44 | (injection eo44 with f1_ f2_ f3_; have f4_ := f1_.symm; have f5_ := f3_.symm; clear f1_ f2_ f3_; subst f4_; subst f5_))
                           have p268 : 0 ≤ (1 : Int) := (by omega)
                           have q268 : 1 < (t260.length : Int) := of_decide_eq_true (by first | (with_reducible assumption) | assumption)
                           obtain ⟨ad268, A268_0, c268_0, e268, hx268_0, hl268_0, hi268_0⟩ := at_L1 (Kd.N_reads' HO_8.out).2.2 1 p268 q268
                           cases e268
                           obtain ⟨ce268, hce268, hMe268, hcc268⟩ := Kd.N_get HO_8.out [] 1 p268 (by first | exact q268 | exact of_decide_eq_true (by first | (with_reducible assumption) | assumption) | (have e_ := (Kd.N_reads' HO_8.out).1; omega))
                           obtain ⟨ua268_0, uc268_0, rfl, ul268_0, ge268_0⟩ := Kd.FK_slice_open hMe268
                           have hv268_0 := hcc268 0 _ rfl
                           rw [Nat.add_zero, show ((Kd.slice 2 (Kd.int .i64))).sz = 1 from rfl, Nat.mul_one] at hv268_0
                           replace hv268_0 := Option.some.inj (hv268_0.symm.trans hx268_0)
                           injection hv268_0 with hva_ hvn_ hvc_
                           rw [hva_] at ge268_0
                           rw [hvc_] at ul268_0
                           have HL268_0 := Aside0.mk (show Kd.V (Kd.int .i64) 2 _ w.heap.size _ _ (rd_L1 t260 1) from Kd.V_mk ul268_0 ge268_0)
                           clear hva_ hvn_ hvc_ ge268_0 ul268_0
                           clear hcc268 hce268
                           (try simp only [show (1 : Int).toNat = 1 from rfl, Nat.reduceMul, Nat.reduceEqDiff, Go.Addr.add, ↓reduceIte] at hx268_0)
                           have qi268 : (1 < t260.length) = True := eq_true (by omega)
                           (try rw [show ((1 : Int)).toNat = 1 from rfl] at hx268_0)
                           have HR268_0 := Aside0.mk hi268_0
                           have HC268_0 := Aside0.mk hl268_0
                           clear hi268_0 hl268_0
                           replace p268 := eq_true p268
                           replace q268 := eq_true q268
                           have p272 : 0 ≤ (0 : Int) := (by omega)
                           have q272 : 0 < (t260.length : Int) := of_decide_eq_true (by first | (with_reducible assumption) | assumption)
                           obtain ⟨ad272, A272_0, c272_0, e272, hx272_0, hl272_0, hi272_0⟩ := at_L1 (Kd.N_reads' HO_8.out).2.2 0 p272 q272
                           obtain rfl : ad268 = ad272 := (by injection e272)
                           obtain ⟨ce272, hce272, hMe272, hcc272⟩ := Kd.N_get HO_8.out [] 0 p272 (by first | exact q272 | exact of_decide_eq_true (by first | (with_reducible assumption) | assumption) | (have e_ := (Kd.N_reads' HO_8.out).1; omega))
                           obtain ⟨ua272_0, uc272_0, rfl, ul272_0, ge272_0⟩ := Kd.FK_slice_open hMe272
                           have hv272_0 := hcc272 0 _ rfl
                           rw [Nat.add_zero, show ((Kd.slice 2 (Kd.int .i64))).sz = 1 from rfl, Nat.mul_one] at hv272_0
                           replace hv272_0 := Option.some.inj (hv272_0.symm.trans hx272_0)
                           injection hv272_0 with hva_ hvn_ hvc_
                           rw [hva_] at ge272_0
                           rw [hvc_] at ul272_0
                           have HL272_0 := Aside0.mk (show Kd.V (Kd.int .i64) 2 _ w.heap.size _ _ (rd_L1 t260 0) from Kd.V_mk ul272_0 ge272_0)
                           clear hva_ hvn_ hvc_ ge272_0 ul272_0
                           clear hcc272 hce272
                           have qi272 : (0 < t260.length) = True := eq_true (by omega)
                           (try rw [show ((0 : Int)).toNat = 0 from rfl] at hx272_0)
                           (try rw [Addr.add_zero'] at hx272_0)
                           have HR272_0 := Aside0.mk hi272_0
                           have HC272_0 := Aside0.mk hl272_0
                           clear hi272_0 hl272_0
                           replace p272 := eq_true p272
                           replace q272 := eq_true q272
                           refine start_ (n := 16) (S := fun w' => w'.cell? ⟨ad268.block, ad268.off + 1, none⟩ = some (.slice A268_0 (rd_L1 t260 1).length c268_0) ∧ w'.cell? ad268 = some (.slice A272_0 (rd_L1 t260 0).length c272_0)) (ds := [7, 10]) #[false, false, false, false, false, false, false, false, false, false, false, false, false, false, false, false] (by kernel_rfl) rfl rfl ⟨hx268_0, hx272_0⟩ (fun hHeld => ?_); refine with_tabW thrumlaw15_SoftTurns.tab10 thrumlaw15_SoftTurns.bits10 (fun HT_ HW_ => ?_)
                           generalize w42.drew = w43 at HO_1 HO_8 HO267 HB HL268_0 HL272_0 HR268_0 HR272_0 hx268_0 hx272_0 hHeld ⊢
                           refine pure_ (i := 0) (N := some 51) (v := ?_) (a' := ?_) #[true, false, false, false, false, false, false, false, false, false, false, false, false, false, false, false] rfl rfl (any_of HT_.out (by kernel_rfl)) (fun _ _ _ h => h) (Or.inl ⟨by rfl, ?_⟩) ?_ ?_
                           rotate_left
                           ·
                            intro w'
                            go_simp
                            with_reducible rfl
                           rotate_left
                           ·
                            simp only [Act.put, List.setIfInBounds_toArray, List.set_cons_zero, List.set_cons_succ, i64_w, i32_w]
                            rfl
                           refine pure_ (i := 1) (N := some 52) (v := ?_) (a' := ?_) #[true, true, false, false, false, false, false, false, false, false, false, false, false, false, false, false] rfl rfl (any_of HT_.out (by kernel_rfl)) (fun _ _ _ h => h) (Or.inl ⟨by rfl, ?_⟩) ?_ ?_
                           rotate_left
                           ·
                            intro w'
                            go_simp
                            with_reducible rfl
                           rotate_left
                           ·
                            simp only [Act.put, List.setIfInBounds_toArray, List.set_cons_zero, List.set_cons_succ, i64_w, i32_w]
                            rfl
                           refine pure_ (i := 4) (N := some 55) (v := ?_) (a' := ?_) #[true, true, false, false, true, false, false, false, false, false, false, false, false, false, false, false] rfl rfl (any_of HT_.out (by kernel_rfl)) (fun _ _ _ h => h) (Or.inl ⟨by rfl, ?_⟩) ?_ ?_
                           rotate_left
                           ·
                            intro w'
                            go_simp
                            with_reducible rfl
                           rotate_left
                           ·
                            simp only [Act.put, List.setIfInBounds_toArray, List.set_cons_zero, List.set_cons_succ, i64_w, i32_w]
                            rfl
                           refine pure_ (i := 5) (N := some 56) (v := ?_) (a' := ?_) #[true, true, false, false, true, true, false, false, false, false, false, false, false, false, false, false] rfl rfl (any_of HT_.out (by kernel_rfl)) (fun _ _ _ h => h) (Or.inl ⟨by rfl, ?_⟩) ?_ ?_
                           rotate_left
                           ·
                            intro w'
                            go_simp
                            with_reducible rfl
                           rotate_left
                           ·
                            simp only [Act.put, List.setIfInBounds_toArray, List.set_cons_zero, List.set_cons_succ, i64_w, i32_w]
                            rfl
                           refine pure_ (i := 8) (N := some 59) (v := ?_) (a' := ?_) #[true, true, false, false, true, true, false, false, true, false, false, false, false, false, false, false] rfl rfl (any_of HT_.out (by kernel_rfl)) (fun _ _ _ h => h) (Or.inl ⟨by rfl, ?_⟩) ?_ ?_
                           rotate_left
                           ·
                            intro w'
                            go_simp
                            with_reducible rfl
                           rotate_left
                           ·
                            simp only [Act.put, List.setIfInBounds_toArray, List.set_cons_zero, List.set_cons_succ, i64_w, i32_w]
                            rfl
                           refine pure_ (i := 9) (N := some 60) (v := ?_) (a' := ?_) #[true, true, false, false, true, true, false, false, true, true, false, false, false, false, false, false] rfl rfl (any_of HT_.out (by kernel_rfl)) (fun _ _ _ h => h) (Or.inl ⟨by rfl, ?_⟩) ?_ ?_
                           rotate_left
                           ·
                            intro w'
                            go_simp
                            with_reducible rfl
                           rotate_left
                           ·
                            simp only [Act.put, List.setIfInBounds_toArray, List.set_cons_zero, List.set_cons_succ, i64_w, i32_w]
                            rfl
                           refine take_ (i := 2) (N := some 53) (v := ?_) (a' := ?_) #[true, true, true, false, true, true, false, false, true, true, false, false, false, false, false, false] rfl rfl (take_ofW HT_.out HW_.out (by kernel_rfl)) (fun _ _ _ h => h) (Or.inl ⟨by rfl, ?_⟩) hHeld ?_ ?_
                           rotate_left
                           ·
                            rintro w' ⟨s0, s1⟩
                            go_simp
                            with_reducible rfl
                           rotate_left
                           ·
                            simp only [Act.put, List.setIfInBounds_toArray, List.set_cons_zero, List.set_cons_succ, i64_w, i32_w]
                            rfl
                           refine take_ (i := 6) (N := some 57) (v := ?_) (a' := ?_) #[true, true, true, false, true, true, true, false, true, true, false, false, false, false, false, false] rfl rfl (take_ofW HT_.out HW_.out (by kernel_rfl)) (fun _ _ _ h => h) (Or.inl ⟨by rfl, ?_⟩) hHeld ?_ ?_
                           rotate_left
                           ·
                            rintro w' ⟨s0, s1⟩
                            go_simp
                            with_reducible rfl
                           rotate_left
                           ·
                            simp only [Act.put, List.setIfInBounds_toArray, List.set_cons_zero, List.set_cons_succ, i64_w, i32_w]
                            rfl
                           refine one_ (i := 3) (N := some 54) #[true, true, true, true, true, true, true, false, true, true, false, false, false, false, false, false] rfl rfl (one_of HT_.out (by kernel_rfl)) (by decide) (fun K hK => ?_)
                           refine Kd.R_append_rows_step (Kd.int .i64) (w0 := w) w.heap.size (by rfl) (.const (.slice none 0 0)) (.tmp 53) 22 2 (.int .i64 0) 8 rfl Try.underlying22 info2 rfl (by decide) (by omega) (.slice none 0 0) ([] : List Int) (rd_L1 t260 1) _ _ _ (fun k_ => (w.heap.size ≤ k_) ∧ some k_ ≠ (v266 : Value).ownBlock) (fun _ => False) rfl rfl ?aO ?aR (fun _ _ h => h) (fun _ h => h.elim) ?aF ?aB ?aS ?aL ?_
                           (case aR => repeat (first | exact (by repeat (first | (with_reducible exact HR268_0.out) | (with_reducible refine ccA ?_ _) | (with_reducible refine ccN ?_ _) | (with_reducible refine ccD ?_) | exact HR268_0.out)) | (with_reducible refine ccA ?_ _) | (with_reducible refine ccN ?_ _) | (with_reducible refine ccD ?_)))
                           (case aB => exact (by repeat (first | (with_reducible first | exact HB.out | apply zzA | apply zzN | apply zzD) | exact HB.out)))
                           (case aF => exact (fun k_ hk => ⟨(Nat.le_trans (zzS (by repeat (first | (with_reducible first | exact HB.out | apply zzA | apply zzN | apply zzD) | exact HB.out))) hk), Kd.fresh' (Kd.R_lt (by (with_reducible repeat (first | apply rrA | apply rrN | apply rrD)); exact HO267.out)) k_ hk⟩))
                           (case aO => exact ((Kd.R_nil _ _ _ _ (fun k_ => (w.heap.size ≤ k_) ∧ some k_ ≠ (v266 : Value).ownBlock))))
                           (case aS => exact (zzS (by repeat (first | (with_reducible first | exact HB.out | apply zzA | apply zzN | apply zzD) | exact HB.out))))
                           (case aL => have := LMc21.out; omega)
                           intro v270 w45 ho hb hg hat
                           have HS0_ := cell_grown hg (hHeld.1) (by intro h_; first | exact nomatch h_ | simp [Value.ownBlock] at h_)
                           have HS1_ := cell_grown hg (hHeld.2) (by intro h_; first | exact nomatch h_ | simp [Value.ownBlock] at h_)
                           rw [← Ny269.out] at ho
                           have n0_ := Aside0.mk (Kd.V_afterv (Kd.V_apart_nil (by (with_reducible repeat (first | apply Kd.V_alloc | apply Kd.V_drewN | apply Kd.V_drew)); exact HO_1.out)) hg hat)
                           have n1_ := Aside0.mk (Kd.N_afterv (Kd.N_apart_nil (by (with_reducible repeat (first | apply Kd.N_alloc | apply Kd.N_drewN | apply Kd.N_drew)); exact HO_8.out)) hg hat)
                           have n2_ := Aside0.mk (Kd.R_after (Kd.R_apart_nil (by (with_reducible repeat (first | apply rrA | apply rrN | apply rrD)); exact HO267.out)) hg hat)
                           have n3_ := Aside0.mk (Kd.V_afterv (Kd.V_apart_nil (by (with_reducible repeat (first | apply Kd.V_alloc | apply Kd.V_drewN | apply Kd.V_drew)); exact HL268_0.out)) hg hat)
                           have n4_ := Aside0.mk (Kd.V_afterv (Kd.V_apart_nil (by (with_reducible repeat (first | apply Kd.V_alloc | apply Kd.V_drewN | apply Kd.V_drew)); exact HL272_0.out)) hg hat)
                           have n5_ := Aside0.mk (hb)
                           have n6_ := Aside0.mk (ho)
                           clear HO_1
                           clear HO_8
                           clear HO267
                           clear HL268_0
                           clear HL272_0
                           clear HB
                           have HO_1 := n0_
                           have HO_8 := n1_
                           have HO267 := n2_
                           have HL268_0 := n3_
                           have HL272_0 := n4_
                           have HB := n5_
                           have HO271 := n6_
                           clear n0_ n1_ n2_ n3_ n4_ n5_ n6_
                           clear ho hb hg hat
                           refine hK.out _ _ ⟨HS0_, HS1_⟩ (fun hHeld => ?_)
                           clear hK K
                           refine norm_ (a' := ?_) ?_ ?_
                           rotate_left
                           ·
                            show Act.put _ (some 54) _ = _
                            simp only [Act.put, List.setIfInBounds_toArray, List.set_cons_zero, List.set_cons_succ, i64_w, i32_w]
                            rfl
                           refine last_ (i := 7) (N := some 58) #[true, true, true, true, true, true, true, true, true, true, false, false, false, false, false, false] rfl rfl (one_of HT_.out (by kernel_rfl)) (by decide) (fun K hK => ?_)
                           refine Kd.R_append_rows_step (Kd.int .i64) (w0 := w) w.heap.size (by rfl) (.tmp 54) (.tmp 57) 22 2 (.int .i64 0) 8 rfl Try.underlying22 info2 rfl (by decide) (by omega) v270 y269 (rd_L1 t260 0) _ _ _ (fun k_ => (w.heap.size ≤ k_) ∧ some k_ ≠ (v266 : Value).ownBlock) (fun _ => False) rfl rfl ?aO ?aR (fun _ _ h => h) (fun _ h => h.elim) ?aF ?aB ?aS ?aL ?_
                           (case aR => repeat (first | exact ((Kd.V_reads' (by (with_reducible repeat (first | apply Kd.V_alloc | apply Kd.V_drewN | apply Kd.V_drew)); exact HL272_0.out)).2.2) | (with_reducible refine ccA ?_ _) | (with_reducible refine ccN ?_ _) | (with_reducible refine ccD ?_)))
                           (case aB => exact (by repeat (first | (with_reducible first | exact HB.out | apply zzA | apply zzN | apply zzD) | exact HB.out)))
                           (case aF => exact (fun k_ hk => ⟨(Nat.le_trans (zzS (by repeat (first | (with_reducible first | exact HB.out | apply zzA | apply zzN | apply zzD) | exact HB.out))) hk), Kd.fresh' (Kd.R_lt (by (with_reducible repeat (first | apply rrA | apply rrN | apply rrD)); exact HO267.out)) k_ hk⟩))
                           (case aO => exact (by (with_reducible repeat (first | apply rrA | apply rrN | apply rrD)); exact HO271.out))
                           (case aS => exact (zzS (by repeat (first | (with_reducible first | exact HB.out | apply zzA | apply zzN | apply zzD) | exact HB.out))))
                           (case aL => have := LMc23.out; omega)
                           intro v274 w46 ho hb hg hat
                           rw [← Ny273.out] at ho
                           have n0_ := Aside0.mk (Kd.V_afterv (ok := (fun k_ => (P1_ k_ ∨ w.heap.size ≤ k_) ∧ some k_ ≠ (.slice (some ad268) t260.length co44 : Value).ownBlock ∧ some k_ ≠ (v266 : Value).ownBlock)) (by (with_reducible repeat (first | apply Kd.V_alloc | apply Kd.V_drewN | apply Kd.V_drew)); exact Kd.V_mono HO_1.out (fun _ hk => ⟨⟨hk.1.1.1, ⟨hk.1.1.2, hk.1.2⟩⟩, hk.2⟩)) hg hat)
                           have n1_ := Aside0.mk (Kd.N_afterv (ok := (fun k_ => (P1_ k_ ∨ w.heap.size ≤ k_) ∧ some k_ ≠ (v266 : Value).ownBlock)) (by (with_reducible repeat (first | apply Kd.N_alloc | apply Kd.N_drewN | apply Kd.N_drew)); exact HO_8.out) hg hat)
                           have n2_ := Aside0.mk (Kd.R_after (ok := (fun k_ => (w.heap.size ≤ k_))) (by (with_reducible repeat (first | apply rrA | apply rrN | apply rrD)); exact Kd.R_mono HO267.out (fun _ hk => ⟨hk.1.1, hk.2⟩)) hg hat)
                           have n3_ := Aside0.mk (Kd.V_afterv (ok := (fun k_ => (P1_ k_ ∨ w.heap.size ≤ k_) ∧ some k_ ≠ (.slice (some ad268) t260.length co44 : Value).ownBlock ∧ some k_ ≠ (v266 : Value).ownBlock)) (by (with_reducible repeat (first | apply Kd.V_alloc | apply Kd.V_drewN | apply Kd.V_drew)); exact Kd.V_mono HL268_0.out (fun _ hk => ⟨⟨hk.1.1.1, ⟨hk.1.2, hk.1.1.2⟩⟩, hk.2⟩)) hg hat)
                           have n4_ := Aside0.mk (Kd.V_afterv (ok := (fun k_ => (P1_ k_ ∨ w.heap.size ≤ k_) ∧ some k_ ≠ (.slice (some ad268) t260.length co44 : Value).ownBlock ∧ some k_ ≠ (v266 : Value).ownBlock)) (by (with_reducible repeat (first | apply Kd.V_alloc | apply Kd.V_drewN | apply Kd.V_drew)); exact Kd.V_mono HL272_0.out (fun _ hk => ⟨⟨hk.1.1.1, ⟨hk.1.2, hk.1.1.2⟩⟩, hk.2⟩)) hg hat)
                           have n5_ := Aside0.mk (hb)
                           have n6_ := Aside0.mk (ho)
                           clear HO_1
                           clear HO_8
                           clear HO267
                           clear HL268_0
                           clear HL272_0
                           clear HB
                           clear HO271
                           have HO_1 := n0_
                           have HO_8 := n1_
                           have HO267 := n2_
                           have HL268_0 := n3_
                           have HL272_0 := n4_
                           have HB := n5_
                           have HO275 := n6_
                           clear n0_ n1_ n2_ n3_ n4_ n5_ n6_
                           clear ho hb hg hat
                           obtain ⟨Ao47, co47, eo47⟩ := Kd.R_slice HO275.out
                           (first | subst eo47 | (injection eo47 with f1_ f2_ f3_; have f4_ := f1_.symm; have f5_ := f3_.symm; clear f1_ f2_ f3_; subst f4_; subst f5_))
                           refine hK.out _ _ ?_
                           clear hK K
                           refine norm_ (a' := ?_) ?_ ?_
                           rotate_left
                           ·
                            show Act.put _ (some 58) _ = _
                            simp only [Act.put, List.setIfInBounds_toArray, List.set_cons_zero, List.set_cons_succ, i64_w, i32_w]
                            rfl
                           refine last_ (i := 10) (N := some 61) #[true, true, true, true, true, true, true, true, true, true, true, false, false, false, false, false] rfl rfl (one_of HT_.out (by kernel_rfl)) (by decide) (fun K hK => ?_)
                           refine goes_ Try.func8 (by kernel_rfl) rfl #[.int .i64 2, .slice Ao47 y273.length co47, .slice A1 l1.length c1, .int .i64 a2] (by rfl) rfl rfl (by (try simp only [List.map_toArray, List.map_cons, List.map_nil]); first | done | rfl | (simp only [List.length_drop, List.length_take]; rfl)) ?_
                           with_reducible refine (soft_Tell.calls 2 _ _ y273 _ _ l1 a2 t276 t277 _ ?side1 ?side2 ?side3 ?side4 A24.out).mono ?_
                           (case side1 => repeat (first | exact (Kd.R_reads' HO275.out).2.2 | (with_reducible refine ccA ?_ _) | (with_reducible refine ccN ?_ _) | (with_reducible refine ccD ?_)))
                           (case side2 => exact (Kd.R_reads' HO275.out).2.1)
                           (case side3 => repeat (first | exact (Kd.V_reads' HO_1.out).2.2 | (with_reducible refine ccA ?_ _) | (with_reducible refine ccN ?_ _) | (with_reducible refine ccD ?_)))
                           (case side4 => exact (Kd.V_reads' HO_1.out).2.1)
                           rintro e w48 ⟨v278, rfl, ho0, hb⟩
                           refine ⟨_, rfl, ?_⟩
                           have n0_ := Aside0.mk (Kd.V_elder' (by (with_reducible repeat (first | apply Kd.V_alloc | apply Kd.V_drewN | apply Kd.V_drew)); exact HO_1.out) (Kd.R_base ho0) hb)
                           have n1_ := Aside0.mk (Kd.N_elder' (by (with_reducible repeat (first | apply Kd.N_alloc | apply Kd.N_drewN | apply Kd.N_drew)); exact HO_8.out) (Kd.R_base ho0) hb)
                           have n2_ := Aside0.mk (Kd.R_elder' (by (with_reducible repeat (first | apply rrA | apply rrN | apply rrD)); exact HO267.out) (Kd.R_base ho0) hb)
                           have n3_ := Aside0.mk (Kd.V_elder' (by (with_reducible repeat (first | apply Kd.V_alloc | apply Kd.V_drewN | apply Kd.V_drew)); exact HL268_0.out) (Kd.R_base ho0) hb)
                           have n4_ := Aside0.mk (Kd.V_elder' (by (with_reducible repeat (first | apply Kd.V_alloc | apply Kd.V_drewN | apply Kd.V_drew)); exact HL272_0.out) (Kd.R_base ho0) hb)
                           have n5_ := Aside0.mk (Kd.R_elder' (by (with_reducible repeat (first | apply rrA | apply rrN | apply rrD)); exact HO275.out) (Kd.R_base ho0) hb)
                           have n6_ := Aside0.mk (Kd.R_lower (Kd.R_new' (Kd.R_new' (Kd.R_newM (M := fun k_ => (w.heap.size ≤ k_)) ho0 (zzS (by repeat (first | (with_reducible first | exact HB.out | apply zzA | apply zzN | apply zzD) | exact HB.out))) (fun k_ h_ => h_)) (Kd.R_lt (by (with_reducible repeat (first | apply rrA | apply rrN | apply rrD)); exact HO267.out))) (Kd.R_lt (by (with_reducible repeat (first | apply rrA | apply rrN | apply rrD)); exact HO275.out))) (zzS (by repeat (first | (with_reducible first | exact HB.out | apply zzA | apply zzN | apply zzD) | exact HB.out))))
                           have n7_ := Aside0.mk (zzT (by repeat (first | (with_reducible first | exact HB.out | apply zzA | apply zzN | apply zzD) | exact HB.out)) hb)
                           clear HO_1
                           clear HO_8
                           clear HO267
                           clear HL268_0
                           clear HL272_0
                           clear HO275
                           clear HB
                           have HO_1 := n0_
                           have HO_8 := n1_
                           have HO267 := n2_
                           have HL268_0 := n3_
                           have HL272_0 := n4_
                           have HO275 := n5_
                           have HO279 := n6_
                           have HB := n7_
                           clear n0_ n1_ n2_ n3_ n4_ n5_ n6_ n7_
                           (try clear hb)
                           (try clear hb2)
                           (try clear hk)
                           (try clear hi)
                           (try clear ho0)
                           refine hK.out _ _ ?_
                           clear hK K
                           refine norm_ (a' := ?_) ?_ ?_
                           rotate_left
                           ·
                            show Act.put _ (some 61) _ = _
                            simp only [Act.put, List.setIfInBounds_toArray, List.set_cons_zero, List.set_cons_succ, i64_w, i32_w]
                            rfl
                           refine pure_ (i := 11) (N := some 50) (v := ?_) (a' := ?_) #[true, true, true, true, true, true, true, true, true, true, true, true, false, false, false, false] rfl rfl (any_of HT_.out (by kernel_rfl)) (fun _ _ _ h => h) (Or.inl ⟨by rfl, ?_⟩) ?_ ?_
                           rotate_left
                           ·
                            intro w'
                            go_simp
                            with_reducible rfl
                           rotate_left
                           ·
                            simp only [Act.put, List.setIfInBounds_toArray, List.set_cons_zero, List.set_cons_succ, i64_w, i32_w]
                            rfl
                           refine pure_ (i := 12) (N := some 62) (v := ?_) (a' := ?_) #[true, true, true, true, true, true, true, true, true, true, true, true, true, false, false, false] rfl rfl (any_of HT_.out (by kernel_rfl)) (fun _ _ _ h => h) (Or.inl ⟨by rfl, ?_⟩) ?_ ?_
                           rotate_left
                           ·
                            intro w'
                            go_simp
                            with_reducible rfl
                           rotate_left
                           ·
                            simp only [Act.put, List.setIfInBounds_toArray, List.set_cons_zero, List.set_cons_succ, i64_w, i32_w]
                            rfl
                           refine pure_ (i := 13) (N := some 63) (v := ?_) (a' := ?_) #[true, true, true, true, true, true, true, true, true, true, true, true, true, true, false, false] rfl rfl (any_of HT_.out (by kernel_rfl)) (fun _ _ _ h => h) (Or.inl ⟨by rfl, ?_⟩) ?_ ?_
                           rotate_left
                           ·
                            intro w'
                            go_simp
                            with_reducible rfl
                           rotate_left
                           ·
                            simp only [Act.put, List.setIfInBounds_toArray, List.set_cons_zero, List.set_cons_succ, i64_w, i32_w]
                            rfl
                           refine pure_ (i := 14) (N := some 12) (v := ?_) (a' := ?_) #[true, true, true, true, true, true, true, true, true, true, true, true, true, true, true, false] rfl rfl (any_of HT_.out (by kernel_rfl)) (fun _ _ _ h => h) (Or.inl ⟨by rfl, ?_⟩) ?_ ?_
                           rotate_left
                           ·
                            intro w'
                            go_simp
                            with_reducible rfl
                           rotate_left
                           ·
                            simp only [Act.put, List.setIfInBounds_toArray, List.set_cons_zero, List.set_cons_succ, i64_w, i32_w]
                            rfl
                           refine pure_ (i := 15) (N := some 13) (v := ?_) (a' := ?_) #[true, true, true, true, true, true, true, true, true, true, true, true, true, true, true, true] rfl rfl (any_of HT_.out (by kernel_rfl)) (fun _ _ _ h => h) (Or.inl ⟨by rfl, ?_⟩) ?_ ?_
                           rotate_left
                           ·
                            intro w'
                            go_simp
                            with_reducible rfl
                           rotate_left
                           ·
                            simp only [Act.put, List.setIfInBounds_toArray, List.set_cons_zero, List.set_cons_succ, i64_w, i32_w]
                            rfl
                           refine done_ (done_of HT_.out (by kernel_rfl)) ?_
                           try go_wp2
                           have n0_ := Aside0.mk (Kd.V_drew HO_1.out)
                           have n1_ := Aside0.mk (Kd.N_drew HO_8.out)
                           have n2_ := Aside0.mk (rrD HO267.out)
                           have n3_ := Aside0.mk (Kd.V_drew HL268_0.out)
                           have n4_ := Aside0.mk (Kd.V_drew HL272_0.out)
                           have n5_ := Aside0.mk (rrD HO275.out)
                           have n6_ := Aside0.mk (rrD HO279.out)
                           have n7_ := Aside0.mk (zzD HB.out)
                           clear HO_1
                           clear HO_8
                           clear HO267
                           clear HL268_0
                           clear HL272_0
                           clear HO275
                           clear HO279
                           clear HB
                           have HO_1 := n0_
                           have HO_8 := n1_
                           have HO267 := n2_
                           have HL268_0 := n3_
                           have HL272_0 := n4_
                           have HO275 := n5_
                           have HO279 := n6_
                           have HB := n7_
                           clear n0_ n1_ n2_ n3_ n4_ n5_ n6_ n7_
                           have p280 : 0 ≤ (0 : Int) := (by omega)
                           have q280 : 0 < (t260.length : Int) := of_decide_eq_true (by first | (with_reducible assumption) | assumption)
                           obtain ⟨ad280, A280_0, c280_0, e280, hx280_0, hl280_0, hi280_0⟩ := at_L1 (Kd.N_reads' HO_8.out).2.2 0 p280 q280
                           obtain rfl : ad268 = ad280 := (by injection e280)
                           obtain ⟨ce280, hce280, hMe280, hcc280⟩ := Kd.N_get HO_8.out [] 0 p280 (by first | exact q280 | exact of_decide_eq_true (by first | (with_reducible assumption) | assumption) | (have e_ := (Kd.N_reads' HO_8.out).1; omega))
                           obtain ⟨ua280_0, uc280_0, rfl, ul280_0, ge280_0⟩ := Kd.FK_slice_open hMe280
                           have hv280_0 := hcc280 0 _ rfl
                           rw [Nat.add_zero, show ((Kd.slice 2 (Kd.int .i64))).sz = 1 from rfl, Nat.mul_one] at hv280_0
                           replace hv280_0 := Option.some.inj (hv280_0.symm.trans hx280_0)
                           injection hv280_0 with hva_ hvn_ hvc_
                           rw [hva_] at ge280_0
                           rw [hvc_] at ul280_0
                           have HL280_0 := Aside0.mk (show Kd.V (Kd.int .i64) 2 _ w.heap.size _ _ (rd_L1 t260 0) from Kd.V_mk ul280_0 ge280_0)
                           clear hva_ hvn_ hvc_ ge280_0 ul280_0
                           clear hcc280 hce280
                           have qi280 : (0 < t260.length) = True := eq_true (by omega)
                           (try rw [show ((0 : Int)).toNat = 0 from rfl] at hx280_0)
                           (try rw [Addr.add_zero'] at hx280_0)
                           have HR280_0 := Aside0.mk hi280_0
                           have HC280_0 := Aside0.mk hl280_0
                           clear hi280_0 hl280_0
                           replace p280 := eq_true p280
                           replace q280 := eq_true q280
                           have p284 : 0 ≤ (0 : Int) := (by omega)
                           have q284 : 0 < (t260.length : Int) := of_decide_eq_true (by first | (with_reducible assumption) | assumption)
                           obtain ⟨ad284, A284_0, c284_0, e284, hx284_0, hl284_0, hi284_0⟩ := at_L1 (Kd.N_reads' HO_8.out).2.2 0 p284 q284
                           obtain rfl : ad268 = ad284 := (by injection e284)
                           obtain ⟨ce284, hce284, hMe284, hcc284⟩ := Kd.N_get HO_8.out [] 0 p284 (by first | exact q284 | exact of_decide_eq_true (by first | (with_reducible assumption) | assumption) | (have e_ := (Kd.N_reads' HO_8.out).1; omega))
                           obtain ⟨ua284_0, uc284_0, rfl, ul284_0, ge284_0⟩ := Kd.FK_slice_open hMe284
                           have hv284_0 := hcc284 0 _ rfl
                           rw [Nat.add_zero, show ((Kd.slice 2 (Kd.int .i64))).sz = 1 from rfl, Nat.mul_one] at hv284_0
                           replace hv284_0 := Option.some.inj (hv284_0.symm.trans hx284_0)
                           injection hv284_0 with hva_ hvn_ hvc_
                           rw [hva_] at ge284_0
                           rw [hvc_] at ul284_0
                           have HL284_0 := Aside0.mk (show Kd.V (Kd.int .i64) 2 _ w.heap.size _ _ (rd_L1 t260 0) from Kd.V_mk ul284_0 ge284_0)
                           clear hva_ hvn_ hvc_ ge284_0 ul284_0
                           clear hcc284 hce284
                           have qi284 : (0 < t260.length) = True := eq_true (by omega)
                           (try rw [show ((0 : Int)).toNat = 0 from rfl] at hx284_0)
                           (try rw [Addr.add_zero'] at hx284_0)
                           have HR284_0 := Aside0.mk hi284_0
                           have HC284_0 := Aside0.mk hl284_0
                           clear hi284_0 hl284_0
                           replace p284 := eq_true p284
                           replace q284 := eq_true q284
                           have ea_ := Option.some.inj (hx280_0.symm.trans hx284_0)
                           injection ea_ with ea_ en_ ec_
                           subst ea_
                           subst ec_
                           clear en_
                           refine start_ (n := 16) (S := fun w' => w'.cell? ad268 = some (.slice A280_0 (rd_L1 t260 0).length c280_0) ∧ w'.cell? ad268 = some (.slice A280_0 (rd_L1 t260 0).length c280_0)) (ds := [7, 10]) #[false, false, false, false, false, false, false, false, false, false, false, false, false, false, false, false] (by kernel_rfl) rfl rfl ⟨hx280_0, hx284_0⟩ (fun hHeld => ?_); refine with_tabW thrumlaw15_SoftTurns.tab11 thrumlaw15_SoftTurns.bits11 (fun HT_ HW_ => ?_)
                           generalize w48.drew = w49 at HO_1 HO_8 HO267 HL268_0 HL272_0 HO275 HO279 HB HL280_0 HL284_0 HR280_0 HR284_0 hx280_0 hx284_0 hHeld ⊢
                           refine pure_ (i := 0) (N := some 65) (v := ?_) (a' := ?_) #[true, false, false, false, false, false, false, false, false, false, false, false, false, false, false, false] rfl rfl (any_of HT_.out (by kernel_rfl)) (fun _ _ _ h => h) (Or.inl ⟨by rfl, ?_⟩) ?_ ?_
                           rotate_left
                           ·
                            intro w'
                            go_simp
                            with_reducible rfl
                           rotate_left
                           ·
                            simp only [Act.put, List.setIfInBounds_toArray, List.set_cons_zero, List.set_cons_succ, i64_w, i32_w]
                            rfl
                           refine pure_ (i := 1) (N := some 66) (v := ?_) (a' := ?_) #[true, true, false, false, false, false, false, false, false, false, false, false, false, false, false, false] rfl rfl (any_of HT_.out (by kernel_rfl)) (fun _ _ _ h => h) (Or.inl ⟨by rfl, ?_⟩) ?_ ?_
                           rotate_left
                           ·
                            intro w'
                            go_simp
                            with_reducible rfl
                           rotate_left
                           ·
                            simp only [Act.put, List.setIfInBounds_toArray, List.set_cons_zero, List.set_cons_succ, i64_w, i32_w]
                            rfl
                           refine pure_ (i := 4) (N := some 69) (v := ?_) (a' := ?_) #[true, true, false, false, true, false, false, false, false, false, false, false, false, false, false, false] rfl rfl (any_of HT_.out (by kernel_rfl)) (fun _ _ _ h => h) (Or.inl ⟨by rfl, ?_⟩) ?_ ?_
                           rotate_left
                           ·
                            intro w'
                            go_simp
                            with_reducible rfl
                           rotate_left
                           ·
                            simp only [Act.put, List.setIfInBounds_toArray, List.set_cons_zero, List.set_cons_succ, i64_w, i32_w]
                            rfl
                           refine pure_ (i := 5) (N := some 70) (v := ?_) (a' := ?_) #[true, true, false, false, true, true, false, false, false, false, false, false, false, false, false, false] rfl rfl (any_of HT_.out (by kernel_rfl)) (fun _ _ _ h => h) (Or.inl ⟨by rfl, ?_⟩) ?_ ?_
                           rotate_left
                           ·
                            intro w'
                            go_simp
                            with_reducible rfl
                           rotate_left
                           ·
                            simp only [Act.put, List.setIfInBounds_toArray, List.set_cons_zero, List.set_cons_succ, i64_w, i32_w]
                            rfl
                           refine pure_ (i := 8) (N := some 73) (v := ?_) (a' := ?_) #[true, true, false, false, true, true, false, false, true, false, false, false, false, false, false, false] rfl rfl (any_of HT_.out (by kernel_rfl)) (fun _ _ _ h => h) (Or.inl ⟨by rfl, ?_⟩) ?_ ?_
                           rotate_left
                           ·
                            intro w'
                            go_simp
                            with_reducible rfl
                           rotate_left
                           ·
                            simp only [Act.put, List.setIfInBounds_toArray, List.set_cons_zero, List.set_cons_succ, i64_w, i32_w]
                            rfl
                           refine pure_ (i := 9) (N := some 74) (v := ?_) (a' := ?_) #[true, true, false, false, true, true, false, false, true, true, false, false, false, false, false, false] rfl rfl (any_of HT_.out (by kernel_rfl)) (fun _ _ _ h => h) (Or.inl ⟨by rfl, ?_⟩) ?_ ?_
                           rotate_left
                           ·
                            intro w'
                            go_simp
                            with_reducible rfl
                           rotate_left
                           ·
                            simp only [Act.put, List.setIfInBounds_toArray, List.set_cons_zero, List.set_cons_succ, i64_w, i32_w]
                            rfl
                           refine take_ (i := 2) (N := some 67) (v := ?_) (a' := ?_) #[true, true, true, false, true, true, false, false, true, true, false, false, false, false, false, false] rfl rfl (take_ofW HT_.out HW_.out (by kernel_rfl)) (fun _ _ _ h => h) (Or.inl ⟨by rfl, ?_⟩) hHeld ?_ ?_
                           rotate_left
                           ·
                            rintro w' ⟨s0, s1⟩
                            go_simp
                            with_reducible rfl
                           rotate_left
                           ·
                            simp only [Act.put, List.setIfInBounds_toArray, List.set_cons_zero, List.set_cons_succ, i64_w, i32_w]
                            rfl
                           refine take_ (i := 6) (N := some 71) (v := ?_) (a' := ?_) #[true, true, true, false, true, true, true, false, true, true, false, false, false, false, false, false] rfl rfl (take_ofW HT_.out HW_.out (by kernel_rfl)) (fun _ _ _ h => h) (Or.inl ⟨by rfl, ?_⟩) hHeld ?_ ?_
                           rotate_left
                           ·
                            rintro w' ⟨s0, s1⟩
                            go_simp
                            with_reducible rfl
                           rotate_left
                           ·
                            simp only [Act.put, List.setIfInBounds_toArray, List.set_cons_zero, List.set_cons_succ, i64_w, i32_w]
                            rfl
                           refine one_ (i := 3) (N := some 68) #[true, true, true, true, true, true, true, false, true, true, false, false, false, false, false, false] rfl rfl (one_of HT_.out (by kernel_rfl)) (by decide) (fun K hK => ?_)
                           refine Kd.R_append_rows_step (Kd.int .i64) (w0 := w) w.heap.size (by rfl) (.const (.slice none 0 0)) (.tmp 67) 22 2 (.int .i64 0) 8 rfl Try.underlying22 info2 rfl (by decide) (by omega) (.slice none 0 0) ([] : List Int) (rd_L1 t260 0) _ _ _ (fun k_ => (w.heap.size ≤ k_) ∧ some k_ ≠ (v266 : Value).ownBlock ∧ some k_ ≠ (.slice Ao47 y273.length co47 : Value).ownBlock ∧ some k_ ≠ (v278 : Value).ownBlock) (fun _ => False) rfl rfl ?aO ?aR (fun _ _ h => h) (fun _ h => h.elim) ?aF ?aB ?aS ?aL ?_
                           (case aR => repeat (first | exact (by repeat (first | (with_reducible exact HR280_0.out) | (with_reducible refine ccA ?_ _) | (with_reducible refine ccN ?_ _) | (with_reducible refine ccD ?_) | exact HR280_0.out)) | (with_reducible refine ccA ?_ _) | (with_reducible refine ccN ?_ _) | (with_reducible refine ccD ?_)))
                           (case aB => exact (by repeat (first | (with_reducible first | exact HB.out | apply zzA | apply zzN | apply zzD) | exact HB.out)))
                           (case aF => exact (fun k_ hk => ⟨(Nat.le_trans (zzS (by repeat (first | (with_reducible first | exact HB.out | apply zzA | apply zzN | apply zzD) | exact HB.out))) hk), Kd.fresh' (Kd.R_lt (by (with_reducible repeat (first | apply rrA | apply rrN | apply rrD)); exact HO267.out)) k_ hk, Kd.fresh' (Kd.R_lt (by (with_reducible repeat (first | apply rrA | apply rrN | apply rrD)); exact HO275.out)) k_ hk, Kd.fresh' (Kd.R_lt (by (with_reducible repeat (first | apply rrA | apply rrN | apply rrD)); exact HO279.out)) k_ hk⟩))
                           (case aO => exact ((Kd.R_nil _ _ _ _ (fun k_ => (w.heap.size ≤ k_) ∧ some k_ ≠ (v266 : Value).ownBlock ∧ some k_ ≠ (.slice Ao47 y273.length co47 : Value).ownBlock ∧ some k_ ≠ (v278 : Value).ownBlock))))
                           (case aS => exact (zzS (by repeat (first | (with_reducible first | exact HB.out | apply zzA | apply zzN | apply zzD) | exact HB.out))))
                           (case aL => have := LMc25.out; omega)
                           intro v282 w50 ho hb hg hat
                           have HS0_ := cell_grown hg (hHeld.1) (by intro h_; first | exact nomatch h_ | simp [Value.ownBlock] at h_)
                           have HS1_ := cell_grown hg (hHeld.2) (by intro h_; first | exact nomatch h_ | simp [Value.ownBlock] at h_)
                           rw [← Ny281.out] at ho
                           have n0_ := Aside0.mk (Kd.V_afterv (Kd.V_apart_nil (by (with_reducible repeat (first | apply Kd.V_alloc | apply Kd.V_drewN | apply Kd.V_drew)); exact HO_1.out)) hg hat)
                           have n1_ := Aside0.mk (Kd.N_afterv (Kd.N_apart_nil (by (with_reducible repeat (first | apply Kd.N_alloc | apply Kd.N_drewN | apply Kd.N_drew)); exact HO_8.out)) hg hat)
                           have n2_ := Aside0.mk (Kd.R_after (Kd.R_apart_nil (by (with_reducible repeat (first | apply rrA | apply rrN | apply rrD)); exact HO267.out)) hg hat)
                           have n3_ := Aside0.mk (Kd.V_afterv (Kd.V_apart_nil (by (with_reducible repeat (first | apply Kd.V_alloc | apply Kd.V_drewN | apply Kd.V_drew)); exact HL268_0.out)) hg hat)
                           have n4_ := Aside0.mk (Kd.V_afterv (Kd.V_apart_nil (by (with_reducible repeat (first | apply Kd.V_alloc | apply Kd.V_drewN | apply Kd.V_drew)); exact HL272_0.out)) hg hat)
                           have n5_ := Aside0.mk (Kd.R_after (Kd.R_apart_nil (by (with_reducible repeat (first | apply rrA | apply rrN | apply rrD)); exact HO275.out)) hg hat)
                           have n6_ := Aside0.mk (Kd.R_after (Kd.R_apart_nil (by (with_reducible repeat (first | apply rrA | apply rrN | apply rrD)); exact HO279.out)) hg hat)
                           have n7_ := Aside0.mk (Kd.V_afterv (Kd.V_apart_nil (by (with_reducible repeat (first | apply Kd.V_alloc | apply Kd.V_drewN | apply Kd.V_drew)); exact HL280_0.out)) hg hat)
                           have n8_ := Aside0.mk (Kd.V_afterv (Kd.V_apart_nil (by (with_reducible repeat (first | apply Kd.V_alloc | apply Kd.V_drewN | apply Kd.V_drew)); exact HL284_0.out)) hg hat)
                           have n9_ := Aside0.mk (hb)
                           have n10_ := Aside0.mk (ho)
                           clear HO_1
                           clear HO_8
                           clear HO267
                           clear HL268_0
                           clear HL272_0
                           clear HO275
                           clear HO279
                           clear HL280_0
                           clear HL284_0
                           clear HB
                           have HO_1 := n0_
                           have HO_8 := n1_
                           have HO267 := n2_
                           have HL268_0 := n3_
                           have HL272_0 := n4_
                           have HO275 := n5_
                           have HO279 := n6_
                           have HL280_0 := n7_
                           have HL284_0 := n8_
                           have HB := n9_
                           have HO283 := n10_
                           clear n0_ n1_ n2_ n3_ n4_ n5_ n6_ n7_ n8_ n9_ n10_
                           clear ho hb hg hat
                           refine hK.out _ _ ⟨HS0_, HS1_⟩ (fun hHeld => ?_)
                           clear hK K
                           refine norm_ (a' := ?_) ?_ ?_
                           rotate_left
                           ·
                            show Act.put _ (some 68) _ = _
                            simp only [Act.put, List.setIfInBounds_toArray, List.set_cons_zero, List.set_cons_succ, i64_w, i32_w]
                            rfl
                           refine last_ (i := 7) (N := some 72) #[true, true, true, true, true, true, true, true, true, true, false, false, false, false, false, false] rfl rfl (one_of HT_.out (by kernel_rfl)) (by decide) (fun K hK => ?_)
                           refine Kd.R_append_rows_step (Kd.int .i64) (w0 := w) w.heap.size (by rfl) (.tmp 68) (.tmp 71) 22 2 (.int .i64 0) 8 rfl Try.underlying22 info2 rfl (by decide) (by omega) v282 y281 (rd_L1 t260 0) _ _ _ (fun k_ => (w.heap.size ≤ k_) ∧ some k_ ≠ (v266 : Value).ownBlock ∧ some k_ ≠ (.slice Ao47 y273.length co47 : Value).ownBlock ∧ some k_ ≠ (v278 : Value).ownBlock) (fun _ => False) rfl rfl ?aO ?aR (fun _ _ h => h) (fun _ h => h.elim) ?aF ?aB ?aS ?aL ?_
                           (case aR => repeat (first | exact ((Kd.V_reads' (by (with_reducible repeat (first | apply Kd.V_alloc | apply Kd.V_drewN | apply Kd.V_drew)); exact HL284_0.out)).2.2) | (with_reducible refine ccA ?_ _) | (with_reducible refine ccN ?_ _) | (with_reducible refine ccD ?_)))
                           (case aB => exact (by repeat (first | (with_reducible first | exact HB.out | apply zzA | apply zzN | apply zzD) | exact HB.out)))
                           (case aF => exact (fun k_ hk => ⟨(Nat.le_trans (zzS (by repeat (first | (with_reducible first | exact HB.out | apply zzA | apply zzN | apply zzD) | exact HB.out))) hk), Kd.fresh' (Kd.R_lt (by (with_reducible repeat (first | apply rrA | apply rrN | apply rrD)); exact HO267.out)) k_ hk, Kd.fresh' (Kd.R_lt (by (with_reducible repeat (first | apply rrA | apply rrN | apply rrD)); exact HO275.out)) k_ hk, Kd.fresh' (Kd.R_lt (by (with_reducible repeat (first | apply rrA | apply rrN | apply rrD)); exact HO279.out)) k_ hk⟩))
                           (case aO => exact (by (with_reducible repeat (first | apply rrA | apply rrN | apply rrD)); exact HO283.out))
                           (case aS => exact (zzS (by repeat (first | (with_reducible first | exact HB.out | apply zzA | apply zzN | apply zzD) | exact HB.out))))
                           (case aL => have := LMc26.out; omega)
                           intro v286 w51 ho hb hg hat
                           rw [← Ny285.out] at ho
                           have n0_ := Aside0.mk (Kd.V_afterv (ok := (fun k_ => (P1_ k_ ∨ w.heap.size ≤ k_) ∧ some k_ ≠ (.slice (some ad268) t260.length co44 : Value).ownBlock ∧ some k_ ≠ (v266 : Value).ownBlock ∧ some k_ ≠ (.slice Ao47 y273.length co47 : Value).ownBlock ∧ some k_ ≠ (v278 : Value).ownBlock)) (by (with_reducible repeat (first | apply Kd.V_alloc | apply Kd.V_drewN | apply Kd.V_drew)); exact Kd.V_mono HO_1.out (fun _ hk => ⟨⟨hk.1.1.1.1, ⟨hk.1.1.1.2.1, ⟨hk.1.1.1.2.2, ⟨hk.1.1.2, hk.1.2⟩⟩⟩⟩, hk.2⟩)) hg hat)
                           have n1_ := Aside0.mk (Kd.N_afterv (ok := (fun k_ => (P1_ k_ ∨ w.heap.size ≤ k_) ∧ some k_ ≠ (v266 : Value).ownBlock ∧ some k_ ≠ (.slice Ao47 y273.length co47 : Value).ownBlock ∧ some k_ ≠ (v278 : Value).ownBlock)) (by (with_reducible repeat (first | apply Kd.N_alloc | apply Kd.N_drewN | apply Kd.N_drew)); exact Kd.N_mono HO_8.out (fun _ hk => ⟨⟨hk.1.1.1.1, ⟨hk.1.1.1.2, ⟨hk.1.1.2, hk.1.2⟩⟩⟩, hk.2⟩)) hg hat)
                           have n2_ := Aside0.mk (Kd.R_after (ok := (fun k_ => (w.heap.size ≤ k_) ∧ some k_ ≠ (.slice Ao47 y273.length co47 : Value).ownBlock ∧ some k_ ≠ (v278 : Value).ownBlock)) (by (with_reducible repeat (first | apply rrA | apply rrN | apply rrD)); exact Kd.R_mono HO267.out (fun _ hk => ⟨⟨hk.1.1.1, ⟨hk.1.1.2, hk.1.2⟩⟩, hk.2⟩)) hg hat)
                           have n3_ := Aside0.mk (Kd.V_afterv (ok := (fun k_ => (P1_ k_ ∨ w.heap.size ≤ k_) ∧ some k_ ≠ (.slice (some ad268) t260.length co44 : Value).ownBlock ∧ some k_ ≠ (v266 : Value).ownBlock ∧ some k_ ≠ (.slice Ao47 y273.length co47 : Value).ownBlock ∧ some k_ ≠ (v278 : Value).ownBlock)) (by (with_reducible repeat (first | apply Kd.V_alloc | apply Kd.V_drewN | apply Kd.V_drew)); exact Kd.V_mono HL268_0.out (fun _ hk => ⟨⟨hk.1.1.1.1, ⟨hk.1.1.1.2.1, ⟨hk.1.1.1.2.2, ⟨hk.1.1.2, hk.1.2⟩⟩⟩⟩, hk.2⟩)) hg hat)
                           have n4_ := Aside0.mk (Kd.V_afterv (ok := (fun k_ => (P1_ k_ ∨ w.heap.size ≤ k_) ∧ some k_ ≠ (.slice (some ad268) t260.length co44 : Value).ownBlock ∧ some k_ ≠ (v266 : Value).ownBlock ∧ some k_ ≠ (.slice Ao47 y273.length co47 : Value).ownBlock ∧ some k_ ≠ (v278 : Value).ownBlock)) (by (with_reducible repeat (first | apply Kd.V_alloc | apply Kd.V_drewN | apply Kd.V_drew)); exact Kd.V_mono HL272_0.out (fun _ hk => ⟨⟨hk.1.1.1.1, ⟨hk.1.1.1.2.1, ⟨hk.1.1.1.2.2, ⟨hk.1.1.2, hk.1.2⟩⟩⟩⟩, hk.2⟩)) hg hat)
                           have n5_ := Aside0.mk (Kd.R_after (ok := (fun k_ => (w.heap.size ≤ k_) ∧ some k_ ≠ (v266 : Value).ownBlock ∧ some k_ ≠ (v278 : Value).ownBlock)) (by (with_reducible repeat (first | apply rrA | apply rrN | apply rrD)); exact Kd.R_mono HO275.out (fun _ hk => ⟨⟨hk.1.1.1, ⟨hk.1.1.2, hk.1.2⟩⟩, hk.2⟩)) hg hat)
                           have n6_ := Aside0.mk (Kd.R_after (ok := (fun k_ => (w.heap.size ≤ k_) ∧ some k_ ≠ (v266 : Value).ownBlock ∧ some k_ ≠ (.slice Ao47 y273.length co47 : Value).ownBlock)) (by (with_reducible repeat (first | apply rrA | apply rrN | apply rrD)); exact Kd.R_mono HO279.out (fun _ hk => ⟨⟨hk.1.1.1.1, ⟨hk.1.1.2, hk.1.2⟩⟩, hk.2⟩)) hg hat)
                           have n7_ := Aside0.mk (Kd.V_afterv (ok := (fun k_ => (P1_ k_ ∨ w.heap.size ≤ k_) ∧ some k_ ≠ (.slice (some ad268) t260.length co44 : Value).ownBlock ∧ some k_ ≠ (v266 : Value).ownBlock ∧ some k_ ≠ (.slice Ao47 y273.length co47 : Value).ownBlock ∧ some k_ ≠ (v278 : Value).ownBlock)) (by (with_reducible repeat (first | apply Kd.V_alloc | apply Kd.V_drewN | apply Kd.V_drew)); exact Kd.V_mono HL280_0.out (fun _ hk => ⟨⟨hk.1.1.1.1.1, ⟨hk.1.2, ⟨hk.1.1.1.1.2, ⟨hk.1.1.1.2, hk.1.1.2⟩⟩⟩⟩, hk.2⟩)) hg hat)
                           have n8_ := Aside0.mk (Kd.V_afterv (ok := (fun k_ => (P1_ k_ ∨ w.heap.size ≤ k_) ∧ some k_ ≠ (.slice (some ad268) t260.length co44 : Value).ownBlock ∧ some k_ ≠ (v266 : Value).ownBlock ∧ some k_ ≠ (.slice Ao47 y273.length co47 : Value).ownBlock ∧ some k_ ≠ (v278 : Value).ownBlock)) (by (with_reducible repeat (first | apply Kd.V_alloc | apply Kd.V_drewN | apply Kd.V_drew)); exact Kd.V_mono HL284_0.out (fun _ hk => ⟨⟨hk.1.1.1.1.1, ⟨hk.1.2, ⟨hk.1.1.1.1.2, ⟨hk.1.1.1.2, hk.1.1.2⟩⟩⟩⟩, hk.2⟩)) hg hat)
                           have n9_ := Aside0.mk (hb)
                           have n10_ := Aside0.mk (ho)
                           clear HO_1
                           clear HO_8
                           clear HO267
                           clear HL268_0
                           clear HL272_0
                           clear HO275
                           clear HO279
                           clear HL280_0
                           clear HL284_0
                           clear HB
                           clear HO283
                           have HO_1 := n0_
                           have HO_8 := n1_
                           have HO267 := n2_
                           have HL268_0 := n3_
                           have HL272_0 := n4_
                           have HO275 := n5_
                           have HO279 := n6_
                           have HL280_0 := n7_
                           have HL284_0 := n8_
                           have HB := n9_
                           have HO287 := n10_
                           clear n0_ n1_ n2_ n3_ n4_ n5_ n6_ n7_ n8_ n9_ n10_
                           clear ho hb hg hat
                           obtain ⟨Ao52, co52, eo52⟩ := Kd.R_slice HO287.out
                           (first | subst eo52 | (injection eo52 with f1_ f2_ f3_; have f4_ := f1_.symm; have f5_ := f3_.symm; clear f1_ f2_ f3_; subst f4_; subst f5_))
                           refine hK.out _ _ ?_
                           clear hK K
                           refine norm_ (a' := ?_) ?_ ?_
                           rotate_left
                           ·
                            show Act.put _ (some 72) _ = _
                            simp only [Act.put, List.setIfInBounds_toArray, List.set_cons_zero, List.set_cons_succ, i64_w, i32_w]
                            rfl
                           refine last_ (i := 10) (N := some 75) #[true, true, true, true, true, true, true, true, true, true, true, false, false, false, false, false] rfl rfl (one_of HT_.out (by kernel_rfl)) (by decide) (fun K hK => ?_)
                           refine goes_ Try.func8 (by kernel_rfl) rfl #[.int .i64 2, .slice Ao52 y285.length co52, .slice A1 l1.length c1, .int .i64 a2] (by rfl) rfl rfl (by (try simp only [List.map_toArray, List.map_cons, List.map_nil]); first | done | rfl | (simp only [List.length_drop, List.length_take]; rfl)) ?_
                           with_reducible refine (soft_Tell.calls 2 _ _ y285 _ _ l1 a2 t288 t289 _ ?side1 ?side2 ?side3 ?side4 A27.out).mono ?_
                           (case side1 => repeat (first | exact (Kd.R_reads' HO287.out).2.2 | (with_reducible refine ccA ?_ _) | (with_reducible refine ccN ?_ _) | (with_reducible refine ccD ?_)))
                           (case side2 => exact (Kd.R_reads' HO287.out).2.1)
                           (case side3 => repeat (first | exact (Kd.V_reads' HO_1.out).2.2 | (with_reducible refine ccA ?_ _) | (with_reducible refine ccN ?_ _) | (with_reducible refine ccD ?_)))
                           (case side4 => exact (Kd.V_reads' HO_1.out).2.1)
                           rintro e w53 ⟨v290, rfl, ho0, hb⟩
                           refine ⟨_, rfl, ?_⟩
                           have n0_ := Aside0.mk (Kd.V_elder' (by (with_reducible repeat (first | apply Kd.V_alloc | apply Kd.V_drewN | apply Kd.V_drew)); exact HO_1.out) (Kd.R_base ho0) hb)
                           have n1_ := Aside0.mk (Kd.N_elder' (by (with_reducible repeat (first | apply Kd.N_alloc | apply Kd.N_drewN | apply Kd.N_drew)); exact HO_8.out) (Kd.R_base ho0) hb)
                           have n2_ := Aside0.mk (Kd.R_elder' (by (with_reducible repeat (first | apply rrA | apply rrN | apply rrD)); exact HO267.out) (Kd.R_base ho0) hb)
                           have n3_ := Aside0.mk (Kd.V_elder' (by (with_reducible repeat (first | apply Kd.V_alloc | apply Kd.V_drewN | apply Kd.V_drew)); exact HL268_0.out) (Kd.R_base ho0) hb)
                           have n4_ := Aside0.mk (Kd.V_elder' (by (with_reducible repeat (first | apply Kd.V_alloc | apply Kd.V_drewN | apply Kd.V_drew)); exact HL272_0.out) (Kd.R_base ho0) hb)
                           have n5_ := Aside0.mk (Kd.R_elder' (by (with_reducible repeat (first | apply rrA | apply rrN | apply rrD)); exact HO275.out) (Kd.R_base ho0) hb)
                           have n6_ := Aside0.mk (Kd.R_elder' (by (with_reducible repeat (first | apply rrA | apply rrN | apply rrD)); exact HO279.out) (Kd.R_base ho0) hb)
                           have n7_ := Aside0.mk (Kd.V_elder' (by (with_reducible repeat (first | apply Kd.V_alloc | apply Kd.V_drewN | apply Kd.V_drew)); exact HL280_0.out) (Kd.R_base ho0) hb)
                           have n8_ := Aside0.mk (Kd.V_elder' (by (with_reducible repeat (first | apply Kd.V_alloc | apply Kd.V_drewN | apply Kd.V_drew)); exact HL284_0.out) (Kd.R_base ho0) hb)
                           have n9_ := Aside0.mk (Kd.R_elder' (by (with_reducible repeat (first | apply rrA | apply rrN | apply rrD)); exact HO287.out) (Kd.R_base ho0) hb)
                           have n10_ := Aside0.mk (Kd.R_lower (Kd.R_new' (Kd.R_new' (Kd.R_new' (Kd.R_new' (Kd.R_newM (M := fun k_ => (w.heap.size ≤ k_)) ho0 (zzS (by repeat (first | (with_reducible first | exact HB.out | apply zzA | apply zzN | apply zzD) | exact HB.out))) (fun k_ h_ => h_)) (Kd.R_lt (by (with_reducible repeat (first | apply rrA | apply rrN | apply rrD)); exact HO267.out))) (Kd.R_lt (by (with_reducible repeat (first | apply rrA | apply rrN | apply rrD)); exact HO275.out))) (Kd.R_lt (by (with_reducible repeat (first | apply rrA | apply rrN | apply rrD)); exact HO279.out))) (Kd.R_lt (by (with_reducible repeat (first | apply rrA | apply rrN | apply rrD)); exact HO287.out))) (zzS (by repeat (first | (with_reducible first | exact HB.out | apply zzA | apply zzN | apply zzD) | exact HB.out))))
                           have n11_ := Aside0.mk (zzT (by repeat (first | (with_reducible first | exact HB.out | apply zzA | apply zzN | apply zzD) | exact HB.out)) hb)
                           clear HO_1
                           clear HO_8
                           clear HO267
                           clear HL268_0
                           clear HL272_0
                           clear HO275
                           clear HO279
                           clear HL280_0
                           clear HL284_0
                           clear HO287
                           clear HB
                           have HO_1 := n0_
                           have HO_8 := n1_
                           have HO267 := n2_
                           have HL268_0 := n3_
                           have HL272_0 := n4_
                           have HO275 := n5_
                           have HO279 := n6_
                           have HL280_0 := n7_
                           have HL284_0 := n8_
                           have HO287 := n9_
                           have HO291 := n10_
                           have HB := n11_
                           clear n0_ n1_ n2_ n3_ n4_ n5_ n6_ n7_ n8_ n9_ n10_ n11_
                           (try clear hb)
                           (try clear hb2)
                           (try clear hk)
                           (try clear hi)
                           (try clear ho0)
                           refine hK.out _ _ ?_
                           clear hK K
                           refine norm_ (a' := ?_) ?_ ?_
                           rotate_left
                           ·
                            show Act.put _ (some 75) _ = _
                            simp only [Act.put, List.setIfInBounds_toArray, List.set_cons_zero, List.set_cons_succ, i64_w, i32_w]
                            rfl
                           refine pure_ (i := 11) (N := some 64) (v := ?_) (a' := ?_) #[true, true, true, true, true, true, true, true, true, true, true, true, false, false, false, false] rfl rfl (any_of HT_.out (by kernel_rfl)) (fun _ _ _ h => h) (Or.inl ⟨by rfl, ?_⟩) ?_ ?_
                           rotate_left
                           ·
                            intro w'
                            go_simp
                            with_reducible rfl
                           rotate_left
                           ·
                            simp only [Act.put, List.setIfInBounds_toArray, List.set_cons_zero, List.set_cons_succ, i64_w, i32_w]
                            rfl
                           refine pure_ (i := 12) (N := some 76) (v := ?_) (a' := ?_) #[true, true, true, true, true, true, true, true, true, true, true, true, true, false, false, false] rfl rfl (any_of HT_.out (by kernel_rfl)) (fun _ _ _ h => h) (Or.inl ⟨by rfl, ?_⟩) ?_ ?_
                           rotate_left
                           ·
                            intro w'
                            go_simp
                            with_reducible rfl
                           rotate_left
                           ·
                            simp only [Act.put, List.setIfInBounds_toArray, List.set_cons_zero, List.set_cons_succ, i64_w, i32_w]
                            rfl
                           refine pure_ (i := 13) (N := some 77) (v := ?_) (a' := ?_) #[true, true, true, true, true, true, true, true, true, true, true, true, true, true, false, false] rfl rfl (any_of HT_.out (by kernel_rfl)) (fun _ _ _ h => h) (Or.inl ⟨by rfl, ?_⟩) ?_ ?_
                           rotate_left
                           ·
                            intro w'
                            go_simp
                            with_reducible rfl
                           rotate_left
                           ·
                            simp only [Act.put, List.setIfInBounds_toArray, List.set_cons_zero, List.set_cons_succ, i64_w, i32_w]
                            rfl
                           refine pure_ (i := 14) (N := some 14) (v := ?_) (a' := ?_) #[true, true, true, true, true, true, true, true, true, true, true, true, true, true, true, false] rfl rfl (any_of HT_.out (by kernel_rfl)) (fun _ _ _ h => h) (Or.inl ⟨by rfl, ?_⟩) ?_ ?_
                           rotate_left
                           ·
                            intro w'
                            go_simp
                            with_reducible rfl
                           rotate_left
                           ·
                            simp only [Act.put, List.setIfInBounds_toArray, List.set_cons_zero, List.set_cons_succ, i64_w, i32_w]
                            rfl
                           refine pure_ (i := 15) (N := some 15) (v := ?_) (a' := ?_) #[true, true, true, true, true, true, true, true, true, true, true, true, true, true, true, true] rfl rfl (any_of HT_.out (by kernel_rfl)) (fun _ _ _ h => h) (Or.inl ⟨by rfl, ?_⟩) ?_ ?_
                           rotate_left
                           ·
                            intro w'
                            go_simp
                            with_reducible rfl
                           rotate_left
                           ·
                            simp only [Act.put, List.setIfInBounds_toArray, List.set_cons_zero, List.set_cons_succ, i64_w, i32_w]
                            rfl
                           refine done_ (done_of HT_.out (by kernel_rfl)) ?_
                           obtain ⟨Ao54, co54, eo54⟩ := Kd.R_slice HO267.out
                           subst eo54
                           obtain ⟨Ao55, co55, eo55⟩ := Kd.R_slice HO279.out
                           subst eo55
                           obtain ⟨Ao56, co56, eo56⟩ := Kd.R_slice HO291.out
                           subst eo56
                           try go_wp2
                           have n0_ := Aside0.mk (Kd.V_drew HO_1.out)
                           have n1_ := Aside0.mk (Kd.N_drew HO_8.out)
                           have n2_ := Aside0.mk (rrD HO267.out)
                           have n3_ := Aside0.mk (Kd.V_drew HL268_0.out)
                           have n4_ := Aside0.mk (Kd.V_drew HL272_0.out)
                           have n5_ := Aside0.mk (rrD HO275.out)
                           have n6_ := Aside0.mk (rrD HO279.out)
                           have n7_ := Aside0.mk (Kd.V_drew HL280_0.out)
                           have n8_ := Aside0.mk (Kd.V_drew HL284_0.out)
                           have n9_ := Aside0.mk (rrD HO287.out)
                           have n10_ := Aside0.mk (rrD HO291.out)
                           have n11_ := Aside0.mk (zzD HB.out)
                           clear HO_1
                           clear HO_8
                           clear HO267
                           clear HL268_0
                           clear HL272_0
                           clear HO275
                           clear HO279
                           clear HL280_0
                           clear HL284_0
                           clear HO287
                           clear HO291
                           clear HB
                           have HO_1 := n0_
                           have HO_8 := n1_
                           have HO267 := n2_
                           have HL268_0 := n3_
                           have HL272_0 := n4_
                           have HO275 := n5_
                           have HO279 := n6_
                           have HL280_0 := n7_
                           have HL284_0 := n8_
                           have HO287 := n9_
                           have HO291 := n10_
                           have HB := n11_
                           clear n0_ n1_ n2_ n3_ n4_ n5_ n6_ n7_ n8_ n9_ n10_ n11_
                           have p292 : 0 ≤ (0 : Int) := (by omega)
                           have q292 : 0 < (t264.length : Int) := of_decide_eq_true (by first | (with_reducible assumption) | assumption)
                           obtain ⟨ad292, e292, hx292_0⟩ := Kd.at_int (Kd.R_reads' HO267.out).2.2 0 p292 q292
                           cases e292
                           have qi292 : (0 < t264.length) = True := eq_true (by omega)
                           (try rw [show ((0 : Int)).toNat = 0 from rfl] at hx292_0)
                           (try rw [Addr.add_zero'] at hx292_0)
                           replace p292 := eq_true p292
                           replace q292 := eq_true q292
                           have p293 : 0 ≤ (1 : Int) := (by omega)
                           have q293 : 1 < (t276.length : Int) := of_decide_eq_true (by first | (with_reducible assumption) | assumption)
                           obtain ⟨ad293, e293, hx293_0⟩ := Kd.at_int (Kd.R_reads' HO279.out).2.2 1 p293 q293
                           cases e293
                           (try simp only [show (1 : Int).toNat = 1 from rfl, Nat.reduceMul, Nat.reduceEqDiff, Go.Addr.add, ↓reduceIte] at hx293_0)
                           have qi293 : (1 < t276.length) = True := eq_true (by omega)
                           (try rw [show ((1 : Int)).toNat = 1 from rfl] at hx293_0)
                           replace p293 := eq_true p293
                           replace q293 := eq_true q293
                           have p294 : 0 ≤ (1 : Int) := (by omega)
                           have q294 : 1 < (t264.length : Int) := of_decide_eq_true (by first | (with_reducible assumption) | assumption)
                           obtain ⟨ad294, e294, hx294_0⟩ := Kd.at_int (Kd.R_reads' HO267.out).2.2 1 p294 q294
                           obtain rfl : ad292 = ad294 := (by injection e294)
                           (try simp only [show (1 : Int).toNat = 1 from rfl, Nat.reduceMul, Nat.reduceEqDiff, Go.Addr.add, ↓reduceIte] at hx294_0)
                           have qi294 : (1 < t264.length) = True := eq_true (by omega)
                           (try rw [show ((1 : Int)).toNat = 1 from rfl] at hx294_0)
                           replace p294 := eq_true p294
                           replace q294 := eq_true q294
                           have p295 : 0 ≤ (0 : Int) := (by omega)
                           have q295 : 0 < (t276.length : Int) := of_decide_eq_true (by first | (with_reducible assumption) | assumption)
                           obtain ⟨ad295, e295, hx295_0⟩ := Kd.at_int (Kd.R_reads' HO279.out).2.2 0 p295 q295
                           obtain rfl : ad293 = ad295 := (by injection e295)
                           have qi295 : (0 < t276.length) = True := eq_true (by omega)
                           (try rw [show ((0 : Int)).toNat = 0 from rfl] at hx295_0)
                           (try rw [Addr.add_zero'] at hx295_0)
                           replace p295 := eq_true p295
                           replace q295 := eq_true q295
                           have p296 : 0 ≤ (0 : Int) := (by omega)
                           have q296 : 0 < (t288.length : Int) := of_decide_eq_true (by first | (with_reducible assumption) | assumption)
                           obtain ⟨ad296, e296, hx296_0⟩ := Kd.at_int (Kd.R_reads' HO291.out).2.2 0 p296 q296
                           cases e296
                           have qi296 : (0 < t288.length) = True := eq_true (by omega)
                           (try rw [show ((0 : Int)).toNat = 0 from rfl] at hx296_0)
                           (try rw [Addr.add_zero'] at hx296_0)
                           replace p296 := eq_true p296
                           replace q296 := eq_true q296
                           have p297 : 0 ≤ (1 : Int) := (by omega)
                           have q297 : 1 < (t288.length : Int) := of_decide_eq_true (by first | (with_reducible assumption) | assumption)
                           obtain ⟨ad297, e297, hx297_0⟩ := Kd.at_int (Kd.R_reads' HO291.out).2.2 1 p297 q297
                           obtain rfl : ad296 = ad297 := (by injection e297)
                           (try simp only [show (1 : Int).toNat = 1 from rfl, Nat.reduceMul, Nat.reduceEqDiff, Go.Addr.add, ↓reduceIte] at hx297_0)
                           have qi297 : (1 < t288.length) = True := eq_true (by omega)
                           (try rw [show ((1 : Int)).toNat = 1 from rfl] at hx297_0)
                           replace p297 := eq_true p297
                           replace q297 := eq_true q297
                           refine start_ (n := 29) (S := fun w' => w'.cell? ad292 = some (.int .i64 (rd t264 0)) ∧ w'.cell? ⟨ad293.block, ad293.off + 1, none⟩ = some (.int .i64 (rd t276 1)) ∧ w'.cell? ⟨ad292.block, ad292.off + 1, none⟩ = some (.int .i64 (rd t264 1)) ∧ w'.cell? ad293 = some (.int .i64 (rd t276 0)) ∧ w'.cell? ad296 = some (.int .i64 (rd t288 0)) ∧ w'.cell? ⟨ad296.block, ad296.off + 1, none⟩ = some (.int .i64 (rd t288 1))) (ds := []) #[false, false, false, false, false, false, false, false, false, false, false, false, false, false, false, false, false, false, false, false, false, false, false, false, false, false, false, false, false] (by kernel_rfl) rfl rfl ⟨hx292_0, hx293_0, hx294_0, hx295_0, hx296_0, hx297_0⟩ (fun hHeld => ?_); refine with_tabW thrumlaw15_SoftTurns.tab16 thrumlaw15_SoftTurns.bits16 (fun HT_ HW_ => ?_)
                           generalize w53.drew = w57 at HO_1 HO_8 HO267 HL268_0 HL272_0 HO275 HO279 HL280_0 HL284_0 HO287 HO291 HB hx292_0 hx293_0 hx294_0 hx295_0 hx296_0 hx297_0 hHeld ⊢
                           refine pure_ (i := 0) (N := some 106) (v := ?_) (a' := ?_) #[true, false, false, false, false, false, false, false, false, false, false, false, false, false, false, false, false, false, false, false, false, false, false, false, false, false, false, false, false] rfl rfl (any_of HT_.out (by kernel_rfl)) (fun _ _ _ h => h) (Or.inl ⟨by rfl, ?_⟩) ?_ ?_
                           rotate_left
                           ·
                            intro w'
                            go_simp
                            with_reducible rfl
                           rotate_left
                           ·
                            simp only [Act.put, List.setIfInBounds_toArray, List.set_cons_zero, List.set_cons_succ, i64_w, i32_w]
                            rfl
                           refine pure_ (i := 1) (N := some 107) (v := ?_) (a' := ?_) #[true, true, false, false, false, false, false, false, false, false, false, false, false, false, false, false, false, false, false, false, false, false, false, false, false, false, false, false, false] rfl rfl (any_of HT_.out (by kernel_rfl)) (fun _ _ _ h => h) (Or.inl ⟨by rfl, ?_⟩) ?_ ?_
                           rotate_left
                           ·
                            intro w'
                            go_simp
                            with_reducible rfl
                           rotate_left
                           ·
                            simp only [Act.put, List.setIfInBounds_toArray, List.set_cons_zero, List.set_cons_succ, i64_w, i32_w]
                            rfl
                           refine pure_ (i := 2) (N := some 108) (v := ?_) (a' := ?_) #[true, true, true, false, false, false, false, false, false, false, false, false, false, false, false, false, false, false, false, false, false, false, false, false, false, false, false, false, false] rfl rfl (any_of HT_.out (by kernel_rfl)) (fun _ _ _ h => h) (Or.inl ⟨by rfl, ?_⟩) ?_ ?_
                           rotate_left
                           ·
                            intro w'
                            go_simp
                            with_reducible rfl
                           rotate_left
                           ·
                            simp only [Act.put, List.setIfInBounds_toArray, List.set_cons_zero, List.set_cons_succ, i64_w, i32_w]
                            rfl
                           refine pure_ (i := 3) (N := some 109) (v := ?_) (a' := ?_) #[true, true, true, true, false, false, false, false, false, false, false, false, false, false, false, false, false, false, false, false, false, false, false, false, false, false, false, false, false] rfl rfl (any_of HT_.out (by kernel_rfl)) (fun _ _ _ h => h) (Or.inl ⟨by rfl, ?_⟩) ?_ ?_
                           rotate_left
                           ·
                            intro w'
                            go_simp
                            with_reducible rfl
                           rotate_left
                           ·
                            simp only [Act.put, List.setIfInBounds_toArray, List.set_cons_zero, List.set_cons_succ, i64_w, i32_w]
                            rfl
                           refine pure_ (i := 5) (N := some 111) (v := ?_) (a' := ?_) #[true, true, true, true, false, true, false, false, false, false, false, false, false, false, false, false, false, false, false, false, false, false, false, false, false, false, false, false, false] rfl rfl (any_of HT_.out (by kernel_rfl)) (fun _ _ _ h => h) (Or.inl ⟨by rfl, ?_⟩) ?_ ?_
                           rotate_left
                           ·
                            intro w'
                            go_simp
                            with_reducible rfl
                           rotate_left
                           ·
                            simp only [Act.put, List.setIfInBounds_toArray, List.set_cons_zero, List.set_cons_succ, i64_w, i32_w]
                            rfl
                           refine pure_ (i := 6) (N := some 112) (v := ?_) (a' := ?_) #[true, true, true, true, false, true, true, false, false, false, false, false, false, false, false, false, false, false, false, false, false, false, false, false, false, false, false, false, false] rfl rfl (any_of HT_.out (by kernel_rfl)) (fun _ _ _ h => h) (Or.inl ⟨by rfl, ?_⟩) ?_ ?_
                           rotate_left
                           ·
                            intro w'
                            go_simp
                            with_reducible rfl
                           rotate_left
                           ·
                            simp only [Act.put, List.setIfInBounds_toArray, List.set_cons_zero, List.set_cons_succ, i64_w, i32_w]
                            rfl
                           refine take_ (i := 4) (N := some 110) (v := ?_) (a' := ?_) #[true, true, true, true, true, true, true, false, false, false, false, false, false, false, false, false, false, false, false, false, false, false, false, false, false, false, false, false, false] rfl rfl (take_ofW HT_.out HW_.out (by kernel_rfl)) (fun _ _ _ h => h) (Or.inl ⟨by rfl, ?_⟩) hHeld ?_ ?_
                           rotate_left
                           ·
                            rintro w' ⟨s0, s1, s2, s3, s4, s5⟩
                            go_simp
                            with_reducible rfl
                           rotate_left
                           ·
                            simp only [Act.put, List.setIfInBounds_toArray, List.set_cons_zero, List.set_cons_succ, i64_w, i32_w]
                            rfl
                           refine take_ (i := 7) (N := some 113) (v := ?_) (a' := ?_) #[true, true, true, true, true, true, true, true, false, false, false, false, false, false, false, false, false, false, false, false, false, false, false, false, false, false, false, false, false] rfl rfl (take_ofW HT_.out HW_.out (by kernel_rfl)) (fun _ _ _ h => h) (Or.inl ⟨by rfl, ?_⟩) hHeld ?_ ?_
                           rotate_left
                           ·
                            rintro w' ⟨s0, s1, s2, s3, s4, s5⟩
                            go_simp
                            with_reducible rfl
                           rotate_left
                           ·
                            simp only [Act.put, List.setIfInBounds_toArray, List.set_cons_zero, List.set_cons_succ, i64_w, i32_w]
                            rfl
                           refine pure_ (i := 8) (N := some 114) (v := ?_) (a' := ?_) #[true, true, true, true, true, true, true, true, true, false, false, false, false, false, false, false, false, false, false, false, false, false, false, false, false, false, false, false, false] rfl rfl (any_of HT_.out (by kernel_rfl)) (fun _ _ _ h => h) (Or.inl ⟨by rfl, ?_⟩) ?_ ?_
                           rotate_left
                           ·
                            intro w'
                            go_simp
                            with_reducible rfl
                           rotate_left
                           ·
                            simp only [Act.put, List.setIfInBounds_toArray, List.set_cons_zero, List.set_cons_succ, i64_w, i32_w]
                            rfl
                           refine pure_ (i := 9) (N := some 115) (v := ?_) (a' := ?_) #[true, true, true, true, true, true, true, true, true, true, false, false, false, false, false, false, false, false, false, false, false, false, false, false, false, false, false, false, false] rfl rfl (any_of HT_.out (by kernel_rfl)) (fun _ _ _ h => h) (Or.inl ⟨by rfl, ?_⟩) ?_ ?_
                           rotate_left
                           ·
                            intro w'
                            go_simp
                            with_reducible rfl
                           rotate_left
                           ·
                            simp only [Act.put, List.setIfInBounds_toArray, List.set_cons_zero, List.set_cons_succ, i64_w, i32_w]
                            rfl
                           refine pure_ (i := 10) (N := some 116) (v := ?_) (a' := ?_) #[true, true, true, true, true, true, true, true, true, true, true, false, false, false, false, false, false, false, false, false, false, false, false, false, false, false, false, false, false] rfl rfl (any_of HT_.out (by kernel_rfl)) (fun _ _ _ h => h) (Or.inl ⟨by rfl, ?_⟩) ?_ ?_
                           rotate_left
                           ·
                            intro w'
                            go_simp
                            with_reducible rfl
                           rotate_left
                           ·
                            simp only [Act.put, List.setIfInBounds_toArray, List.set_cons_zero, List.set_cons_succ, i64_w, i32_w]
                            rfl
                           refine pure_ (i := 11) (N := some 117) (v := ?_) (a' := ?_) #[true, true, true, true, true, true, true, true, true, true, true, true, false, false, false, false, false, false, false, false, false, false, false, false, false, false, false, false, false] rfl rfl (any_of HT_.out (by kernel_rfl)) (fun _ _ _ h => h) (Or.inl ⟨by rfl, ?_⟩) ?_ ?_
                           rotate_left
                           ·
                            intro w'
                            go_simp
                            with_reducible rfl
                           rotate_left
                           ·
                            simp only [Act.put, List.setIfInBounds_toArray, List.set_cons_zero, List.set_cons_succ, i64_w, i32_w]
                            rfl
                           refine pure_ (i := 12) (N := some 118) (v := ?_) (a' := ?_) #[true, true, true, true, true, true, true, true, true, true, true, true, true, false, false, false, false, false, false, false, false, false, false, false, false, false, false, false, false] rfl rfl (any_of HT_.out (by kernel_rfl)) (fun _ _ _ h => h) (Or.inl ⟨by rfl, ?_⟩) ?_ ?_
                           rotate_left
                           ·
                            intro w'
                            go_simp
                            with_reducible rfl
                           rotate_left
                           ·
                            simp only [Act.put, List.setIfInBounds_toArray, List.set_cons_zero, List.set_cons_succ, i64_w, i32_w]
                            rfl
                           refine pure_ (i := 14) (N := some 120) (v := ?_) (a' := ?_) #[true, true, true, true, true, true, true, true, true, true, true, true, true, false, true, false, false, false, false, false, false, false, false, false, false, false, false, false, false] rfl rfl (any_of HT_.out (by kernel_rfl)) (fun _ _ _ h => h) (Or.inl ⟨by rfl, ?_⟩) ?_ ?_
                           rotate_left
                           ·
                            intro w'
                            go_simp
                            with_reducible rfl
                           rotate_left
                           ·
                            simp only [Act.put, List.setIfInBounds_toArray, List.set_cons_zero, List.set_cons_succ, i64_w, i32_w]
                            rfl
                           refine pure_ (i := 15) (N := some 121) (v := ?_) (a' := ?_) #[true, true, true, true, true, true, true, true, true, true, true, true, true, false, true, true, false, false, false, false, false, false, false, false, false, false, false, false, false] rfl rfl (any_of HT_.out (by kernel_rfl)) (fun _ _ _ h => h) (Or.inl ⟨by rfl, ?_⟩) ?_ ?_
                           rotate_left
                           ·
                            intro w'
                            go_simp
                            with_reducible rfl
                           rotate_left
                           ·
                            simp only [Act.put, List.setIfInBounds_toArray, List.set_cons_zero, List.set_cons_succ, i64_w, i32_w]
                            rfl
                           refine take_ (i := 13) (N := some 119) (v := ?_) (a' := ?_) #[true, true, true, true, true, true, true, true, true, true, true, true, true, true, true, true, false, false, false, false, false, false, false, false, false, false, false, false, false] rfl rfl (take_ofW HT_.out HW_.out (by kernel_rfl)) (fun _ _ _ h => h) (Or.inl ⟨by rfl, ?_⟩) hHeld ?_ ?_
                           rotate_left
                           ·
                            rintro w' ⟨s0, s1, s2, s3, s4, s5⟩
                            go_simp
                            with_reducible rfl
                           rotate_left
                           ·
                            simp only [Act.put, List.setIfInBounds_toArray, List.set_cons_zero, List.set_cons_succ, i64_w, i32_w]
                            rfl
                           refine take_ (i := 16) (N := some 122) (v := ?_) (a' := ?_) #[true, true, true, true, true, true, true, true, true, true, true, true, true, true, true, true, true, false, false, false, false, false, false, false, false, false, false, false, false] rfl rfl (take_ofW HT_.out HW_.out (by kernel_rfl)) (fun _ _ _ h => h) (Or.inl ⟨by rfl, ?_⟩) hHeld ?_ ?_
                           rotate_left
                           ·
                            rintro w' ⟨s0, s1, s2, s3, s4, s5⟩
                            go_simp
                            with_reducible rfl
                           rotate_left
                           ·
                            simp only [Act.put, List.setIfInBounds_toArray, List.set_cons_zero, List.set_cons_succ, i64_w, i32_w]
                            rfl
                           refine pure_ (i := 17) (N := some 123) (v := ?_) (a' := ?_) #[true, true, true, true, true, true, true, true, true, true, true, true, true, true, true, true, true, true, false, false, false, false, false, false, false, false, false, false, false] rfl rfl (any_of HT_.out (by kernel_rfl)) (fun _ _ _ h => h) (Or.inl ⟨by rfl, ?_⟩) ?_ ?_
                           rotate_left
                           ·
                            intro w'
                            go_simp
                            with_reducible rfl
                           rotate_left
                           ·
                            simp only [Act.put, List.setIfInBounds_toArray, List.set_cons_zero, List.set_cons_succ, i64_w, i32_w]
                            rfl
                           refine pure_ (i := 18) (N := some 124) (v := ?_) (a' := ?_) #[true, true, true, true, true, true, true, true, true, true, true, true, true, true, true, true, true, true, true, false, false, false, false, false, false, false, false, false, false] rfl rfl (any_of HT_.out (by kernel_rfl)) (fun _ _ _ h => h) (Or.inl ⟨by rfl, ?_⟩) ?_ ?_
                           rotate_left
                           ·
                            intro w'
                            go_simp
                            with_reducible rfl
                           rotate_left
                           ·
                            simp only [Act.put, List.setIfInBounds_toArray, List.set_cons_zero, List.set_cons_succ, i64_w, i32_w]
                            rfl
                           refine pure_ (i := 19) (N := some 125) (v := ?_) (a' := ?_) #[true, true, true, true, true, true, true, true, true, true, true, true, true, true, true, true, true, true, true, true, false, false, false, false, false, false, false, false, false] rfl rfl (any_of HT_.out (by kernel_rfl)) (fun _ _ _ h => h) (Or.inl ⟨by rfl, ?_⟩) ?_ ?_
                           rotate_left
                           ·
                            intro w'
                            go_simp
                            with_reducible rfl
                           rotate_left
                           ·
                            simp only [Act.put, List.setIfInBounds_toArray, List.set_cons_zero, List.set_cons_succ, i64_w, i32_w]
                            rfl
                           refine pure_ (i := 20) (N := some 126) (v := ?_) (a' := ?_) #[true, true, true, true, true, true, true, true, true, true, true, true, true, true, true, true, true, true, true, true, true, false, false, false, false, false, false, false, false] rfl rfl (any_of HT_.out (by kernel_rfl)) (fun _ _ _ h => h) (Or.inl ⟨by rfl, ?_⟩) ?_ ?_
                           rotate_left
                           ·
                            intro w'
                            go_simp
                            with_reducible rfl
                           rotate_left
                           ·
                            simp only [Act.put, List.setIfInBounds_toArray, List.set_cons_zero, List.set_cons_succ, i64_w, i32_w]
                            rfl
                           refine pure_ (i := 21) (N := some 127) (v := ?_) (a' := ?_) #[true, true, true, true, true, true, true, true, true, true, true, true, true, true, true, true, true, true, true, true, true, true, false, false, false, false, false, false, false] rfl rfl (any_of HT_.out (by kernel_rfl)) (fun _ _ _ h => h) (Or.inl ⟨by rfl, ?_⟩) ?_ ?_
                           rotate_left
                           ·
                            intro w'
                            go_simp
                            with_reducible rfl
                           rotate_left
                           ·
                            simp only [Act.put, List.setIfInBounds_toArray, List.set_cons_zero, List.set_cons_succ, i64_w, i32_w]
                            rfl
                           refine pure_ (i := 23) (N := some 129) (v := ?_) (a' := ?_) #[true, true, true, true, true, true, true, true, true, true, true, true, true, true, true, true, true, true, true, true, true, true, false, true, false, false, false, false, false] rfl rfl (any_of HT_.out (by kernel_rfl)) (fun _ _ _ h => h) (Or.inl ⟨by rfl, ?_⟩) ?_ ?_
                           rotate_left
                           ·
                            intro w'
                            go_simp
                            with_reducible rfl
                           rotate_left
                           ·
                            simp only [Act.put, List.setIfInBounds_toArray, List.set_cons_zero, List.set_cons_succ, i64_w, i32_w]
                            rfl
                           refine pure_ (i := 24) (N := some 130) (v := ?_) (a' := ?_) #[true, true, true, true, true, true, true, true, true, true, true, true, true, true, true, true, true, true, true, true, true, true, false, true, true, false, false, false, false] rfl rfl (any_of HT_.out (by kernel_rfl)) (fun _ _ _ h => h) (Or.inl ⟨by rfl, ?_⟩) ?_ ?_
                           rotate_left
                           ·
                            intro w'
                            go_simp
                            with_reducible rfl
                           rotate_left
                           ·
                            simp only [Act.put, List.setIfInBounds_toArray, List.set_cons_zero, List.set_cons_succ, i64_w, i32_w]
                            rfl
                           refine take_ (i := 22) (N := some 128) (v := ?_) (a' := ?_) #[true, true, true, true, true, true, true, true, true, true, true, true, true, true, true, true, true, true, true, true, true, true, true, true, true, false, false, false, false] rfl rfl (take_ofW HT_.out HW_.out (by kernel_rfl)) (fun _ _ _ h => h) (Or.inl ⟨by rfl, ?_⟩) hHeld ?_ ?_
                           rotate_left
                           ·
                            rintro w' ⟨s0, s1, s2, s3, s4, s5⟩
                            go_simp
                            with_reducible rfl
                           rotate_left
                           ·
                            simp only [Act.put, List.setIfInBounds_toArray, List.set_cons_zero, List.set_cons_succ, i64_w, i32_w]
                            rfl
                           refine take_ (i := 25) (N := some 131) (v := ?_) (a' := ?_) #[true, true, true, true, true, true, true, true, true, true, true, true, true, true, true, true, true, true, true, true, true, true, true, true, true, true, false, false, false] rfl rfl (take_ofW HT_.out HW_.out (by kernel_rfl)) (fun _ _ _ h => h) (Or.inl ⟨by rfl, ?_⟩) hHeld ?_ ?_
                           rotate_left
                           ·
                            rintro w' ⟨s0, s1, s2, s3, s4, s5⟩
                            go_simp
                            with_reducible rfl
                           rotate_left
                           ·
                            simp only [Act.put, List.setIfInBounds_toArray, List.set_cons_zero, List.set_cons_succ, i64_w, i32_w]
                            rfl
                           refine pure_ (i := 26) (N := some 132) (v := ?_) (a' := ?_) #[true, true, true, true, true, true, true, true, true, true, true, true, true, true, true, true, true, true, true, true, true, true, true, true, true, true, true, false, false] rfl rfl (any_of HT_.out (by kernel_rfl)) (fun _ _ _ h => h) (Or.inl ⟨by rfl, ?_⟩) ?_ ?_
                           rotate_left
                           ·
                            intro w'
                            go_simp
                            with_reducible rfl
                           rotate_left
                           ·
                            simp only [Act.put, List.setIfInBounds_toArray, List.set_cons_zero, List.set_cons_succ, i64_w, i32_w]
                            rfl
                           refine pure_ (i := 27) (N := some 133) (v := ?_) (a' := ?_) #[true, true, true, true, true, true, true, true, true, true, true, true, true, true, true, true, true, true, true, true, true, true, true, true, true, true, true, true, false] rfl rfl (any_of HT_.out (by kernel_rfl)) (fun _ _ _ h => h) (Or.inl ⟨by rfl, ?_⟩) ?_ ?_
                           rotate_left
                           ·
                            intro w'
                            go_simp
                            with_reducible rfl
                           rotate_left
                           ·
                            simp only [Act.put, List.setIfInBounds_toArray, List.set_cons_zero, List.set_cons_succ, i64_w, i32_w]
                            rfl
                           refine pure_ (i := 28) (N := some 6) (v := ?_) (a' := ?_) #[true, true, true, true, true, true, true, true, true, true, true, true, true, true, true, true, true, true, true, true, true, true, true, true, true, true, true, true, true] rfl rfl (any_of HT_.out (by kernel_rfl)) (fun _ _ _ h => h) (Or.inl ⟨by rfl, ?_⟩) ?_ ?_
                           rotate_left
                           ·
                            intro w'
                            go_simp
                            with_reducible rfl
                           rotate_left
                           ·
                            simp only [Act.put, List.setIfInBounds_toArray, List.set_cons_zero, List.set_cons_succ, i64_w, i32_w]
                            rfl
                           refine done_ (done_of HT_.out (by kernel_rfl)) ?_
                           try go_wp2
                           go_ret
                           exact ⟨by first | rfl | (simp [errW_none, errW_some] <;> rfl) | (simp [*, errW_none, errW_some] <;> rfl), by repeat (first | (with_reducible first | exact HB.out | apply zzA | apply zzN | apply zzD) | exact HB.out)⟩
                         ·
                          rw [if_neg c41] at H
                          exact absurd H (by simp)
                        ·
                         rw [if_neg c40] at H
                         exact absurd H (by simp)
                       ·
                        rw [if_neg c39] at H
                        exact absurd (Option.some.inj H) (by rw [HR_.out]; decide)
                      ·
                       rw [if_neg c38] at H
                       exact absurd H (by simp)
                     ·
                      rw [if_neg c37] at H
                      exact absurd H (by simp)
                    ·
                     rw [if_neg c36] at H
                     exact absurd (Option.some.inj H) (by rw [HR_.out]; decide)
                   ·
                    rw [if_neg c35] at H
                    exact absurd H (by simp)
                  ·
                   rw [if_neg c34] at H
                   exact absurd H (by simp)
                 ·
                  rw [if_neg c33] at H
                  exact absurd (Option.some.inj H) (by rw [HR_.out]; decide)
                ·
                 rw [if_neg c32] at H
                 exact absurd (Option.some.inj H) (by rw [HR_.out]; decide)
               ·
                rw [if_neg c31] at H
                exact absurd (Option.some.inj H) (by rw [HR_.out]; decide)
              ·
               rw [if_neg c30] at H
               exact absurd (Option.some.inj H) (by rw [HR_.out]; decide)
             ·
              rw [if_neg c29] at H
              exact absurd (Option.some.inj H) (by rw [HR_.out]; decide)
            ·
             rw [if_neg c28] at H
             have c28b0 : (t265 == 0) = false := beq_eq_false_iff_ne.mpr c28
             have c28b1 : (t265 != 0) = true := bne_iff_ne.mpr c28
             first | rw [if_pos rfl] at H | rw [if_pos trivial] at H
             focus
              obtain rfl := Option.some.inj H
              try go_wp2_with (first | ((with_reducible refine gate_callee (f := 8) rfl ?_); refine goesL_ (some 47) rfl rfl Try.func8 (by kernel_rfl) rfl #[.int .i64 2, .slice A0 l0.length c0, .slice A1 l1.length c1, .int .i64 a2] rfl (by (try simp only [List.map_toArray, List.map_cons, List.map_nil]); first | done | rfl | (simp only [List.length_drop, List.length_take]; rfl)) ?_; (with_reducible refine (soft_Tell.calls 2 _ _ l0 _ _ l1 a2 t264 t265 _ ?side1 ?side2 ?side3 ?side4 A19.out).mono ?_); (case side1 => repeat (first | exact (Kd.C_below HR0.out HB.out) | (with_reducible refine ccA ?_ _) | (with_reducible refine ccN ?_ _) | (with_reducible refine ccD ?_))); (case side2 => exact HC0.out); (case side3 => repeat (first | exact (Kd.V_reads' HO_1.out).2.2 | (with_reducible refine ccA ?_ _) | (with_reducible refine ccN ?_ _) | (with_reducible refine ccD ?_))); (case side4 => exact (Kd.V_reads' HO_1.out).2.1); rintro e w156 ⟨v266, rfl, ho0, hb⟩; refine ⟨_, rfl, ?_⟩; have n0_ := Aside0.mk (Kd.V_elder' (by (with_reducible repeat (first | apply Kd.V_alloc | apply Kd.V_drewN | apply Kd.V_drew)); exact HO_1.out) (Kd.R_base ho0) hb); have n1_ := Aside0.mk (Kd.N_elder' (by (with_reducible repeat (first | apply Kd.N_alloc | apply Kd.N_drewN | apply Kd.N_drew)); exact HO_8.out) (Kd.R_base ho0) hb); have n2_ := Aside0.mk (Kd.R_lower (Kd.R_newM (M := fun k_ => (w.heap.size ≤ k_)) ho0 (zzS (by repeat (first | (with_reducible first | exact HB.out | apply zzA | apply zzN | apply zzD) | exact HB.out))) (fun k_ h_ => h_)) (zzS (by repeat (first | (with_reducible first | exact HB.out | apply zzA | apply zzN | apply zzD) | exact HB.out)))); have n3_ := Aside0.mk (zzT (by repeat (first | (with_reducible first | exact HB.out | apply zzA | apply zzN | apply zzD) | exact HB.out)) hb); clear HO_1; clear HO_8; clear HB; have HO_1 := n0_; have HO_8 := n1_; have HO267 := n2_; have HB := n3_; clear n0_ n1_ n2_ n3_; (try clear hb); (try clear hb2); (try clear hk); (try clear hi); (try clear ho0)))
              have n0_ := Aside0.mk (Kd.V_drew HO_1.out)
              have n1_ := Aside0.mk (Kd.N_drew HO_8.out)
              have n2_ := Aside0.mk (rrD HO267.out)
              have n3_ := Aside0.mk (zzD HB.out)
              clear HO_1
              clear HO_8
              clear HO267
              clear HB
              have HO_1 := n0_
              have HO_8 := n1_
              have HO267 := n2_
              have HB := n3_
              clear n0_ n1_ n2_ n3_
              obtain ⟨Ao158, co158, eo158⟩ := Kd.N_slice HO_8.out
              (first | subst eo158 | (injection eo158 with f1_ f2_ f3_; have f4_ := f1_.symm; have f5_ := f3_.symm; clear f1_ f2_ f3_; subst f4_; subst f5_))
              have p268 : 0 ≤ (1 : Int) := (by omega)
              have q268 : 1 < (t260.length : Int) := of_decide_eq_true (by first | (with_reducible assumption) | assumption)
              obtain ⟨ad268, A268_0, c268_0, e268, hx268_0, hl268_0, hi268_0⟩ := at_L1 (Kd.N_reads' HO_8.out).2.2 1 p268 q268
              cases e268
              obtain ⟨ce268, hce268, hMe268, hcc268⟩ := Kd.N_get HO_8.out [] 1 p268 (by first | exact q268 | exact of_decide_eq_true (by first | (with_reducible assumption) | assumption) | (have e_ := (Kd.N_reads' HO_8.out).1; omega))
              obtain ⟨ua268_0, uc268_0, rfl, ul268_0, ge268_0⟩ := Kd.FK_slice_open hMe268
              have hv268_0 := hcc268 0 _ rfl
              rw [Nat.add_zero, show ((Kd.slice 2 (Kd.int .i64))).sz = 1 from rfl, Nat.mul_one] at hv268_0
              replace hv268_0 := Option.some.inj (hv268_0.symm.trans hx268_0)
              injection hv268_0 with hva_ hvn_ hvc_
              rw [hva_] at ge268_0
              rw [hvc_] at ul268_0
              have HL268_0 := Aside0.mk (show Kd.V (Kd.int .i64) 2 _ w.heap.size _ _ (rd_L1 t260 1) from Kd.V_mk ul268_0 ge268_0)
              clear hva_ hvn_ hvc_ ge268_0 ul268_0
              clear hcc268 hce268
              (try simp only [show (1 : Int).toNat = 1 from rfl, Nat.reduceMul, Nat.reduceEqDiff, Go.Addr.add, ↓reduceIte] at hx268_0)
              have qi268 : (1 < t260.length) = True := eq_true (by omega)
              (try rw [show ((1 : Int)).toNat = 1 from rfl] at hx268_0)
              have HR268_0 := Aside0.mk hi268_0
              have HC268_0 := Aside0.mk hl268_0
              clear hi268_0 hl268_0
              replace p268 := eq_true p268
              replace q268 := eq_true q268
              have p272 : 0 ≤ (0 : Int) := (by omega)
              have q272 : 0 < (t260.length : Int) := of_decide_eq_true (by first | (with_reducible assumption) | assumption)
              obtain ⟨ad272, A272_0, c272_0, e272, hx272_0, hl272_0, hi272_0⟩ := at_L1 (Kd.N_reads' HO_8.out).2.2 0 p272 q272
              obtain rfl : ad268 = ad272 := (by injection e272)
              obtain ⟨ce272, hce272, hMe272, hcc272⟩ := Kd.N_get HO_8.out [] 0 p272 (by first | exact q272 | exact of_decide_eq_true (by first | (with_reducible assumption) | assumption) | (have e_ := (Kd.N_reads' HO_8.out).1; omega))
              obtain ⟨ua272_0, uc272_0, rfl, ul272_0, ge272_0⟩ := Kd.FK_slice_open hMe272
              have hv272_0 := hcc272 0 _ rfl
              rw [Nat.add_zero, show ((Kd.slice 2 (Kd.int .i64))).sz = 1 from rfl, Nat.mul_one] at hv272_0
              replace hv272_0 := Option.some.inj (hv272_0.symm.trans hx272_0)
              injection hv272_0 with hva_ hvn_ hvc_
              rw [hva_] at ge272_0
              rw [hvc_] at ul272_0
              have HL272_0 := Aside0.mk (show Kd.V (Kd.int .i64) 2 _ w.heap.size _ _ (rd_L1 t260 0) from Kd.V_mk ul272_0 ge272_0)
              clear hva_ hvn_ hvc_ ge272_0 ul272_0
              clear hcc272 hce272
              have qi272 : (0 < t260.length) = True := eq_true (by omega)
              (try rw [show ((0 : Int)).toNat = 0 from rfl] at hx272_0)
              (try rw [Addr.add_zero'] at hx272_0)
              have HR272_0 := Aside0.mk hi272_0
              have HC272_0 := Aside0.mk hl272_0
              clear hi272_0 hl272_0
              replace p272 := eq_true p272
              replace q272 := eq_true q272
              refine start_ (n := 16) (S := fun w' => w'.cell? ⟨ad268.block, ad268.off + 1, none⟩ = some (.slice A268_0 (rd_L1 t260 1).length c268_0) ∧ w'.cell? ad268 = some (.slice A272_0 (rd_L1 t260 0).length c272_0)) (ds := [7, 10]) #[false, false, false, false, false, false, false, false, false, false, false, false, false, false, false, false] (by kernel_rfl) rfl rfl ⟨hx268_0, hx272_0⟩ (fun hHeld => ?_); refine with_tabW thrumlaw15_SoftTurns.tab10 thrumlaw15_SoftTurns.bits10 (fun HT_ HW_ => ?_)
              generalize w156.drew = w157 at HO_1 HO_8 HO267 HB HL268_0 HL272_0 HR268_0 HR272_0 hx268_0 hx272_0 hHeld ⊢
              refine pure_ (i := 0) (N := some 51) (v := ?_) (a' := ?_) #[true, false, false, false, false, false, false, false, false, false, false, false, false, false, false, false] rfl rfl (any_of HT_.out (by kernel_rfl)) (fun _ _ _ h => h) (Or.inl ⟨by rfl, ?_⟩) ?_ ?_
              rotate_left
              ·
               intro w'
               go_simp
               with_reducible rfl
              rotate_left
              ·
               simp only [Act.put, List.setIfInBounds_toArray, List.set_cons_zero, List.set_cons_succ, i64_w, i32_w]
               rfl
              refine pure_ (i := 1) (N := some 52) (v := ?_) (a' := ?_) #[true, true, false, false, false, false, false, false, false, false, false, false, false, false, false, false] rfl rfl (any_of HT_.out (by kernel_rfl)) (fun _ _ _ h => h) (Or.inl ⟨by rfl, ?_⟩) ?_ ?_
              rotate_left
              ·
               intro w'
               go_simp
               with_reducible rfl
              rotate_left
              ·
               simp only [Act.put, List.setIfInBounds_toArray, List.set_cons_zero, List.set_cons_succ, i64_w, i32_w]
               rfl
              refine pure_ (i := 4) (N := some 55) (v := ?_) (a' := ?_) #[true, true, false, false, true, false, false, false, false, false, false, false, false, false, false, false] rfl rfl (any_of HT_.out (by kernel_rfl)) (fun _ _ _ h => h) (Or.inl ⟨by rfl, ?_⟩) ?_ ?_
              rotate_left
              ·
               intro w'
               go_simp
               with_reducible rfl
              rotate_left
              ·
               simp only [Act.put, List.setIfInBounds_toArray, List.set_cons_zero, List.set_cons_succ, i64_w, i32_w]
               rfl
              refine pure_ (i := 5) (N := some 56) (v := ?_) (a' := ?_) #[true, true, false, false, true, true, false, false, false, false, false, false, false, false, false, false] rfl rfl (any_of HT_.out (by kernel_rfl)) (fun _ _ _ h => h) (Or.inl ⟨by rfl, ?_⟩) ?_ ?_
              rotate_left
              ·
               intro w'
               go_simp
               with_reducible rfl
              rotate_left
              ·
               simp only [Act.put, List.setIfInBounds_toArray, List.set_cons_zero, List.set_cons_succ, i64_w, i32_w]
               rfl
              refine pure_ (i := 8) (N := some 59) (v := ?_) (a' := ?_) #[true, true, false, false, true, true, false, false, true, false, false, false, false, false, false, false] rfl rfl (any_of HT_.out (by kernel_rfl)) (fun _ _ _ h => h) (Or.inl ⟨by rfl, ?_⟩) ?_ ?_
              rotate_left
              ·
               intro w'
               go_simp
               with_reducible rfl
              rotate_left
              ·
               simp only [Act.put, List.setIfInBounds_toArray, List.set_cons_zero, List.set_cons_succ, i64_w, i32_w]
               rfl
              refine pure_ (i := 9) (N := some 60) (v := ?_) (a' := ?_) #[true, true, false, false, true, true, false, false, true, true, false, false, false, false, false, false] rfl rfl (any_of HT_.out (by kernel_rfl)) (fun _ _ _ h => h) (Or.inl ⟨by rfl, ?_⟩) ?_ ?_
              rotate_left
              ·
               intro w'
               go_simp
               with_reducible rfl
              rotate_left
              ·
               simp only [Act.put, List.setIfInBounds_toArray, List.set_cons_zero, List.set_cons_succ, i64_w, i32_w]
               rfl
              refine take_ (i := 2) (N := some 53) (v := ?_) (a' := ?_) #[true, true, true, false, true, true, false, false, true, true, false, false, false, false, false, false] rfl rfl (take_ofW HT_.out HW_.out (by kernel_rfl)) (fun _ _ _ h => h) (Or.inl ⟨by rfl, ?_⟩) hHeld ?_ ?_
              rotate_left
              ·
               rintro w' ⟨s0, s1⟩
               go_simp
               with_reducible rfl
              rotate_left
              ·
               simp only [Act.put, List.setIfInBounds_toArray, List.set_cons_zero, List.set_cons_succ, i64_w, i32_w]
               rfl
              refine take_ (i := 6) (N := some 57) (v := ?_) (a' := ?_) #[true, true, true, false, true, true, true, false, true, true, false, false, false, false, false, false] rfl rfl (take_ofW HT_.out HW_.out (by kernel_rfl)) (fun _ _ _ h => h) (Or.inl ⟨by rfl, ?_⟩) hHeld ?_ ?_
              rotate_left
              ·
               rintro w' ⟨s0, s1⟩
               go_simp
               with_reducible rfl
              rotate_left
              ·
               simp only [Act.put, List.setIfInBounds_toArray, List.set_cons_zero, List.set_cons_succ, i64_w, i32_w]
               rfl
              refine one_ (i := 3) (N := some 54) #[true, true, true, true, true, true, true, false, true, true, false, false, false, false, false, false] rfl rfl (one_of HT_.out (by kernel_rfl)) (by decide) (fun K hK => ?_)
              refine Kd.R_append_rows_step (Kd.int .i64) (w0 := w) w.heap.size (by rfl) (.const (.slice none 0 0)) (.tmp 53) 22 2 (.int .i64 0) 8 rfl Try.underlying22 info2 rfl (by decide) (by omega) (.slice none 0 0) ([] : List Int) (rd_L1 t260 1) _ _ _ (fun k_ => (w.heap.size ≤ k_) ∧ some k_ ≠ (v266 : Value).ownBlock) (fun _ => False) rfl rfl ?aO ?aR (fun _ _ h => h) (fun _ h => h.elim) ?aF ?aB ?aS ?aL ?_
              (case aR => repeat (first | exact (by repeat (first | (with_reducible exact HR268_0.out) | (with_reducible refine ccA ?_ _) | (with_reducible refine ccN ?_ _) | (with_reducible refine ccD ?_) | exact HR268_0.out)) | (with_reducible refine ccA ?_ _) | (with_reducible refine ccN ?_ _) | (with_reducible refine ccD ?_)))
              (case aB => exact (by repeat (first | (with_reducible first | exact HB.out | apply zzA | apply zzN | apply zzD) | exact HB.out)))
              (case aF => exact (fun k_ hk => ⟨(Nat.le_trans (zzS (by repeat (first | (with_reducible first | exact HB.out | apply zzA | apply zzN | apply zzD) | exact HB.out))) hk), Kd.fresh' (Kd.R_lt (by (with_reducible repeat (first | apply rrA | apply rrN | apply rrD)); exact HO267.out)) k_ hk⟩))
              (case aO => exact ((Kd.R_nil _ _ _ _ (fun k_ => (w.heap.size ≤ k_) ∧ some k_ ≠ (v266 : Value).ownBlock))))
              (case aS => exact (zzS (by repeat (first | (with_reducible first | exact HB.out | apply zzA | apply zzN | apply zzD) | exact HB.out))))
              (case aL => have := LMc21.out; omega)
              intro v270 w159 ho hb hg hat
              have HS0_ := cell_grown hg (hHeld.1) (by intro h_; first | exact nomatch h_ | simp [Value.ownBlock] at h_)
              have HS1_ := cell_grown hg (hHeld.2) (by intro h_; first | exact nomatch h_ | simp [Value.ownBlock] at h_)
              rw [← Ny269.out] at ho
              have n0_ := Aside0.mk (Kd.V_afterv (Kd.V_apart_nil (by (with_reducible repeat (first | apply Kd.V_alloc | apply Kd.V_drewN | apply Kd.V_drew)); exact HO_1.out)) hg hat)
              have n1_ := Aside0.mk (Kd.N_afterv (Kd.N_apart_nil (by (with_reducible repeat (first | apply Kd.N_alloc | apply Kd.N_drewN | apply Kd.N_drew)); exact HO_8.out)) hg hat)
              have n2_ := Aside0.mk (Kd.R_after (Kd.R_apart_nil (by (with_reducible repeat (first | apply rrA | apply rrN | apply rrD)); exact HO267.out)) hg hat)
              have n3_ := Aside0.mk (Kd.V_afterv (Kd.V_apart_nil (by (with_reducible repeat (first | apply Kd.V_alloc | apply Kd.V_drewN | apply Kd.V_drew)); exact HL268_0.out)) hg hat)
              have n4_ := Aside0.mk (Kd.V_afterv (Kd.V_apart_nil (by (with_reducible repeat (first | apply Kd.V_alloc | apply Kd.V_drewN | apply Kd.V_drew)); exact HL272_0.out)) hg hat)
              have n5_ := Aside0.mk (hb)
              have n6_ := Aside0.mk (ho)
              clear HO_1
              clear HO_8
              clear HO267
              clear HL268_0
              clear HL272_0
              clear HB
              have HO_1 := n0_
              have HO_8 := n1_
              have HO267 := n2_
              have HL268_0 := n3_
              have HL272_0 := n4_
              have HB := n5_
              have HO271 := n6_
              clear n0_ n1_ n2_ n3_ n4_ n5_ n6_
              clear ho hb hg hat
              refine hK.out _ _ ⟨HS0_, HS1_⟩ (fun hHeld => ?_)
              clear hK K
              refine norm_ (a' := ?_) ?_ ?_
              rotate_left
              ·
               show Act.put _ (some 54) _ = _
               simp only [Act.put, List.setIfInBounds_toArray, List.set_cons_zero, List.set_cons_succ, i64_w, i32_w]
               rfl
              refine last_ (i := 7) (N := some 58) #[true, true, true, true, true, true, true, true, true, true, false, false, false, false, false, false] rfl rfl (one_of HT_.out (by kernel_rfl)) (by decide) (fun K hK => ?_)
              refine Kd.R_append_rows_step (Kd.int .i64) (w0 := w) w.heap.size (by rfl) (.tmp 54) (.tmp 57) 22 2 (.int .i64 0) 8 rfl Try.underlying22 info2 rfl (by decide) (by omega) v270 y269 (rd_L1 t260 0) _ _ _ (fun k_ => (w.heap.size ≤ k_) ∧ some k_ ≠ (v266 : Value).ownBlock) (fun _ => False) rfl rfl ?aO ?aR (fun _ _ h => h) (fun _ h => h.elim) ?aF ?aB ?aS ?aL ?_
              (case aR => repeat (first | exact ((Kd.V_reads' (by (with_reducible repeat (first | apply Kd.V_alloc | apply Kd.V_drewN | apply Kd.V_drew)); exact HL272_0.out)).2.2) | (with_reducible refine ccA ?_ _) | (with_reducible refine ccN ?_ _) | (with_reducible refine ccD ?_)))
              (case aB => exact (by repeat (first | (with_reducible first | exact HB.out | apply zzA | apply zzN | apply zzD) | exact HB.out)))
              (case aF => exact (fun k_ hk => ⟨(Nat.le_trans (zzS (by repeat (first | (with_reducible first | exact HB.out | apply zzA | apply zzN | apply zzD) | exact HB.out))) hk), Kd.fresh' (Kd.R_lt (by (with_reducible repeat (first | apply rrA | apply rrN | apply rrD)); exact HO267.out)) k_ hk⟩))
              (case aO => exact (by (with_reducible repeat (first | apply rrA | apply rrN | apply rrD)); exact HO271.out))
              (case aS => exact (zzS (by repeat (first | (with_reducible first | exact HB.out | apply zzA | apply zzN | apply zzD) | exact HB.out))))
              (case aL => have := LMc23.out; omega)
              intro v274 w160 ho hb hg hat
              rw [← Ny273.out] at ho
              have n0_ := Aside0.mk (Kd.V_afterv (ok := (fun k_ => (P1_ k_ ∨ w.heap.size ≤ k_) ∧ some k_ ≠ (.slice (some ad268) t260.length co158 : Value).ownBlock ∧ some k_ ≠ (v266 : Value).ownBlock)) (by (with_reducible repeat (first | apply Kd.V_alloc | apply Kd.V_drewN | apply Kd.V_drew)); exact Kd.V_mono HO_1.out (fun _ hk => ⟨⟨hk.1.1.1, ⟨hk.1.1.2, hk.1.2⟩⟩, hk.2⟩)) hg hat)
              have n1_ := Aside0.mk (Kd.N_afterv (ok := (fun k_ => (P1_ k_ ∨ w.heap.size ≤ k_) ∧ some k_ ≠ (v266 : Value).ownBlock)) (by (with_reducible repeat (first | apply Kd.N_alloc | apply Kd.N_drewN | apply Kd.N_drew)); exact HO_8.out) hg hat)
              have n2_ := Aside0.mk (Kd.R_after (ok := (fun k_ => (w.heap.size ≤ k_))) (by (with_reducible repeat (first | apply rrA | apply rrN | apply rrD)); exact Kd.R_mono HO267.out (fun _ hk => ⟨hk.1.1, hk.2⟩)) hg hat)
              have n3_ := Aside0.mk (Kd.V_afterv (ok := (fun k_ => (P1_ k_ ∨ w.heap.size ≤ k_) ∧ some k_ ≠ (.slice (some ad268) t260.length co158 : Value).ownBlock ∧ some k_ ≠ (v266 : Value).ownBlock)) (by (with_reducible repeat (first | apply Kd.V_alloc | apply Kd.V_drewN | apply Kd.V_drew)); exact Kd.V_mono HL268_0.out (fun _ hk => ⟨⟨hk.1.1.1, ⟨hk.1.2, hk.1.1.2⟩⟩, hk.2⟩)) hg hat)
              have n4_ := Aside0.mk (Kd.V_afterv (ok := (fun k_ => (P1_ k_ ∨ w.heap.size ≤ k_) ∧ some k_ ≠ (.slice (some ad268) t260.length co158 : Value).ownBlock ∧ some k_ ≠ (v266 : Value).ownBlock)) (by (with_reducible repeat (first | apply Kd.V_alloc | apply Kd.V_drewN | apply Kd.V_drew)); exact Kd.V_mono HL272_0.out (fun _ hk => ⟨⟨hk.1.1.1, ⟨hk.1.2, hk.1.1.2⟩⟩, hk.2⟩)) hg hat)
              have n5_ := Aside0.mk (hb)
              have n6_ := Aside0.mk (ho)
              clear HO_1
              clear HO_8
              clear HO267
              clear HL268_0
              clear HL272_0
              clear HB
              clear HO271
              have HO_1 := n0_
              have HO_8 := n1_
              have HO267 := n2_
              have HL268_0 := n3_
              have HL272_0 := n4_
              have HB := n5_
              have HO275 := n6_
              clear n0_ n1_ n2_ n3_ n4_ n5_ n6_
              clear ho hb hg hat
              obtain ⟨Ao161, co161, eo161⟩ := Kd.R_slice HO275.out
              (first | subst eo161 | (injection eo161 with f1_ f2_ f3_; have f4_ := f1_.symm; have f5_ := f3_.symm; clear f1_ f2_ f3_; subst f4_; subst f5_))
              refine hK.out _ _ ?_
              clear hK K
              refine norm_ (a' := ?_) ?_ ?_
              rotate_left
              ·
               show Act.put _ (some 58) _ = _
               simp only [Act.put, List.setIfInBounds_toArray, List.set_cons_zero, List.set_cons_succ, i64_w, i32_w]
               rfl
              refine last_ (i := 10) (N := some 61) #[true, true, true, true, true, true, true, true, true, true, true, false, false, false, false, false] rfl rfl (one_of HT_.out (by kernel_rfl)) (by decide) (fun K hK => ?_)
              refine goes_ Try.func8 (by kernel_rfl) rfl #[.int .i64 2, .slice Ao161 y273.length co161, .slice A1 l1.length c1, .int .i64 a2] (by rfl) rfl rfl (by (try simp only [List.map_toArray, List.map_cons, List.map_nil]); first | done | rfl | (simp only [List.length_drop, List.length_take]; rfl)) ?_
              with_reducible refine (soft_Tell.calls 2 _ _ y273 _ _ l1 a2 t276 t277 _ ?side1 ?side2 ?side3 ?side4 A24.out).mono ?_
              (case side1 => repeat (first | exact (Kd.R_reads' HO275.out).2.2 | (with_reducible refine ccA ?_ _) | (with_reducible refine ccN ?_ _) | (with_reducible refine ccD ?_)))
              (case side2 => exact (Kd.R_reads' HO275.out).2.1)
              (case side3 => repeat (first | exact (Kd.V_reads' HO_1.out).2.2 | (with_reducible refine ccA ?_ _) | (with_reducible refine ccN ?_ _) | (with_reducible refine ccD ?_)))
              (case side4 => exact (Kd.V_reads' HO_1.out).2.1)
              rintro e w162 ⟨v278, rfl, ho0, hb⟩
              refine ⟨_, rfl, ?_⟩
              have n0_ := Aside0.mk (Kd.V_elder' (by (with_reducible repeat (first | apply Kd.V_alloc | apply Kd.V_drewN | apply Kd.V_drew)); exact HO_1.out) (Kd.R_base ho0) hb)
              have n1_ := Aside0.mk (Kd.N_elder' (by (with_reducible repeat (first | apply Kd.N_alloc | apply Kd.N_drewN | apply Kd.N_drew)); exact HO_8.out) (Kd.R_base ho0) hb)
              have n2_ := Aside0.mk (Kd.R_elder' (by (with_reducible repeat (first | apply rrA | apply rrN | apply rrD)); exact HO267.out) (Kd.R_base ho0) hb)
              have n3_ := Aside0.mk (Kd.V_elder' (by (with_reducible repeat (first | apply Kd.V_alloc | apply Kd.V_drewN | apply Kd.V_drew)); exact HL268_0.out) (Kd.R_base ho0) hb)
              have n4_ := Aside0.mk (Kd.V_elder' (by (with_reducible repeat (first | apply Kd.V_alloc | apply Kd.V_drewN | apply Kd.V_drew)); exact HL272_0.out) (Kd.R_base ho0) hb)
              have n5_ := Aside0.mk (Kd.R_elder' (by (with_reducible repeat (first | apply rrA | apply rrN | apply rrD)); exact HO275.out) (Kd.R_base ho0) hb)
              have n6_ := Aside0.mk (Kd.R_lower (Kd.R_new' (Kd.R_new' (Kd.R_newM (M := fun k_ => (w.heap.size ≤ k_)) ho0 (zzS (by repeat (first | (with_reducible first | exact HB.out | apply zzA | apply zzN | apply zzD) | exact HB.out))) (fun k_ h_ => h_)) (Kd.R_lt (by (with_reducible repeat (first | apply rrA | apply rrN | apply rrD)); exact HO267.out))) (Kd.R_lt (by (with_reducible repeat (first | apply rrA | apply rrN | apply rrD)); exact HO275.out))) (zzS (by repeat (first | (with_reducible first | exact HB.out | apply zzA | apply zzN | apply zzD) | exact HB.out))))
              have n7_ := Aside0.mk (zzT (by repeat (first | (with_reducible first | exact HB.out | apply zzA | apply zzN | apply zzD) | exact HB.out)) hb)
              clear HO_1
              clear HO_8
              clear HO267
              clear HL268_0
              clear HL272_0
              clear HO275
              clear HB
              have HO_1 := n0_
              have HO_8 := n1_
              have HO267 := n2_
              have HL268_0 := n3_
              have HL272_0 := n4_
              have HO275 := n5_
              have HO279 := n6_
              have HB := n7_
              clear n0_ n1_ n2_ n3_ n4_ n5_ n6_ n7_
              (try clear hb)
              (try clear hb2)
              (try clear hk)
              (try clear hi)
              (try clear ho0)
              refine hK.out _ _ ?_
              clear hK K
              refine norm_ (a' := ?_) ?_ ?_
              rotate_left
              ·
               show Act.put _ (some 61) _ = _
               simp only [Act.put, List.setIfInBounds_toArray, List.set_cons_zero, List.set_cons_succ, i64_w, i32_w]
               rfl
              refine pure_ (i := 11) (N := some 50) (v := ?_) (a' := ?_) #[true, true, true, true, true, true, true, true, true, true, true, true, false, false, false, false] rfl rfl (any_of HT_.out (by kernel_rfl)) (fun _ _ _ h => h) (Or.inl ⟨by rfl, ?_⟩) ?_ ?_
              rotate_left
              ·
               intro w'
               go_simp
               with_reducible rfl
              rotate_left
              ·
               simp only [Act.put, List.setIfInBounds_toArray, List.set_cons_zero, List.set_cons_succ, i64_w, i32_w]
               rfl
              refine pure_ (i := 12) (N := some 62) (v := ?_) (a' := ?_) #[true, true, true, true, true, true, true, true, true, true, true, true, true, false, false, false] rfl rfl (any_of HT_.out (by kernel_rfl)) (fun _ _ _ h => h) (Or.inl ⟨by rfl, ?_⟩) ?_ ?_
              rotate_left
              ·
               intro w'
               go_simp
               with_reducible rfl
              rotate_left
              ·
               simp only [Act.put, List.setIfInBounds_toArray, List.set_cons_zero, List.set_cons_succ, i64_w, i32_w]
               rfl
              refine pure_ (i := 13) (N := some 63) (v := ?_) (a' := ?_) #[true, true, true, true, true, true, true, true, true, true, true, true, true, true, false, false] rfl rfl (any_of HT_.out (by kernel_rfl)) (fun _ _ _ h => h) (Or.inl ⟨by rfl, ?_⟩) ?_ ?_
              rotate_left
              ·
               intro w'
               go_simp
               with_reducible rfl
              rotate_left
              ·
               simp only [Act.put, List.setIfInBounds_toArray, List.set_cons_zero, List.set_cons_succ, i64_w, i32_w]
               rfl
              refine pure_ (i := 14) (N := some 12) (v := ?_) (a' := ?_) #[true, true, true, true, true, true, true, true, true, true, true, true, true, true, true, false] rfl rfl (any_of HT_.out (by kernel_rfl)) (fun _ _ _ h => h) (Or.inl ⟨by rfl, ?_⟩) ?_ ?_
              rotate_left
              ·
               intro w'
               go_simp
               with_reducible rfl
              rotate_left
              ·
               simp only [Act.put, List.setIfInBounds_toArray, List.set_cons_zero, List.set_cons_succ, i64_w, i32_w]
               rfl
              refine pure_ (i := 15) (N := some 13) (v := ?_) (a' := ?_) #[true, true, true, true, true, true, true, true, true, true, true, true, true, true, true, true] rfl rfl (any_of HT_.out (by kernel_rfl)) (fun _ _ _ h => h) (Or.inl ⟨by rfl, ?_⟩) ?_ ?_
              rotate_left
              ·
               intro w'
               go_simp
               with_reducible rfl
              rotate_left
              ·
               simp only [Act.put, List.setIfInBounds_toArray, List.set_cons_zero, List.set_cons_succ, i64_w, i32_w]
               rfl
              refine done_ (done_of HT_.out (by kernel_rfl)) ?_
              try go_wp2
              have n0_ := Aside0.mk (Kd.V_drew HO_1.out)
              have n1_ := Aside0.mk (Kd.N_drew HO_8.out)
              have n2_ := Aside0.mk (rrD HO267.out)
              have n3_ := Aside0.mk (Kd.V_drew HL268_0.out)
              have n4_ := Aside0.mk (Kd.V_drew HL272_0.out)
              have n5_ := Aside0.mk (rrD HO275.out)
              have n6_ := Aside0.mk (rrD HO279.out)
              have n7_ := Aside0.mk (zzD HB.out)
              clear HO_1
              clear HO_8
              clear HO267
              clear HL268_0
              clear HL272_0
              clear HO275
              clear HO279
              clear HB
              have HO_1 := n0_
              have HO_8 := n1_
              have HO267 := n2_
              have HL268_0 := n3_
              have HL272_0 := n4_
              have HO275 := n5_
              have HO279 := n6_
              have HB := n7_
              clear n0_ n1_ n2_ n3_ n4_ n5_ n6_ n7_
              have p280 : 0 ≤ (0 : Int) := (by omega)
              have q280 : 0 < (t260.length : Int) := of_decide_eq_true (by first | (with_reducible assumption) | assumption)
              obtain ⟨ad280, A280_0, c280_0, e280, hx280_0, hl280_0, hi280_0⟩ := at_L1 (Kd.N_reads' HO_8.out).2.2 0 p280 q280
              obtain rfl : ad268 = ad280 := (by injection e280)
              obtain ⟨ce280, hce280, hMe280, hcc280⟩ := Kd.N_get HO_8.out [] 0 p280 (by first | exact q280 | exact of_decide_eq_true (by first | (with_reducible assumption) | assumption) | (have e_ := (Kd.N_reads' HO_8.out).1; omega))
              obtain ⟨ua280_0, uc280_0, rfl, ul280_0, ge280_0⟩ := Kd.FK_slice_open hMe280
              have hv280_0 := hcc280 0 _ rfl
              rw [Nat.add_zero, show ((Kd.slice 2 (Kd.int .i64))).sz = 1 from rfl, Nat.mul_one] at hv280_0
              replace hv280_0 := Option.some.inj (hv280_0.symm.trans hx280_0)
              injection hv280_0 with hva_ hvn_ hvc_
              rw [hva_] at ge280_0
              rw [hvc_] at ul280_0
              have HL280_0 := Aside0.mk (show Kd.V (Kd.int .i64) 2 _ w.heap.size _ _ (rd_L1 t260 0) from Kd.V_mk ul280_0 ge280_0)
              clear hva_ hvn_ hvc_ ge280_0 ul280_0
              clear hcc280 hce280
              have qi280 : (0 < t260.length) = True := eq_true (by omega)
              (try rw [show ((0 : Int)).toNat = 0 from rfl] at hx280_0)
              (try rw [Addr.add_zero'] at hx280_0)
              have HR280_0 := Aside0.mk hi280_0
              have HC280_0 := Aside0.mk hl280_0
              clear hi280_0 hl280_0
              replace p280 := eq_true p280
              replace q280 := eq_true q280
              have p284 : 0 ≤ (0 : Int) := (by omega)
              have q284 : 0 < (t260.length : Int) := of_decide_eq_true (by first | (with_reducible assumption) | assumption)
              obtain ⟨ad284, A284_0, c284_0, e284, hx284_0, hl284_0, hi284_0⟩ := at_L1 (Kd.N_reads' HO_8.out).2.2 0 p284 q284
              obtain rfl : ad268 = ad284 := (by injection e284)
              obtain ⟨ce284, hce284, hMe284, hcc284⟩ := Kd.N_get HO_8.out [] 0 p284 (by first | exact q284 | exact of_decide_eq_true (by first | (with_reducible assumption) | assumption) | (have e_ := (Kd.N_reads' HO_8.out).1; omega))
              obtain ⟨ua284_0, uc284_0, rfl, ul284_0, ge284_0⟩ := Kd.FK_slice_open hMe284
              have hv284_0 := hcc284 0 _ rfl
              rw [Nat.add_zero, show ((Kd.slice 2 (Kd.int .i64))).sz = 1 from rfl, Nat.mul_one] at hv284_0
              replace hv284_0 := Option.some.inj (hv284_0.symm.trans hx284_0)
              injection hv284_0 with hva_ hvn_ hvc_
              rw [hva_] at ge284_0
              rw [hvc_] at ul284_0
              have HL284_0 := Aside0.mk (show Kd.V (Kd.int .i64) 2 _ w.heap.size _ _ (rd_L1 t260 0) from Kd.V_mk ul284_0 ge284_0)
              clear hva_ hvn_ hvc_ ge284_0 ul284_0
              clear hcc284 hce284
              have qi284 : (0 < t260.length) = True := eq_true (by omega)
              (try rw [show ((0 : Int)).toNat = 0 from rfl] at hx284_0)
              (try rw [Addr.add_zero'] at hx284_0)
              have HR284_0 := Aside0.mk hi284_0
              have HC284_0 := Aside0.mk hl284_0
              clear hi284_0 hl284_0
              replace p284 := eq_true p284
              replace q284 := eq_true q284
              have ea_ := Option.some.inj (hx280_0.symm.trans hx284_0)
              injection ea_ with ea_ en_ ec_
              subst ea_
              subst ec_
              clear en_
              refine start_ (n := 16) (S := fun w' => w'.cell? ad268 = some (.slice A280_0 (rd_L1 t260 0).length c280_0) ∧ w'.cell? ad268 = some (.slice A280_0 (rd_L1 t260 0).length c280_0)) (ds := [7, 10]) #[false, false, false, false, false, false, false, false, false, false, false, false, false, false, false, false] (by kernel_rfl) rfl rfl ⟨hx280_0, hx284_0⟩ (fun hHeld => ?_); refine with_tabW thrumlaw15_SoftTurns.tab11 thrumlaw15_SoftTurns.bits11 (fun HT_ HW_ => ?_)
              generalize w162.drew = w163 at HO_1 HO_8 HO267 HL268_0 HL272_0 HO275 HO279 HB HL280_0 HL284_0 HR280_0 HR284_0 hx280_0 hx284_0 hHeld ⊢
              refine pure_ (i := 0) (N := some 65) (v := ?_) (a' := ?_) #[true, false, false, false, false, false, false, false, false, false, false, false, false, false, false, false] rfl rfl (any_of HT_.out (by kernel_rfl)) (fun _ _ _ h => h) (Or.inl ⟨by rfl, ?_⟩) ?_ ?_
              rotate_left
              ·
               intro w'
               go_simp
               with_reducible rfl
              rotate_left
              ·
               simp only [Act.put, List.setIfInBounds_toArray, List.set_cons_zero, List.set_cons_succ, i64_w, i32_w]
               rfl
              refine pure_ (i := 1) (N := some 66) (v := ?_) (a' := ?_) #[true, true, false, false, false, false, false, false, false, false, false, false, false, false, false, false] rfl rfl (any_of HT_.out (by kernel_rfl)) (fun _ _ _ h => h) (Or.inl ⟨by rfl, ?_⟩) ?_ ?_
              rotate_left
              ·
               intro w'
               go_simp
               with_reducible rfl
              rotate_left
              ·
               simp only [Act.put, List.setIfInBounds_toArray, List.set_cons_zero, List.set_cons_succ, i64_w, i32_w]
               rfl
              refine pure_ (i := 4) (N := some 69) (v := ?_) (a' := ?_) #[true, true, false, false, true, false, false, false, false, false, false, false, false, false, false, false] rfl rfl (any_of HT_.out (by kernel_rfl)) (fun _ _ _ h => h) (Or.inl ⟨by rfl, ?_⟩) ?_ ?_
              rotate_left
              ·
               intro w'
               go_simp
               with_reducible rfl
              rotate_left
              ·
               simp only [Act.put, List.setIfInBounds_toArray, List.set_cons_zero, List.set_cons_succ, i64_w, i32_w]
               rfl
              refine pure_ (i := 5) (N := some 70) (v := ?_) (a' := ?_) #[true, true, false, false, true, true, false, false, false, false, false, false, false, false, false, false] rfl rfl (any_of HT_.out (by kernel_rfl)) (fun _ _ _ h => h) (Or.inl ⟨by rfl, ?_⟩) ?_ ?_
              rotate_left
              ·
               intro w'
               go_simp
               with_reducible rfl
              rotate_left
              ·
               simp only [Act.put, List.setIfInBounds_toArray, List.set_cons_zero, List.set_cons_succ, i64_w, i32_w]
               rfl
              refine pure_ (i := 8) (N := some 73) (v := ?_) (a' := ?_) #[true, true, false, false, true, true, false, false, true, false, false, false, false, false, false, false] rfl rfl (any_of HT_.out (by kernel_rfl)) (fun _ _ _ h => h) (Or.inl ⟨by rfl, ?_⟩) ?_ ?_
              rotate_left
              ·
               intro w'
               go_simp
               with_reducible rfl
              rotate_left
              ·
               simp only [Act.put, List.setIfInBounds_toArray, List.set_cons_zero, List.set_cons_succ, i64_w, i32_w]
               rfl
              refine pure_ (i := 9) (N := some 74) (v := ?_) (a' := ?_) #[true, true, false, false, true, true, false, false, true, true, false, false, false, false, false, false] rfl rfl (any_of HT_.out (by kernel_rfl)) (fun _ _ _ h => h) (Or.inl ⟨by rfl, ?_⟩) ?_ ?_
              rotate_left
              ·
               intro w'
               go_simp
               with_reducible rfl
              rotate_left
              ·
               simp only [Act.put, List.setIfInBounds_toArray, List.set_cons_zero, List.set_cons_succ, i64_w, i32_w]
               rfl
              refine take_ (i := 2) (N := some 67) (v := ?_) (a' := ?_) #[true, true, true, false, true, true, false, false, true, true, false, false, false, false, false, false] rfl rfl (take_ofW HT_.out HW_.out (by kernel_rfl)) (fun _ _ _ h => h) (Or.inl ⟨by rfl, ?_⟩) hHeld ?_ ?_
              rotate_left
              ·
               rintro w' ⟨s0, s1⟩
               go_simp
               with_reducible rfl
              rotate_left
              ·
               simp only [Act.put, List.setIfInBounds_toArray, List.set_cons_zero, List.set_cons_succ, i64_w, i32_w]
               rfl
              refine take_ (i := 6) (N := some 71) (v := ?_) (a' := ?_) #[true, true, true, false, true, true, true, false, true, true, false, false, false, false, false, false] rfl rfl (take_ofW HT_.out HW_.out (by kernel_rfl)) (fun _ _ _ h => h) (Or.inl ⟨by rfl, ?_⟩) hHeld ?_ ?_
              rotate_left
              ·
               rintro w' ⟨s0, s1⟩
               go_simp
               with_reducible rfl
              rotate_left
              ·
               simp only [Act.put, List.setIfInBounds_toArray, List.set_cons_zero, List.set_cons_succ, i64_w, i32_w]
               rfl
              refine one_ (i := 3) (N := some 68) #[true, true, true, true, true, true, true, false, true, true, false, false, false, false, false, false] rfl rfl (one_of HT_.out (by kernel_rfl)) (by decide) (fun K hK => ?_)
              refine Kd.R_append_rows_step (Kd.int .i64) (w0 := w) w.heap.size (by rfl) (.const (.slice none 0 0)) (.tmp 67) 22 2 (.int .i64 0) 8 rfl Try.underlying22 info2 rfl (by decide) (by omega) (.slice none 0 0) ([] : List Int) (rd_L1 t260 0) _ _ _ (fun k_ => (w.heap.size ≤ k_) ∧ some k_ ≠ (v266 : Value).ownBlock ∧ some k_ ≠ (.slice Ao161 y273.length co161 : Value).ownBlock ∧ some k_ ≠ (v278 : Value).ownBlock) (fun _ => False) rfl rfl ?aO ?aR (fun _ _ h => h) (fun _ h => h.elim) ?aF ?aB ?aS ?aL ?_
              (case aR => repeat (first | exact (by repeat (first | (with_reducible exact HR280_0.out) | (with_reducible refine ccA ?_ _) | (with_reducible refine ccN ?_ _) | (with_reducible refine ccD ?_) | exact HR280_0.out)) | (with_reducible refine ccA ?_ _) | (with_reducible refine ccN ?_ _) | (with_reducible refine ccD ?_)))
              (case aB => exact (by repeat (first | (with_reducible first | exact HB.out | apply zzA | apply zzN | apply zzD) | exact HB.out)))
              (case aF => exact (fun k_ hk => ⟨(Nat.le_trans (zzS (by repeat (first | (with_reducible first | exact HB.out | apply zzA | apply zzN | apply zzD) | exact HB.out))) hk), Kd.fresh' (Kd.R_lt (by (with_reducible repeat (first | apply rrA | apply rrN | apply rrD)); exact HO267.out)) k_ hk, Kd.fresh' (Kd.R_lt (by (with_reducible repeat (first | apply rrA | apply rrN | apply rrD)); exact HO275.out)) k_ hk, Kd.fresh' (Kd.R_lt (by (with_reducible repeat (first | apply rrA | apply rrN | apply rrD)); exact HO279.out)) k_ hk⟩))
              (case aO => exact ((Kd.R_nil _ _ _ _ (fun k_ => (w.heap.size ≤ k_) ∧ some k_ ≠ (v266 : Value).ownBlock ∧ some k_ ≠ (.slice Ao161 y273.length co161 : Value).ownBlock ∧ some k_ ≠ (v278 : Value).ownBlock))))
              (case aS => exact (zzS (by repeat (first | (with_reducible first | exact HB.out | apply zzA | apply zzN | apply zzD) | exact HB.out))))
              (case aL => have := LMc25.out; omega)
              intro v282 w164 ho hb hg hat
              have HS0_ := cell_grown hg (hHeld.1) (by intro h_; first | exact nomatch h_ | simp [Value.ownBlock] at h_)
              have HS1_ := cell_grown hg (hHeld.2) (by intro h_; first | exact nomatch h_ | simp [Value.ownBlock] at h_)
              rw [← Ny281.out] at ho
              have n0_ := Aside0.mk (Kd.V_afterv (Kd.V_apart_nil (by (with_reducible repeat (first | apply Kd.V_alloc | apply Kd.V_drewN | apply Kd.V_drew)); exact HO_1.out)) hg hat)
              have n1_ := Aside0.mk (Kd.N_afterv (Kd.N_apart_nil (by (with_reducible repeat (first | apply Kd.N_alloc | apply Kd.N_drewN | apply Kd.N_drew)); exact HO_8.out)) hg hat)
              have n2_ := Aside0.mk (Kd.R_after (Kd.R_apart_nil (by (with_reducible repeat (first | apply rrA | apply rrN | apply rrD)); exact HO267.out)) hg hat)
              have n3_ := Aside0.mk (Kd.V_afterv (Kd.V_apart_nil (by (with_reducible repeat (first | apply Kd.V_alloc | apply Kd.V_drewN | apply Kd.V_drew)); exact HL268_0.out)) hg hat)
              have n4_ := Aside0.mk (Kd.V_afterv (Kd.V_apart_nil (by (with_reducible repeat (first | apply Kd.V_alloc | apply Kd.V_drewN | apply Kd.V_drew)); exact HL272_0.out)) hg hat)
              have n5_ := Aside0.mk (Kd.R_after (Kd.R_apart_nil (by (with_reducible repeat (first | apply rrA | apply rrN | apply rrD)); exact HO275.out)) hg hat)
              have n6_ := Aside0.mk (Kd.R_after (Kd.R_apart_nil (by (with_reducible repeat (first | apply rrA | apply rrN | apply rrD)); exact HO279.out)) hg hat)
              have n7_ := Aside0.mk (Kd.V_afterv (Kd.V_apart_nil (by (with_reducible repeat (first | apply Kd.V_alloc | apply Kd.V_drewN | apply Kd.V_drew)); exact HL280_0.out)) hg hat)
              have n8_ := Aside0.mk (Kd.V_afterv (Kd.V_apart_nil (by (with_reducible repeat (first | apply Kd.V_alloc | apply Kd.V_drewN | apply Kd.V_drew)); exact HL284_0.out)) hg hat)
              have n9_ := Aside0.mk (hb)
              have n10_ := Aside0.mk (ho)
              clear HO_1
              clear HO_8
              clear HO267
              clear HL268_0
              clear HL272_0
              clear HO275
              clear HO279
              clear HL280_0
              clear HL284_0
              clear HB
              have HO_1 := n0_
              have HO_8 := n1_
              have HO267 := n2_
              have HL268_0 := n3_
              have HL272_0 := n4_
              have HO275 := n5_
              have HO279 := n6_
              have HL280_0 := n7_
              have HL284_0 := n8_
              have HB := n9_
              have HO283 := n10_
              clear n0_ n1_ n2_ n3_ n4_ n5_ n6_ n7_ n8_ n9_ n10_
              clear ho hb hg hat
              refine hK.out _ _ ⟨HS0_, HS1_⟩ (fun hHeld => ?_)
              clear hK K
              refine norm_ (a' := ?_) ?_ ?_
              rotate_left
              ·
               show Act.put _ (some 68) _ = _
               simp only [Act.put, List.setIfInBounds_toArray, List.set_cons_zero, List.set_cons_succ, i64_w, i32_w]
               rfl
              refine last_ (i := 7) (N := some 72) #[true, true, true, true, true, true, true, true, true, true, false, false, false, false, false, false] rfl rfl (one_of HT_.out (by kernel_rfl)) (by decide) (fun K hK => ?_)
              refine Kd.R_append_rows_step (Kd.int .i64) (w0 := w) w.heap.size (by rfl) (.tmp 68) (.tmp 71) 22 2 (.int .i64 0) 8 rfl Try.underlying22 info2 rfl (by decide) (by omega) v282 y281 (rd_L1 t260 0) _ _ _ (fun k_ => (w.heap.size ≤ k_) ∧ some k_ ≠ (v266 : Value).ownBlock ∧ some k_ ≠ (.slice Ao161 y273.length co161 : Value).ownBlock ∧ some k_ ≠ (v278 : Value).ownBlock) (fun _ => False) rfl rfl ?aO ?aR (fun _ _ h => h) (fun _ h => h.elim) ?aF ?aB ?aS ?aL ?_
              (case aR => repeat (first | exact ((Kd.V_reads' (by (with_reducible repeat (first | apply Kd.V_alloc | apply Kd.V_drewN | apply Kd.V_drew)); exact HL284_0.out)).2.2) | (with_reducible refine ccA ?_ _) | (with_reducible refine ccN ?_ _) | (with_reducible refine ccD ?_)))
              (case aB => exact (by repeat (first | (with_reducible first | exact HB.out | apply zzA | apply zzN | apply zzD) | exact HB.out)))
              (case aF => exact (fun k_ hk => ⟨(Nat.le_trans (zzS (by repeat (first | (with_reducible first | exact HB.out | apply zzA | apply zzN | apply zzD) | exact HB.out))) hk), Kd.fresh' (Kd.R_lt (by (with_reducible repeat (first | apply rrA | apply rrN | apply rrD)); exact HO267.out)) k_ hk, Kd.fresh' (Kd.R_lt (by (with_reducible repeat (first | apply rrA | apply rrN | apply rrD)); exact HO275.out)) k_ hk, Kd.fresh' (Kd.R_lt (by (with_reducible repeat (first | apply rrA | apply rrN | apply rrD)); exact HO279.out)) k_ hk⟩))
              (case aO => exact (by (with_reducible repeat (first | apply rrA | apply rrN | apply rrD)); exact HO283.out))
              (case aS => exact (zzS (by repeat (first | (with_reducible first | exact HB.out | apply zzA | apply zzN | apply zzD) | exact HB.out))))
              (case aL => have := LMc26.out; omega)
              intro v286 w165 ho hb hg hat
              rw [← Ny285.out] at ho
              have n0_ := Aside0.mk (Kd.V_afterv (ok := (fun k_ => (P1_ k_ ∨ w.heap.size ≤ k_) ∧ some k_ ≠ (.slice (some ad268) t260.length co158 : Value).ownBlock ∧ some k_ ≠ (v266 : Value).ownBlock ∧ some k_ ≠ (.slice Ao161 y273.length co161 : Value).ownBlock ∧ some k_ ≠ (v278 : Value).ownBlock)) (by (with_reducible repeat (first | apply Kd.V_alloc | apply Kd.V_drewN | apply Kd.V_drew)); exact Kd.V_mono HO_1.out (fun _ hk => ⟨⟨hk.1.1.1.1, ⟨hk.1.1.1.2.1, ⟨hk.1.1.1.2.2, ⟨hk.1.1.2, hk.1.2⟩⟩⟩⟩, hk.2⟩)) hg hat)
              have n1_ := Aside0.mk (Kd.N_afterv (ok := (fun k_ => (P1_ k_ ∨ w.heap.size ≤ k_) ∧ some k_ ≠ (v266 : Value).ownBlock ∧ some k_ ≠ (.slice Ao161 y273.length co161 : Value).ownBlock ∧ some k_ ≠ (v278 : Value).ownBlock)) (by (with_reducible repeat (first | apply Kd.N_alloc | apply Kd.N_drewN | apply Kd.N_drew)); exact Kd.N_mono HO_8.out (fun _ hk => ⟨⟨hk.1.1.1.1, ⟨hk.1.1.1.2, ⟨hk.1.1.2, hk.1.2⟩⟩⟩, hk.2⟩)) hg hat)
              have n2_ := Aside0.mk (Kd.R_after (ok := (fun k_ => (w.heap.size ≤ k_) ∧ some k_ ≠ (.slice Ao161 y273.length co161 : Value).ownBlock ∧ some k_ ≠ (v278 : Value).ownBlock)) (by (with_reducible repeat (first | apply rrA | apply rrN | apply rrD)); exact Kd.R_mono HO267.out (fun _ hk => ⟨⟨hk.1.1.1, ⟨hk.1.1.2, hk.1.2⟩⟩, hk.2⟩)) hg hat)
              have n3_ := Aside0.mk (Kd.V_afterv (ok := (fun k_ => (P1_ k_ ∨ w.heap.size ≤ k_) ∧ some k_ ≠ (.slice (some ad268) t260.length co158 : Value).ownBlock ∧ some k_ ≠ (v266 : Value).ownBlock ∧ some k_ ≠ (.slice Ao161 y273.length co161 : Value).ownBlock ∧ some k_ ≠ (v278 : Value).ownBlock)) (by (with_reducible repeat (first | apply Kd.V_alloc | apply Kd.V_drewN | apply Kd.V_drew)); exact Kd.V_mono HL268_0.out (fun _ hk => ⟨⟨hk.1.1.1.1, ⟨hk.1.1.1.2.1, ⟨hk.1.1.1.2.2, ⟨hk.1.1.2, hk.1.2⟩⟩⟩⟩, hk.2⟩)) hg hat)
              have n4_ := Aside0.mk (Kd.V_afterv (ok := (fun k_ => (P1_ k_ ∨ w.heap.size ≤ k_) ∧ some k_ ≠ (.slice (some ad268) t260.length co158 : Value).ownBlock ∧ some k_ ≠ (v266 : Value).ownBlock ∧ some k_ ≠ (.slice Ao161 y273.length co161 : Value).ownBlock ∧ some k_ ≠ (v278 : Value).ownBlock)) (by (with_reducible repeat (first | apply Kd.V_alloc | apply Kd.V_drewN | apply Kd.V_drew)); exact Kd.V_mono HL272_0.out (fun _ hk => ⟨⟨hk.1.1.1.1, ⟨hk.1.1.1.2.1, ⟨hk.1.1.1.2.2, ⟨hk.1.1.2, hk.1.2⟩⟩⟩⟩, hk.2⟩)) hg hat)
              have n5_ := Aside0.mk (Kd.R_after (ok := (fun k_ => (w.heap.size ≤ k_) ∧ some k_ ≠ (v266 : Value).ownBlock ∧ some k_ ≠ (v278 : Value).ownBlock)) (by (with_reducible repeat (first | apply rrA | apply rrN | apply rrD)); exact Kd.R_mono HO275.out (fun _ hk => ⟨⟨hk.1.1.1, ⟨hk.1.1.2, hk.1.2⟩⟩, hk.2⟩)) hg hat)
              have n6_ := Aside0.mk (Kd.R_after (ok := (fun k_ => (w.heap.size ≤ k_) ∧ some k_ ≠ (v266 : Value).ownBlock ∧ some k_ ≠ (.slice Ao161 y273.length co161 : Value).ownBlock)) (by (with_reducible repeat (first | apply rrA | apply rrN | apply rrD)); exact Kd.R_mono HO279.out (fun _ hk => ⟨⟨hk.1.1.1.1, ⟨hk.1.1.2, hk.1.2⟩⟩, hk.2⟩)) hg hat)
              have n7_ := Aside0.mk (Kd.V_afterv (ok := (fun k_ => (P1_ k_ ∨ w.heap.size ≤ k_) ∧ some k_ ≠ (.slice (some ad268) t260.length co158 : Value).ownBlock ∧ some k_ ≠ (v266 : Value).ownBlock ∧ some k_ ≠ (.slice Ao161 y273.length co161 : Value).ownBlock ∧ some k_ ≠ (v278 : Value).ownBlock)) (by (with_reducible repeat (first | apply Kd.V_alloc | apply Kd.V_drewN | apply Kd.V_drew)); exact Kd.V_mono HL280_0.out (fun _ hk => ⟨⟨hk.1.1.1.1.1, ⟨hk.1.2, ⟨hk.1.1.1.1.2, ⟨hk.1.1.1.2, hk.1.1.2⟩⟩⟩⟩, hk.2⟩)) hg hat)
              have n8_ := Aside0.mk (Kd.V_afterv (ok := (fun k_ => (P1_ k_ ∨ w.heap.size ≤ k_) ∧ some k_ ≠ (.slice (some ad268) t260.length co158 : Value).ownBlock ∧ some k_ ≠ (v266 : Value).ownBlock ∧ some k_ ≠ (.slice Ao161 y273.length co161 : Value).ownBlock ∧ some k_ ≠ (v278 : Value).ownBlock)) (by (with_reducible repeat (first | apply Kd.V_alloc | apply Kd.V_drewN | apply Kd.V_drew)); exact Kd.V_mono HL284_0.out (fun _ hk => ⟨⟨hk.1.1.1.1.1, ⟨hk.1.2, ⟨hk.1.1.1.1.2, ⟨hk.1.1.1.2, hk.1.1.2⟩⟩⟩⟩, hk.2⟩)) hg hat)
              have n9_ := Aside0.mk (hb)
              have n10_ := Aside0.mk (ho)
              clear HO_1
              clear HO_8
              clear HO267
              clear HL268_0
              clear HL272_0
              clear HO275
              clear HO279
              clear HL280_0
              clear HL284_0
              clear HB
              clear HO283
              have HO_1 := n0_
              have HO_8 := n1_
              have HO267 := n2_
              have HL268_0 := n3_
              have HL272_0 := n4_
              have HO275 := n5_
              have HO279 := n6_
              have HL280_0 := n7_
              have HL284_0 := n8_
              have HB := n9_
              have HO287 := n10_
              clear n0_ n1_ n2_ n3_ n4_ n5_ n6_ n7_ n8_ n9_ n10_
              clear ho hb hg hat
              obtain ⟨Ao166, co166, eo166⟩ := Kd.R_slice HO287.out
              (first | subst eo166 | (injection eo166 with f1_ f2_ f3_; have f4_ := f1_.symm; have f5_ := f3_.symm; clear f1_ f2_ f3_; subst f4_; subst f5_))
              refine hK.out _ _ ?_
              clear hK K
              refine norm_ (a' := ?_) ?_ ?_
              rotate_left
              ·
               show Act.put _ (some 72) _ = _
               simp only [Act.put, List.setIfInBounds_toArray, List.set_cons_zero, List.set_cons_succ, i64_w, i32_w]
               rfl
              refine last_ (i := 10) (N := some 75) #[true, true, true, true, true, true, true, true, true, true, true, false, false, false, false, false] rfl rfl (one_of HT_.out (by kernel_rfl)) (by decide) (fun K hK => ?_)
              refine goes_ Try.func8 (by kernel_rfl) rfl #[.int .i64 2, .slice Ao166 y285.length co166, .slice A1 l1.length c1, .int .i64 a2] (by rfl) rfl rfl (by (try simp only [List.map_toArray, List.map_cons, List.map_nil]); first | done | rfl | (simp only [List.length_drop, List.length_take]; rfl)) ?_
              with_reducible refine (soft_Tell.calls 2 _ _ y285 _ _ l1 a2 t288 t289 _ ?side1 ?side2 ?side3 ?side4 A27.out).mono ?_
              (case side1 => repeat (first | exact (Kd.R_reads' HO287.out).2.2 | (with_reducible refine ccA ?_ _) | (with_reducible refine ccN ?_ _) | (with_reducible refine ccD ?_)))
              (case side2 => exact (Kd.R_reads' HO287.out).2.1)
              (case side3 => repeat (first | exact (Kd.V_reads' HO_1.out).2.2 | (with_reducible refine ccA ?_ _) | (with_reducible refine ccN ?_ _) | (with_reducible refine ccD ?_)))
              (case side4 => exact (Kd.V_reads' HO_1.out).2.1)
              rintro e w167 ⟨v290, rfl, ho0, hb⟩
              refine ⟨_, rfl, ?_⟩
              have n0_ := Aside0.mk (Kd.V_elder' (by (with_reducible repeat (first | apply Kd.V_alloc | apply Kd.V_drewN | apply Kd.V_drew)); exact HO_1.out) (Kd.R_base ho0) hb)
              have n1_ := Aside0.mk (Kd.N_elder' (by (with_reducible repeat (first | apply Kd.N_alloc | apply Kd.N_drewN | apply Kd.N_drew)); exact HO_8.out) (Kd.R_base ho0) hb)
              have n2_ := Aside0.mk (Kd.R_elder' (by (with_reducible repeat (first | apply rrA | apply rrN | apply rrD)); exact HO267.out) (Kd.R_base ho0) hb)
              have n3_ := Aside0.mk (Kd.V_elder' (by (with_reducible repeat (first | apply Kd.V_alloc | apply Kd.V_drewN | apply Kd.V_drew)); exact HL268_0.out) (Kd.R_base ho0) hb)
              have n4_ := Aside0.mk (Kd.V_elder' (by (with_reducible repeat (first | apply Kd.V_alloc | apply Kd.V_drewN | apply Kd.V_drew)); exact HL272_0.out) (Kd.R_base ho0) hb)
              have n5_ := Aside0.mk (Kd.R_elder' (by (with_reducible repeat (first | apply rrA | apply rrN | apply rrD)); exact HO275.out) (Kd.R_base ho0) hb)
              have n6_ := Aside0.mk (Kd.R_elder' (by (with_reducible repeat (first | apply rrA | apply rrN | apply rrD)); exact HO279.out) (Kd.R_base ho0) hb)
              have n7_ := Aside0.mk (Kd.V_elder' (by (with_reducible repeat (first | apply Kd.V_alloc | apply Kd.V_drewN | apply Kd.V_drew)); exact HL280_0.out) (Kd.R_base ho0) hb)
              have n8_ := Aside0.mk (Kd.V_elder' (by (with_reducible repeat (first | apply Kd.V_alloc | apply Kd.V_drewN | apply Kd.V_drew)); exact HL284_0.out) (Kd.R_base ho0) hb)
              have n9_ := Aside0.mk (Kd.R_elder' (by (with_reducible repeat (first | apply rrA | apply rrN | apply rrD)); exact HO287.out) (Kd.R_base ho0) hb)
              have n10_ := Aside0.mk (Kd.R_lower (Kd.R_new' (Kd.R_new' (Kd.R_new' (Kd.R_new' (Kd.R_newM (M := fun k_ => (w.heap.size ≤ k_)) ho0 (zzS (by repeat (first | (with_reducible first | exact HB.out | apply zzA | apply zzN | apply zzD) | exact HB.out))) (fun k_ h_ => h_)) (Kd.R_lt (by (with_reducible repeat (first | apply rrA | apply rrN | apply rrD)); exact HO267.out))) (Kd.R_lt (by (with_reducible repeat (first | apply rrA | apply rrN | apply rrD)); exact HO275.out))) (Kd.R_lt (by (with_reducible repeat (first | apply rrA | apply rrN | apply rrD)); exact HO279.out))) (Kd.R_lt (by (with_reducible repeat (first | apply rrA | apply rrN | apply rrD)); exact HO287.out))) (zzS (by repeat (first | (with_reducible first | exact HB.out | apply zzA | apply zzN | apply zzD) | exact HB.out))))
              have n11_ := Aside0.mk (zzT (by repeat (first | (with_reducible first | exact HB.out | apply zzA | apply zzN | apply zzD) | exact HB.out)) hb)
              clear HO_1
              clear HO_8
              clear HO267
              clear HL268_0
              clear HL272_0
              clear HO275
              clear HO279
              clear HL280_0
              clear HL284_0
              clear HO287
              clear HB
              have HO_1 := n0_
              have HO_8 := n1_
              have HO267 := n2_
              have HL268_0 := n3_
              have HL272_0 := n4_
              have HO275 := n5_
              have HO279 := n6_
              have HL280_0 := n7_
              have HL284_0 := n8_
              have HO287 := n9_
              have HO291 := n10_
              have HB := n11_
              clear n0_ n1_ n2_ n3_ n4_ n5_ n6_ n7_ n8_ n9_ n10_ n11_
              (try clear hb)
              (try clear hb2)
              (try clear hk)
              (try clear hi)
              (try clear ho0)
              refine hK.out _ _ ?_
              clear hK K
              refine norm_ (a' := ?_) ?_ ?_
              rotate_left
              ·
               show Act.put _ (some 75) _ = _
               simp only [Act.put, List.setIfInBounds_toArray, List.set_cons_zero, List.set_cons_succ, i64_w, i32_w]
               rfl
              refine pure_ (i := 11) (N := some 64) (v := ?_) (a' := ?_) #[true, true, true, true, true, true, true, true, true, true, true, true, false, false, false, false] rfl rfl (any_of HT_.out (by kernel_rfl)) (fun _ _ _ h => h) (Or.inl ⟨by rfl, ?_⟩) ?_ ?_
              rotate_left
              ·
               intro w'
               go_simp
               with_reducible rfl
              rotate_left
              ·
               simp only [Act.put, List.setIfInBounds_toArray, List.set_cons_zero, List.set_cons_succ, i64_w, i32_w]
               rfl
              refine pure_ (i := 12) (N := some 76) (v := ?_) (a' := ?_) #[true, true, true, true, true, true, true, true, true, true, true, true, true, false, false, false] rfl rfl (any_of HT_.out (by kernel_rfl)) (fun _ _ _ h => h) (Or.inl ⟨by rfl, ?_⟩) ?_ ?_
              rotate_left
              ·
               intro w'
               go_simp
               with_reducible rfl
              rotate_left
              ·
               simp only [Act.put, List.setIfInBounds_toArray, List.set_cons_zero, List.set_cons_succ, i64_w, i32_w]
               rfl
              refine pure_ (i := 13) (N := some 77) (v := ?_) (a' := ?_) #[true, true, true, true, true, true, true, true, true, true, true, true, true, true, false, false] rfl rfl (any_of HT_.out (by kernel_rfl)) (fun _ _ _ h => h) (Or.inl ⟨by rfl, ?_⟩) ?_ ?_
              rotate_left
              ·
               intro w'
               go_simp
               with_reducible rfl
              rotate_left
              ·
               simp only [Act.put, List.setIfInBounds_toArray, List.set_cons_zero, List.set_cons_succ, i64_w, i32_w]
               rfl
              refine pure_ (i := 14) (N := some 14) (v := ?_) (a' := ?_) #[true, true, true, true, true, true, true, true, true, true, true, true, true, true, true, false] rfl rfl (any_of HT_.out (by kernel_rfl)) (fun _ _ _ h => h) (Or.inl ⟨by rfl, ?_⟩) ?_ ?_
              rotate_left
              ·
               intro w'
               go_simp
               with_reducible rfl
              rotate_left
              ·
               simp only [Act.put, List.setIfInBounds_toArray, List.set_cons_zero, List.set_cons_succ, i64_w, i32_w]
               rfl
              refine pure_ (i := 15) (N := some 15) (v := ?_) (a' := ?_) #[true, true, true, true, true, true, true, true, true, true, true, true, true, true, true, true] rfl rfl (any_of HT_.out (by kernel_rfl)) (fun _ _ _ h => h) (Or.inl ⟨by rfl, ?_⟩) ?_ ?_
              rotate_left
              ·
               intro w'
               go_simp
               with_reducible rfl
              rotate_left
              ·
               simp only [Act.put, List.setIfInBounds_toArray, List.set_cons_zero, List.set_cons_succ, i64_w, i32_w]
               rfl
              refine done_ (done_of HT_.out (by kernel_rfl)) ?_
              try go_wp2
              go_ret
              exact ⟨by first | rfl | (simp [errW_none, errW_some] <;> rfl) | (simp [*, errW_none, errW_some] <;> rfl), by repeat (first | (with_reducible first | exact HB.out | apply zzA | apply zzN | apply zzD) | exact HB.out)⟩
           ·
            rw [if_neg c26] at H
            exact absurd H (by simp)
          ·
           rw [if_neg c25] at H
           exact absurd H (by simp)
         ·
          rw [if_neg c23] at H
          exact absurd H (by simp)
        ·
         rw [if_neg c22] at H
         exact absurd H (by simp)
       ·
        rw [if_neg c21] at H
        exact absurd H (by simp)
      ·
       rw [if_neg c20] at H
       exact absurd H (by simp)
  ·
   replace c7 := Bool.eq_false_iff.mpr c7
   subst c7
   have H1 : (some true) = some r := by rw [if_neg (show ¬ (false = true) by decide)] at H; exact H
   clear H
   have H := H1
   clear H1
   focus
    obtain rfl := Option.some.inj H
    go_enter Try.func3, Try.ntmps3
    go_wp2_with (first | ((with_reducible refine gate_callee (f := 5) rfl ?_); refine goesL_ (some 16) rfl rfl Try.func5 (by kernel_rfl) rfl #[] rfl (by (try simp only [List.map_toArray, List.map_cons, List.map_nil]); first | done | rfl | (simp only [List.length_drop, List.length_take]; rfl)) ?_; (with_reducible refine (thrumlaw15_live.calls  true _ A4.out).mono ?_); rintro e w168 ⟨rfl, hb⟩; refine ⟨_, rfl, ?_⟩; have n0_ := Aside0.mk (Kd.V_below (by (with_reducible repeat (first | apply Kd.V_alloc | apply Kd.V_drewN | apply Kd.V_drew)); exact HO1.out) hb); have n1_ := Aside0.mk (zzT (by repeat (first | (with_reducible first | exact HB.out | apply zzA | apply zzN | apply zzD) | exact HB.out)) hb); clear HO1; clear HB; have HO1 := n0_; have HB := n1_; clear n0_ n1_; (try clear hb); (try clear hb2); (try clear hk); (try clear hi)) | ((with_reducible refine gate_dst (N := 22) rfl ?_); (try (refine gate_guard (by rfl) ?_; dsimp only)); refine Kd.N_lit k26 _ 26 ?hg (N' := 22) ?hd (xs := ([(⟨l1, 0⟩ : S26)] : List (S26))) (inner := [.slice A1 l1.length c1, .int .i64 0]) (ok := (fun k_ => (P1_ k_ ∨ w.heap.size ≤ k_))) (okp := (fun k_ => (P1_ k_ ∨ w.heap.size ≤ k_))) ?hr ?hp (fun _ hk => hk) ((show ∀ k_, w168.heap.size ≤ k_ → (fun k_ => (P1_ k_ ∨ w.heap.size ≤ k_)) k_ from fun k_ hk => (.inr (Nat.le_trans (zzS (by repeat (first | (with_reducible first | exact HB.out | apply zzA | apply zzN | apply zzD) | exact HB.out))) hk))) _ (Nat.le_refl _)) (Below.refl _ _) (Nat.le_refl _) (by simp) ?_; (case hd => rfl); (case hg => rfl); (case hr => first | (go_simp; done) | (go_simp; rfl)); (case hp => exact (Reps.c2 (show Kd.FK k26 _ _ (⟨l1, 0⟩ : S26) [.slice A1 l1.length c1, .int .i64 0] from (k26_mkF _ _ (⟨l1, 0⟩ : S26) (Kd.V_reads' (Kd.V_mono (ok' := (fun k_ => (P1_ k_ ∨ w.heap.size ≤ k_))) (HO1.out) (fun k_ hk => hk))).2.1 (Kd.V_F (Kd.V_mono (ok' := (fun k_ => (P1_ k_ ∨ w.heap.size ≤ k_))) (HO1.out) (fun k_ hk => hk))))) (Reps.none _ _))); intro v257 w169 ho170 hb hg_ hnew_; clear hg_ hnew_; (first | rw [← Ny256.out] at ho170 | (simp only [Int.reduceToNat] at ho170; rw [← Ny256.out] at ho170)); have n0_ := Aside0.mk (Kd.V_elder' (by (with_reducible repeat (first | apply Kd.V_alloc | apply Kd.V_drewN | apply Kd.V_drew)); exact HO1.out) (Kd.N_base ho170) hb); have n1_ := Aside0.mk (Kd.N_lower ho170 (zzS (by repeat (first | (with_reducible first | exact HB.out | apply zzA | apply zzN | apply zzD) | exact HB.out)))); have n2_ := Aside0.mk (zzT (by repeat (first | (with_reducible first | exact HB.out | apply zzA | apply zzN | apply zzD) | exact HB.out)) hb); clear HO1; clear HB; have HO1 := n0_; have HO258 := n1_; have HB := n2_; clear n0_ n1_ n2_; clear hb ho170; obtain ⟨Ao171, co171, eo171⟩ := Kd.N_slice HO258.out; subst eo171) | ((with_reducible refine gate_callee (f := 6) rfl ?_); refine goesL_ (some 23) rfl rfl Try.func6 (by kernel_rfl) rfl #[.slice A0 l0.length c0, .slice Ao171 y256.length co171] rfl (by (try simp only [List.map_toArray, List.map_cons, List.map_nil]); first | done | rfl | (simp only [List.length_drop, List.length_take]; rfl)) ?_; (with_reducible refine (thrumref14_Few.calls _ _ l0 _ _ y256 false _ ?side1 ?side2 ?side3 ?side4 A6.out).mono ?_); (case side1 => repeat (first | exact (Kd.C_below HR0.out HB.out) | (with_reducible refine ccA ?_ _) | (with_reducible refine ccN ?_ _) | (with_reducible refine ccD ?_))); (case side2 => exact HC0.out); (case side3 => repeat (first | exact (Kd.N_reads' HO258.out).2.2 | (with_reducible refine ccA ?_ _) | (with_reducible refine ccN ?_ _) | (with_reducible refine ccD ?_))); (case side4 => exact (Kd.N_reads' HO258.out).2.1); rintro e w172 ⟨rfl, hb⟩; refine ⟨_, rfl, ?_⟩; have n0_ := Aside0.mk (Kd.V_below (by (with_reducible repeat (first | apply Kd.V_alloc | apply Kd.V_drewN | apply Kd.V_drew)); exact HO1.out) hb); have n1_ := Aside0.mk (Kd.N_below (by (with_reducible repeat (first | apply Kd.N_alloc | apply Kd.N_drewN | apply Kd.N_drew)); exact HO258.out) hb); have n2_ := Aside0.mk (zzT (by repeat (first | (with_reducible first | exact HB.out | apply zzA | apply zzN | apply zzD) | exact HB.out)) hb); clear HO1; clear HO258; clear HB; have HO1 := n0_; have HO258 := n1_; have HB := n2_; clear n0_ n1_ n2_; (try clear hb); (try clear hb2); (try clear hk); (try clear hi)))
    go_ret
    exact ⟨by first | rfl | (simp [errW_none, errW_some] <;> rfl) | (simp [*, errW_none, errW_some] <;> rfl), by repeat (first | (with_reducible first | exact HB.out | apply zzA | apply zzN | apply zzD) | exact HB.out)⟩
 ·
  replace c5 := Bool.eq_false_iff.mpr c5
  subst c5
  have H1 : (some false) = some r := by rw [if_neg (show ¬ (false = true) by decide)] at H; exact H
  exact absurd (Option.some.inj H1) (by rw [HR_.out]; decide)

/-- THE ONE PURE STATEMENT of thrumlaw15_SoftTurns: yours. -/
def thrumlaw15_SoftTurns.Pure : Prop := ∀ (l0 : List Int) (l1 : List Int) (a2 : Int), l0.length ≤ maxLen → l0.length * 8 ≤ 140737488351232 → (∀ x ∈ l0, (Lit.int .i64 x).wf = true) → l1.length ≤ maxLen → l1.length * 8 ≤ 140737488351232 → (∀ x ∈ l1, (Lit.int .i64 x).wf = true) → (Lit.int .i64 a2).wf = true → ∃ k, thrumlaw15_SoftTurns.f k l0 l1 a2 = some true
theorem thrumlaw15_SoftTurns.walk (P : thrumlaw15_SoftTurns.Pure) (a0 : Option Addr) (len0 cap0 : Nat) (z0 : List Int) (a1 : Option Addr) (len1 cap1 : Nat) (z1 : List Int) (a2 : Int) (w : World) (w0 : (a0 = none ∧ len0 = 0 ∧ cap0 = 0 ∧ z0 = []) ∨ ∃ x, a0 = some x ∧ len0 ≤ cap0 ∧ cap0 ≤ maxLen ∧ z0.length = cap0 ∧ (∀ i, i < z0.length → w.cell? (x.add i) = some (.int .i64 (z0.getD i 0))) ∧ ∀ n ∈ z0, (Lit.int .i64 n).wf = true) (y0 : len0 * 8 ≤ 140737488351232) (w1 : (a1 = none ∧ len1 = 0 ∧ cap1 = 0 ∧ z1 = []) ∨ ∃ x, a1 = some x ∧ len1 ≤ cap1 ∧ cap1 ≤ maxLen ∧ z1.length = cap1 ∧ (∀ i, i < z1.length → w.cell? (x.add i) = some (.int .i64 (z1.getD i 0))) ∧ ∀ n ∈ z1, (Lit.int .i64 n).wf = true) (y1 : len1 * 8 ≤ 140737488351232) (w2 : (Lit.int .i64 a2).wf = true) :
  Calls Try.prog 3 #[.slice a0 len0 cap0, .slice a1 len1 cap1, .int .i64 a2] w fun e w' => e = .returned (.bool true) ∧ Below w.heap.size w w' := by
 obtain ⟨l0, rfl, hr0, hm0, hw0, hc0⟩ := ReadsInt.ofRowC w0
 obtain ⟨l1, rfl, hr1, hm1, hw1, hc1⟩ := ReadsInt.ofRowC w1
 obtain ⟨k, h⟩ := P l0 l1 a2 hm0 y0 hw0 hm1 y1 hw1 w2
 refine (thrumlaw15_SoftTurns.calls k _ _ l0 (fun k_ => k_ < w.heap.size) _ _ l1 a2 true w (Kd.C_of_reads (d := (0 : Int)) (h1 := fun _ => rfl) hr0) hc0 (Kd.V_mk hc1 (Kd.C_F (Kd.heap_int _) (Kd.C_of_reads (d := (0 : Int)) (h1 := fun _ => rfl) hr1))) h rfl).mono ?_
 rintro e w' ⟨rfl, hd⟩
 exact ⟨rfl, hd⟩























































































































































































































































































































































































































































































































































































































































































































































































































































































































































































































































































































































end Go.Proofs.Ytgilbdpbfmpcpaa.HK
