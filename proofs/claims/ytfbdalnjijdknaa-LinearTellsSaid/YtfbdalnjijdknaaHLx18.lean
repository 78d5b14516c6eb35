/- What Go functions do, each as a plain Lean function with the same answers, and the proof of it, in every world: printed by the session's driver over the kit's print, with texts by hand. -/
import Derived.Test.YtfbdalnjijdknaaHLx0
import Derived.Test.YtfbdalnjijdknaaHLx1
import Derived.Test.YtfbdalnjijdknaaHLx3
import Derived.Test.YtfbdalnjijdknaaHLx8
import Derived.Test.YtfbdalnjijdknaaHLx9
import Derived.Test.YtfbdalnjijdknaaHLx10
import Derived.Test.YtfbdalnjijdknaaHLx12
import Derived.Test.YtfbdalnjijdknaaHLx13
import Derived.Test.YtfbdalnjijdknaaHLx17
namespace Go.Proofs.Ytfbdalnjijdknaa.HL
open Go.RowKit Go.Proofs.YtfbdalnjijdknaaW.PrintWords Go.Proofs.YtfbdalnjijdknaaW.PrintLast Go.Proofs.YtfbdalnjijdknaaW.PrintMore
attribute [local go_sem] max2_int min2_int max_two min_two max_three min_three max_four min_four   -- for this text's walks alone
open Go.Proofs.Ytfbdalnjijdknaa.Sp
attribute [local go_sem] Go.Proofs.Ytfbdalnjijdknaa.Sp.u64_not
set_option linter.unusedVariables false
set_option linter.unusedSimpArgs false

/-! ### thrumlaw14_LinearTells: function 12 -/
mutual
def thrumlaw14_LinearTells.j0 : Nat → Int → List Int → Int → Int → List (List Int) → Bool → Bool → List Int → Int → Option (Bool)
 | 0, _, _, _, _, _, _, _, _, _ => none
 | k + 1, x0, x1, x3, x4, x5, x13, x44, x240000, x240001 => if x44 = true then (some x13) else (thrumlaw14_LinearTells.l0 k x0 x1 x3 x4 x5 x13 x5 (x5.length : Int) 0 x240000 x240001)
def thrumlaw14_LinearTells.l0 : Nat → Int → List Int → Int → Int → List (List Int) → Bool → List (List Int) → Int → Int → List Int → Int → Option (Bool)
 | 0, _, _, _, _, _, _, _, _, _, _, _ => none
 | k + 1, x0, x1, x3, x4, x5, x13, x46, x47, x48, x240000, x240001 => if x48 < x47 then (if 0 ≤ x48 then (if x48 < (x46.length : Int) then (if ((rd_L1 x46 x48).length : Int) > 500 then (some x13) else (thrumlaw14_LinearTells.l0 k x0 x1 x3 x4 x5 x13 x46 x47 (wrap64 (x48 + 1)) x240000 x240001)) else (none)) else (none)) else ((linear_Tell.f x1 x240000 x3).bind fun bt246 => ((thrumref14_Tell.f x1 x240000 x3).bind fun bt248 => ((linear_Off.f x1 x240000 x240001 x3).bind fun bt250 => ((thrumref14_Off.f x1 x240000 x240001 x3).bind fun bt252 => ((linear_Mean.f x4 x5).bind fun bt254 => ((thrumref14_Mean.f x4 x5).bind fun bt258 => ((linear_Dim.f x0).bind fun bt262 => ((thrumref14_Dim.f x0).bind fun bt264 => (if x13 = true then (if bt246.1 = bt248.1 then (if bt246.2 = bt248.2 then (if bt250.1 = bt252.1 then (if bt250.2 = bt252.2 then ((thrumref02_Same.f bt254.1 bt258.1).bind fun t266 => (if t266 = true then (if bt254.2 = bt258.2 then (if bt262.1 = bt264.1 then (if bt262.2 = bt264.2 then ((linear_Check.f x0 x1 (([(⟨x240000, x240001⟩ : S26)] : List (S26)))).bind fun t270 => ((thrumref14_Check.f x0 x1 (([(⟨x240000, x240001⟩ : S26)] : List (S26)))).bind fun t274 => (some (t270 == t274)))) else (some false)) else (some false)) else (some false)) else (some false))) else (some false)) else (some false)) else (some false)) else (some false)) else (some false))))))))))
end
def thrumlaw14_LinearTells.f (k : Nat) (a0 : Int) (l1 : List Int) (l2_0 : List Int) (a2_1 : Int) (a3 : Int) (a4 : Int) (l5 : List (List Int)) : Option (Bool) := (thrumlaw14_live.f).bind fun t240 => (if t240 = true then ((thrumref14_Few.f l1 (([(⟨l2_0, a2_1⟩ : S26)] : List (S26)))).bind fun t244 => (if t244 = true then (thrumlaw14_LinearTells.j0 k a0 l1 a3 a4 l5 t240 (decide ((l5.length : Int) > 100)) l2_0 a2_1) else (thrumlaw14_LinearTells.j0 k a0 l1 a3 a4 l5 t240 true l2_0 a2_1))) else (some false))
theorem thrumlaw14_LinearTells.mono_l : ∀ k, (∀ y0 y1 y2 y3 y4 y5 y6 y7 y8, LeO (thrumlaw14_LinearTells.j0 k y0 y1 y2 y3 y4 y5 y6 y7 y8) (thrumlaw14_LinearTells.j0 (k + 1) y0 y1 y2 y3 y4 y5 y6 y7 y8)) ∧ (∀ y0 y1 y2 y3 y4 y5 y6 y7 y8 y9 y10, LeO (thrumlaw14_LinearTells.l0 k y0 y1 y2 y3 y4 y5 y6 y7 y8 y9 y10) (thrumlaw14_LinearTells.l0 (k + 1) y0 y1 y2 y3 y4 y5 y6 y7 y8 y9 y10))
 | 0 => ⟨fun _ _ _ _ _ _ _ _ _ r h => by simp [thrumlaw14_LinearTells.j0] at h, fun _ _ _ _ _ _ _ _ _ _ _ r h => by simp [thrumlaw14_LinearTells.l0] at h⟩
 | k + 1 => by
  obtain ⟨ih0, ih1⟩ := thrumlaw14_LinearTells.mono_l k
  refine ⟨?_, ?_⟩
  ·
   intro y0 y1 y2 y3 y4 y5 y6 y7 y8
   unfold thrumlaw14_LinearTells.j0
   repeat' first
   | (with_reducible exact ih0 _ _ _ _ _ _ _ _ _)
   | (with_reducible exact ih1 _ _ _ _ _ _ _ _ _ _ _)
   | (with_reducible exact LeO.refl _)
   | (with_reducible exact LeO.none _)
   | (with_reducible refine LeO.ite ?_ ?_)
   | (with_reducible refine LeO.bind ?_ (fun _ => ?_))
   | exact ih0 _ _ _ _ _ _ _ _ _
   | exact ih1 _ _ _ _ _ _ _ _ _ _ _
   | exact LeO.none _
   | refine LeO.ite ?_ ?_
   | refine LeO.bind ?_ (fun _ => ?_)
  ·
   intro y0 y1 y2 y3 y4 y5 y6 y7 y8 y9 y10
   unfold thrumlaw14_LinearTells.l0
   repeat' first
   | (with_reducible exact ih0 _ _ _ _ _ _ _ _ _)
   | (with_reducible exact ih1 _ _ _ _ _ _ _ _ _ _ _)
   | (with_reducible exact LeO.refl _)
   | (with_reducible exact LeO.none _)
   | (with_reducible refine LeO.ite ?_ ?_)
   | (with_reducible refine LeO.bind ?_ (fun _ => ?_))
   | exact ih0 _ _ _ _ _ _ _ _ _
   | exact ih1 _ _ _ _ _ _ _ _ _ _ _
   | exact LeO.none _
   | refine LeO.ite ?_ ?_
   | refine LeO.bind ?_ (fun _ => ?_)
theorem thrumlaw14_LinearTells.mono : ∀ a0 a1 a2 a3 a4 a5 a6 k, LeO (thrumlaw14_LinearTells.f k a0 a1 a2 a3 a4 a5 a6) (thrumlaw14_LinearTells.f (k + 1) a0 a1 a2 a3 a4 a5 a6) := by
 intro a0 a1 a2 a3 a4 a5 a6 k
 obtain ⟨ih0, ih1⟩ := thrumlaw14_LinearTells.mono_l k
 unfold thrumlaw14_LinearTells.f
 repeat' first
   | (with_reducible exact ih0 _ _ _ _ _ _ _ _ _)
   | (with_reducible exact ih1 _ _ _ _ _ _ _ _ _ _ _)
   | (with_reducible exact LeO.refl _)
   | (with_reducible exact LeO.none _)
   | (with_reducible refine LeO.ite ?_ ?_)
   | (with_reducible refine LeO.bind ?_ (fun _ => ?_))
   | exact ih0 _ _ _ _ _ _ _ _ _
   | exact ih1 _ _ _ _ _ _ _ _ _ _ _
   | exact LeO.none _
   | refine LeO.ite ?_ ?_
   | refine LeO.bind ?_ (fun _ => ?_)
def thrumlaw14_LinearTells.T20 : Bool × List (List Nat × List Nat) := (true, [([], []), ([0], [0]), ([1], [1]), ([1], [1]), ([2, 3, 1], [1, 2, 3]), ([1, 4], [1, 4]), ([5, 1], [5]), ([6], [6]), ([6], [6]), ([7, 8, 6], [6, 7, 8]), ([6, 9], [6, 9]), ([10, 6], [10]), ([11], [11]), ([11], [11]), ([12, 13, 11], [11, 12, 13]), ([11, 14], [11, 14]), ([15, 11], [15]), ([16], [16]), ([16], [16]), ([17, 18, 16], [16, 17, 18]), ([16, 19], [16, 19]), ([20, 16], [20]), ([21], [21]), ([21], [21]), ([22, 23, 21, 21], [21, 22, 23]), ([21, 24], [21, 24]), ([25, 24], [25]), ([26], [26]), ([26], [26]), ([27, 28, 26], [26, 27, 28]), ([26, 29], [26, 29]), ([30, 26], [30]), ([31], [31]), ([31], [31]), ([32, 33, 31], [31, 32, 33]), ([31, 34], [31, 34]), ([35, 31], [35]), ([36], [36]), ([36], [36]), ([37, 38, 36], [36, 37, 38]), ([36, 39], [36, 39]), ([40, 36], [40]), ([41], [41]), ([41], [41]), ([41], [41]), ([44, 41], [41, 44]), ([42, 43, 45, 41, 41], [41, 42, 43, 45]), ([41], [41]), ([41], [41]), ([41], [41]), ([49, 41], [41, 49]), ([47, 48, 50, 46, 41], [41, 47, 48, 50]), ([46, 51, 41], [41, 46, 51]), ([41, 52], [41, 52]), ([53, 51, 0, 1, 2, 3, 4, 5, 6, 7, 8, 9, 10, 11, 12, 13, 14, 15, 16, 17, 18, 19, 20, 21, 22, 23, 24, 25, 26, 27, 28, 29, 30, 31, 32, 33, 34, 35, 36, 37, 38, 39, 40, 41, 42, 43, 44, 45, 46, 47, 48, 49, 50, 51, 52, 53], [53])])
def thrumlaw14_LinearTells.B20 : List Nat := [0, 1, 3, 3, 15, 31, 63, 127, 127, 511, 1023, 2047, 4095, 4095, 16383, 32767, 65535, 131071, 131071, 524287, 1048575, 2097151, 4194303, 4194303, 16777215, 33554431, 67108863, 134217727, 134217727, 536870911, 1073741823, 2147483647, 4294967295, 4294967295, 17179869183, 34359738367, 68719476735, 137438953471, 137438953471, 549755813887, 1099511627775, 2199023255551, 4398046511103, 4398046511103, 4398046511103, 21990232555519, 70368744177663, 4398046511103, 4398046511103, 4398046511103, 567347999932415, 2251799813685247, 4503599627370495, 9007199254740991, 18014398509481983]
theorem thrumlaw14_LinearTells.tab20 : rtab .any (opsOf Try.f12 20) = thrumlaw14_LinearTells.T20 := by kernel_rfl
theorem thrumlaw14_LinearTells.bits20 : waitsOk thrumlaw14_LinearTells.T20.2 thrumlaw14_LinearTells.B20 = true := by kernel_rfl
set_option maxHeartbeats 80000000 in
set_option maxRecDepth 100000 in
theorem thrumlaw14_LinearTells.calls (k : Nat) (a0 : Int) (A1 : Option Addr) (c1 : Nat) (l1 : List Int) (P2_0_ : Nat → Prop) (A2_0 : Option Addr) (c2_0 : Nat) (l2_0 : List Int) (a2_1 : Int) (a3 : Int) (a4 : Int) (A5 : Option Addr) (c5 : Nat) (l5 : List (List Int)) (r : Bool) (w : World) (hr1 : Kd.C (Kd.int .i64) w A1 l1.length l1) (hc1 : l1.length ≤ c1) (hs2_0 : Kd.V (Kd.int .i64) 2 w w.heap.size (fun k_ => P2_0_ k_) (.slice A2_0 l2_0.length c2_0) l2_0) (hr5 : Kd.C (Kd.slice 2 (Kd.int .i64)) w A5 l5.length l5) (hc5 : l5.length ≤ c5) (h : thrumlaw14_LinearTells.f k a0 l1 l2_0 a2_1 a3 a4 l5 = some r) (hr_ : r = true) :
  Calls Try.prog 12 #[.int .i64 a0, .slice A1 l1.length c1, .agg #[.slice A2_0 l2_0.length c2_0, .int .i64 a2_1], .int .i64 a3, .int .i64 a4, .slice A5 l5.length c5] w fun e w' => e = .returned (.bool r) ∧ Below w.heap.size w w' := by
 have HR_ := Aside0.mk hr_
 clear hr_
 have hu26 := Try.underlying26
 have HR1 := Aside0.mk hr1
 have HC1 := Aside0.mk hc1
 clear hr1 hc1
 have HO2_0 := Aside0.mk (show Kd.V (Kd.int .i64) 2 w w.heap.size (fun k_ => (P2_0_ k_ ∨ w.heap.size ≤ k_)) (.slice A2_0 l2_0.length c2_0) l2_0 from Kd.V_mono hs2_0 (fun k_ hk => .inl hk))
 have HR5 := Aside0.mk hr5
 have HC5 := Aside0.mk hc5
 clear hr5 hc5
 have HB := Aside0.mk (Below.refl w.heap.size w)
 have H : ((thrumlaw14_live.f).bind fun t240 => (if t240 = true then ((thrumref14_Few.f l1 (([(⟨l2_0, a2_1⟩ : S26)] : List (S26)))).bind fun t244 => (if t244 = true then (thrumlaw14_LinearTells.j0 k a0 l1 a3 a4 l5 t240 (decide ((l5.length : Int) > 100)) l2_0 a2_1) else (thrumlaw14_LinearTells.j0 k a0 l1 a3 a4 l5 t240 true l2_0 a2_1))) else (some false))) = some r := h
 clear h
 replace H := Option.bind_eq_some_iff.mp H
 obtain ⟨t240, A70, H⟩ := H
 replace H : (if t240 = true then ((thrumref14_Few.f l1 (([(⟨l2_0, a2_1⟩ : S26)] : List (S26)))).bind fun t244 => (if t244 = true then (thrumlaw14_LinearTells.j0 k a0 l1 a3 a4 l5 t240 (decide ((l5.length : Int) > 100)) l2_0 a2_1) else (thrumlaw14_LinearTells.j0 k a0 l1 a3 a4 l5 t240 true l2_0 a2_1))) else (some false)) = some r := H
 have A7 := Aside0.mk A70
 clear A70
 by_cases c8 : t240 = true
 ·
  subst c8
  have H1 : ((thrumref14_Few.f l1 (([(⟨l2_0, a2_1⟩ : S26)] : List (S26)))).bind fun t244 => (if t244 = true then (thrumlaw14_LinearTells.j0 k a0 l1 a3 a4 l5 true (decide ((l5.length : Int) > 100)) l2_0 a2_1) else (thrumlaw14_LinearTells.j0 k a0 l1 a3 a4 l5 true true l2_0 a2_1))) = some r := by rw [if_pos rfl] at H; exact H
  clear H
  have H := H1
  clear H1
  have HC9 := Aside0.mk H
  clear H
  go_enter Try.func12, Try.ntmps12
  go_upto_region 4 with (first | ((with_reducible refine gate_dst (N := 8) rfl ?_); (try (refine gate_guard (by rfl) ?_; dsimp only)); refine box_event ?hg (N := 8) ?hd (cs := #[.slice A2_0 l2_0.length c2_0, .int .i64 a2_1]) (t := 26) ?hr ?_; (case hd => rfl); (case hg => rfl); (case hr => first | (go_simp; done) | (go_simp; rfl)); intro gb239 hg w10 hbox hb; have n0_ := Aside0.mk (Kd.V_below (Kd.V_elderB (by (with_reducible repeat (first | apply Kd.V_alloc | apply Kd.V_drewN | apply Kd.V_drew)); exact HO2_0.out) gb239 (Nat.le_of_eq hg.symm)) hb); have n1_ := Aside0.mk (zzT (by repeat (first | (with_reducible first | exact HB.out | apply zzA | apply zzN | apply zzD) | exact HB.out)) hb); have n2_ := Aside0.mk (hbox); have n3_ := Aside0.mk ((by rw [hg]; exact (zzS (by repeat (first | (with_reducible first | exact HB.out | apply zzA | apply zzN | apply zzD) | exact HB.out))) : w.heap.size ≤ gb239)); have n4_ := Aside0.mk ((by rw [hg]; exact (zzS (by repeat (first | (with_reducible first | exact HB.out | apply zzA | apply zzN | apply zzD) | exact HB.out))) : w.heap.size ≤ gb239)); clear HO2_0; clear HB; have HO2_0 := n0_; have HB := n1_; have BK239 := n2_; have GW239 := n3_; have GE239 := n4_; clear n0_ n1_ n2_ n3_ n4_; clear hb hbox hg) | ((with_reducible refine gate_callee (f := 61) rfl ?_); refine goesL_ (some 32) rfl rfl Try.func61 (by kernel_rfl) rfl #[] rfl (by (try simp only [List.map_toArray, List.map_cons, List.map_nil]); first | done | rfl | (simp only [List.length_drop, List.length_take]; rfl)) ?_; (with_reducible refine (thrumlaw14_live.calls  true _ A7.out).mono ?_); rintro e w11 ⟨rfl, hb⟩; refine ⟨_, rfl, ?_⟩; have n0_ := Aside0.mk (Kd.V_below (by (with_reducible repeat (first | apply Kd.V_alloc | apply Kd.V_drewN | apply Kd.V_drew)); exact HO2_0.out) hb); have n1_ := Aside0.mk (blk_below (g := gb239) (o := .cells #[.slice A2_0 l2_0.length c2_0, .int .i64 a2_1] 26 (0, 0)) (by (with_reducible repeat (first | refine kkN ?_ _ | refine kkD ?_ | refine kkA ?_ _)); exact BK239.out) hb); have n2_ := Aside0.mk (zzT (by repeat (first | (with_reducible first | exact HB.out | apply zzA | apply zzN | apply zzD | refine below_set ?_ GE239.out) | exact HB.out)) hb); clear HO2_0; clear BK239; clear HB; have HO2_0 := n0_; have BK239 := n1_; have HB := n2_; clear n0_ n1_ n2_; (try clear hb); (try clear hb2); (try clear hk); (try clear hi)))
  (try simp only [Act.put, List.setIfInBounds_toArray, List.set_cons_zero, List.set_cons_succ])
  go_cut [44] (fun v44 wc => ∃ (kq : Nat) (x44_8 : Bool), v44 = .bool x44_8 ∧ Aside0 (thrumlaw14_LinearTells.j0 kq a0 l1 a3 a4 l5 true x44_8 l2_0 a2_1 = some r) ∧ Aside0 (kq ≤ k) ∧ Aside0 (Kd.V (Kd.int .i64) 2 wc w.heap.size (fun k_ => (P2_0_ k_ ∨ w.heap.size ≤ k_) ∧ k_ ≠ gb239) (.slice A2_0 l2_0.length c2_0) l2_0) ∧ Aside0 (wc.heap[gb239]? = some (.cells #[(.slice A2_0 l2_0.length c2_0), .int .i64 a2_1] 26 (0, 0))) ∧ Aside0 (Below w.heap.size w wc))
  case first =>
   have H := HC9.out
   clear HC9
   obtain ⟨y241, hy241⟩ : ∃ y_ : List (S26), y_ = (([(⟨l2_0, a2_1⟩ : S26)] : List (S26))) := ⟨_, rfl⟩
   replace H : ((thrumref14_Few.f l1 y241).bind fun t244 => (if t244 = true then (thrumlaw14_LinearTells.j0 k a0 l1 a3 a4 l5 true (decide ((l5.length : Int) > 100)) l2_0 a2_1) else (thrumlaw14_LinearTells.j0 k a0 l1 a3 a4 l5 true true l2_0 a2_1))) = some r := by first | (rw [hy241]; with_reducible exact H) | (have H2_ := (Option.bind_some _ _).symm.trans H; rw [hy241]; with_reducible exact H2_) | (have H2_ := (Option.bind_some _ _).symm.trans H; with_reducible exact H2_) | with_reducible exact H | (rw [hy241]; exact H) | exact H
   have Ny241 := Aside0.mk hy241
   clear hy241
   replace H := Option.bind_eq_some_iff.mp H
   obtain ⟨t244, A120, H⟩ := H
   replace H : (if t244 = true then (thrumlaw14_LinearTells.j0 k a0 l1 a3 a4 l5 true (decide ((l5.length : Int) > 100)) l2_0 a2_1) else (thrumlaw14_LinearTells.j0 k a0 l1 a3 a4 l5 true true l2_0 a2_1)) = some r := H
   have A12 := Aside0.mk A120
   clear A120
   by_cases c13 : t244 = true
   ·
    subst c13
    have H1 : (thrumlaw14_LinearTells.j0 k a0 l1 a3 a4 l5 true (decide ((l5.length : Int) > 100)) l2_0 a2_1) = some r := by rw [if_pos rfl] at H; exact H
    clear H
    have H := H1
    clear H1
    as_aux_lemma =>
     have H' := Aside0.mk H
     clear H
     have hcz14_0 : w11.cell? ⟨gb239, 0, none⟩ = some (.slice A2_0 l2_0.length c2_0) := (blk_cell BK239.out 0).trans rfl
     have hcz14_1 : w11.cell? ⟨gb239, 1, none⟩ = some (.int .i64 a2_1) := (blk_cell BK239.out 1).trans rfl
     have hfz14_0 := blk_frozen BK239.out 0
     have hfz14_1 := blk_frozen BK239.out 1
     go_wp2_with (first | ((with_reducible refine gate_dst (N := 37) rfl ?_); (try (refine gate_guard (by rfl) ?_; dsimp only)); refine Kd.N_lit k26 _ 26 ?hg (N' := 37) ?hd (xs := ([(⟨l2_0, a2_1⟩ : S26)] : List (S26))) (inner := [.slice A2_0 l2_0.length c2_0, .int .i64 a2_1]) (ok := (fun k_ => (P2_0_ k_ ∨ w.heap.size ≤ k_) ∧ k_ ≠ gb239)) (okp := (fun k_ => (P2_0_ k_ ∨ w.heap.size ≤ k_) ∧ k_ ≠ gb239)) ?hr ?hp (fun _ hk => hk) ((show ∀ k_, w11.heap.size ≤ k_ → (fun k_ => (P2_0_ k_ ∨ w.heap.size ≤ k_) ∧ k_ ≠ gb239) k_ from fun k_ hk => ⟨(.inr (Nat.le_trans (zzS (by repeat (first | (with_reducible first | exact HB.out | apply zzA | apply zzN | apply zzD | refine below_set ?_ GE239.out) | exact HB.out))) hk)), Kd.freshB (g := gb239) (o := .cells #[.slice A2_0 l2_0.length c2_0, .int .i64 a2_1] 26 (0, 0)) (by (with_reducible repeat (first | refine kkN ?_ _ | refine kkD ?_ | refine kkA ?_ _)); exact BK239.out) k_ hk⟩) _ (Nat.le_refl _)) (Below.refl _ _) (Nat.le_refl _) (by simp) ?_; (case hd => rfl); (case hg => rfl); (case hr => first | (go_simp; done) | (go_simp; rfl)); (case hp => exact (Reps.c2 (show Kd.FK k26 _ _ (⟨l2_0, a2_1⟩ : S26) [.slice A2_0 l2_0.length c2_0, .int .i64 a2_1] from (k26_mkF _ _ (⟨l2_0, a2_1⟩ : S26) (Kd.V_reads' (e := 2) (base := w.heap.size) (Kd.V_mono (ok' := (fun k_ => (P2_0_ k_ ∨ w.heap.size ≤ k_) ∧ k_ ≠ gb239)) (HO2_0.out) (fun k_ hk => by first | exact ⟨hk.1, hk.2⟩ | ((repeat' apply And.intro) <;> first | exact hk | exact trivial | exact hk.1 | exact hk.2 | exact hk.1.1 | exact hk.1.2 | exact hk.2.1 | exact hk.2.2 | exact hk.1.1.1 | exact hk.1.1.2 | exact hk.1.2.1 | exact hk.1.2.2 | exact hk.2.1.1 | exact hk.2.1.2 | exact hk.2.2.1 | exact hk.2.2.2 | exact hk.1.1.1.1 | exact hk.1.1.1.2 | grind)))).2.1 (Kd.V_F (e := 2) (base := w.heap.size) (Kd.V_mono (ok' := (fun k_ => (P2_0_ k_ ∨ w.heap.size ≤ k_) ∧ k_ ≠ gb239)) (HO2_0.out) (fun k_ hk => by first | exact ⟨hk.1, hk.2⟩ | ((repeat' apply And.intro) <;> first | exact hk | exact trivial | exact hk.1 | exact hk.2 | exact hk.1.1 | exact hk.1.2 | exact hk.2.1 | exact hk.2.2 | exact hk.1.1.1 | exact hk.1.1.2 | exact hk.1.2.1 | exact hk.1.2.2 | exact hk.2.1.1 | exact hk.2.1.2 | exact hk.2.2.1 | exact hk.2.2.2 | exact hk.1.1.1.1 | exact hk.1.1.1.2 | grind)))))) (Reps.none _ _))); intro v242 w15 ho16 hb hg_ hnew_; clear hg_ hnew_; (first | rw [← Ny241.out] at ho16 | (simp only [Int.reduceToNat] at ho16; rw [← Ny241.out] at ho16)); have n0_ := Aside0.mk (Kd.V_elder' (by (with_reducible repeat (first | apply Kd.V_alloc | apply Kd.V_drewN | apply Kd.V_drew)); exact HO2_0.out) (Kd.N_base ho16) hb); have n1_ := Aside0.mk (Kd.N_lower ho16 (zzS (by repeat (first | (with_reducible first | exact HB.out | apply zzA | apply zzN | apply zzD | refine below_set ?_ GE239.out) | exact HB.out)))); have n2_ := Aside0.mk (blk_below (g := gb239) (o := .cells #[.slice A2_0 l2_0.length c2_0, .int .i64 a2_1] 26 (0, 0)) (by (with_reducible repeat (first | refine kkN ?_ _ | refine kkD ?_ | refine kkA ?_ _)); exact BK239.out) hb); have n3_ := Aside0.mk (zzT (by repeat (first | (with_reducible first | exact HB.out | apply zzA | apply zzN | apply zzD | refine below_set ?_ GE239.out) | exact HB.out)) hb); clear HO2_0; clear BK239; clear HB; have HO2_0 := n0_; have HO243 := n1_; have BK239 := n2_; have HB := n3_; clear n0_ n1_ n2_ n3_; clear hb ho16; obtain ⟨Ao17, co17, eo17⟩ := Kd.N_slice HO243.out; subst eo17) | ((with_reducible refine gate_callee (f := 30) rfl ?_); refine goesL_ (some 38) rfl rfl Try.func30 (by kernel_rfl) rfl #[.slice A1 l1.length c1, .slice Ao17 y241.length co17] rfl (by (try simp only [List.map_toArray, List.map_cons, List.map_nil]); first | done | rfl | (simp only [List.length_drop, List.length_take]; rfl)) ?_; (with_reducible refine (thrumref14_Few.calls _ _ l1 _ _ y241 true _ ?side1 ?side2 ?side3 ?side4 A12.out).mono ?_); (case side1 => repeat (first | exact (Kd.C_below HR1.out HB.out) | (with_reducible refine ccA ?_ _) | (with_reducible refine ccN ?_ _) | (with_reducible refine ccD ?_))); (case side2 => exact HC1.out); (case side3 => repeat (first | exact (Kd.N_reads' HO243.out).2.2 | (with_reducible refine ccA ?_ _) | (with_reducible refine ccN ?_ _) | (with_reducible refine ccD ?_))); (case side4 => exact (Kd.N_reads' HO243.out).2.1); rintro e w18 ⟨rfl, hb⟩; refine ⟨_, rfl, ?_⟩; have n0_ := Aside0.mk (Kd.V_below (by (with_reducible repeat (first | apply Kd.V_alloc | apply Kd.V_drewN | apply Kd.V_drew)); exact HO2_0.out) hb); have n1_ := Aside0.mk (Kd.N_below (by (with_reducible repeat (first | apply Kd.N_alloc | apply Kd.N_drewN | apply Kd.N_drew)); exact HO243.out) hb); have n2_ := Aside0.mk (blk_below (g := gb239) (o := .cells #[.slice A2_0 l2_0.length c2_0, .int .i64 a2_1] 26 (0, 0)) (by (with_reducible repeat (first | refine kkN ?_ _ | refine kkD ?_ | refine kkA ?_ _)); exact BK239.out) hb); have n3_ := Aside0.mk (zzT (by repeat (first | (with_reducible first | exact HB.out | apply zzA | apply zzN | apply zzD | refine below_set ?_ GE239.out) | exact HB.out)) hb); clear HO2_0; clear HO243; clear BK239; clear HB; have HO2_0 := n0_; have HO243 := n1_; have BK239 := n2_; have HB := n3_; clear n0_ n1_ n2_ n3_; (try clear hb); (try clear hb2); (try clear hk); (try clear hi)))
     go_meet
     case rel => exact ⟨_, (decide ((l5.length : Int) > 100)), (by first | rfl | (simp; done) | (simp [*]; done)), H', ⟨by first | omega | exact Nat.le_refl _⟩, ⟨by (with_reducible repeat (first | apply Kd.V_alloc | apply Kd.V_drewN | apply Kd.V_drew)); exact Kd.V_mono HO2_0.out (fun k_ hk => by first | exact ⟨hk.1.1, hk.1.2⟩ | ((repeat' apply And.intro) <;> first | exact hk | exact trivial | exact hk.1 | exact hk.2 | exact hk.1.1 | exact hk.1.2 | exact hk.2.1 | exact hk.2.2 | exact hk.1.1.1 | exact hk.1.1.2 | exact hk.1.2.1 | exact hk.1.2.2 | exact hk.2.1.1 | exact hk.2.1.2 | exact hk.2.2.1 | exact hk.2.2.2 | exact hk.1.1.1.1 | exact hk.1.1.1.2 | grind))⟩, ⟨by (with_reducible repeat (first | refine kkN ?_ _ | refine kkD ?_ | refine kkA ?_ _)); exact BK239.out⟩, ⟨by repeat (first | (with_reducible first | exact HB.out | apply zzA | apply zzN | apply zzD | refine below_set ?_ GE239.out) | exact HB.out)⟩⟩
   ·
    replace c13 := Bool.eq_false_iff.mpr c13
    subst c13
    have H1 : (thrumlaw14_LinearTells.j0 k a0 l1 a3 a4 l5 true true l2_0 a2_1) = some r := by rw [if_neg (show ¬ (false = true) by decide)] at H; exact H
    clear H
    have H := H1
    clear H1
    as_aux_lemma =>
     have H' := Aside0.mk H
     clear H
     have hcz19_0 : w11.cell? ⟨gb239, 0, none⟩ = some (.slice A2_0 l2_0.length c2_0) := (blk_cell BK239.out 0).trans rfl
     have hcz19_1 : w11.cell? ⟨gb239, 1, none⟩ = some (.int .i64 a2_1) := (blk_cell BK239.out 1).trans rfl
     have hfz19_0 := blk_frozen BK239.out 0
     have hfz19_1 := blk_frozen BK239.out 1
     go_wp2_with (first | ((with_reducible refine gate_dst (N := 37) rfl ?_); (try (refine gate_guard (by rfl) ?_; dsimp only)); refine Kd.N_lit k26 _ 26 ?hg (N' := 37) ?hd (xs := ([(⟨l2_0, a2_1⟩ : S26)] : List (S26))) (inner := [.slice A2_0 l2_0.length c2_0, .int .i64 a2_1]) (ok := (fun k_ => (P2_0_ k_ ∨ w.heap.size ≤ k_) ∧ k_ ≠ gb239)) (okp := (fun k_ => (P2_0_ k_ ∨ w.heap.size ≤ k_) ∧ k_ ≠ gb239)) ?hr ?hp (fun _ hk => hk) ((show ∀ k_, w11.heap.size ≤ k_ → (fun k_ => (P2_0_ k_ ∨ w.heap.size ≤ k_) ∧ k_ ≠ gb239) k_ from fun k_ hk => ⟨(.inr (Nat.le_trans (zzS (by repeat (first | (with_reducible first | exact HB.out | apply zzA | apply zzN | apply zzD | refine below_set ?_ GE239.out) | exact HB.out))) hk)), Kd.freshB (g := gb239) (o := .cells #[.slice A2_0 l2_0.length c2_0, .int .i64 a2_1] 26 (0, 0)) (by (with_reducible repeat (first | refine kkN ?_ _ | refine kkD ?_ | refine kkA ?_ _)); exact BK239.out) k_ hk⟩) _ (Nat.le_refl _)) (Below.refl _ _) (Nat.le_refl _) (by simp) ?_; (case hd => rfl); (case hg => rfl); (case hr => first | (go_simp; done) | (go_simp; rfl)); (case hp => exact (Reps.c2 (show Kd.FK k26 _ _ (⟨l2_0, a2_1⟩ : S26) [.slice A2_0 l2_0.length c2_0, .int .i64 a2_1] from (k26_mkF _ _ (⟨l2_0, a2_1⟩ : S26) (Kd.V_reads' (e := 2) (base := w.heap.size) (Kd.V_mono (ok' := (fun k_ => (P2_0_ k_ ∨ w.heap.size ≤ k_) ∧ k_ ≠ gb239)) (HO2_0.out) (fun k_ hk => by first | exact ⟨hk.1, hk.2⟩ | ((repeat' apply And.intro) <;> first | exact hk | exact trivial | exact hk.1 | exact hk.2 | exact hk.1.1 | exact hk.1.2 | exact hk.2.1 | exact hk.2.2 | exact hk.1.1.1 | exact hk.1.1.2 | exact hk.1.2.1 | exact hk.1.2.2 | exact hk.2.1.1 | exact hk.2.1.2 | exact hk.2.2.1 | exact hk.2.2.2 | exact hk.1.1.1.1 | exact hk.1.1.1.2 | grind)))).2.1 (Kd.V_F (e := 2) (base := w.heap.size) (Kd.V_mono (ok' := (fun k_ => (P2_0_ k_ ∨ w.heap.size ≤ k_) ∧ k_ ≠ gb239)) (HO2_0.out) (fun k_ hk => by first | exact ⟨hk.1, hk.2⟩ | ((repeat' apply And.intro) <;> first | exact hk | exact trivial | exact hk.1 | exact hk.2 | exact hk.1.1 | exact hk.1.2 | exact hk.2.1 | exact hk.2.2 | exact hk.1.1.1 | exact hk.1.1.2 | exact hk.1.2.1 | exact hk.1.2.2 | exact hk.2.1.1 | exact hk.2.1.2 | exact hk.2.2.1 | exact hk.2.2.2 | exact hk.1.1.1.1 | exact hk.1.1.1.2 | grind)))))) (Reps.none _ _))); intro v242 w20 ho21 hb hg_ hnew_; clear hg_ hnew_; (first | rw [← Ny241.out] at ho21 | (simp only [Int.reduceToNat] at ho21; rw [← Ny241.out] at ho21)); have n0_ := Aside0.mk (Kd.V_elder' (by (with_reducible repeat (first | apply Kd.V_alloc | apply Kd.V_drewN | apply Kd.V_drew)); exact HO2_0.out) (Kd.N_base ho21) hb); have n1_ := Aside0.mk (Kd.N_lower ho21 (zzS (by repeat (first | (with_reducible first | exact HB.out | apply zzA | apply zzN | apply zzD | refine below_set ?_ GE239.out) | exact HB.out)))); have n2_ := Aside0.mk (blk_below (g := gb239) (o := .cells #[.slice A2_0 l2_0.length c2_0, .int .i64 a2_1] 26 (0, 0)) (by (with_reducible repeat (first | refine kkN ?_ _ | refine kkD ?_ | refine kkA ?_ _)); exact BK239.out) hb); have n3_ := Aside0.mk (zzT (by repeat (first | (with_reducible first | exact HB.out | apply zzA | apply zzN | apply zzD | refine below_set ?_ GE239.out) | exact HB.out)) hb); clear HO2_0; clear BK239; clear HB; have HO2_0 := n0_; have HO243 := n1_; have BK239 := n2_; have HB := n3_; clear n0_ n1_ n2_ n3_; clear hb ho21; obtain ⟨Ao22, co22, eo22⟩ := Kd.N_slice HO243.out; subst eo22) | ((with_reducible refine gate_callee (f := 30) rfl ?_); refine goesL_ (some 38) rfl rfl Try.func30 (by kernel_rfl) rfl #[.slice A1 l1.length c1, .slice Ao22 y241.length co22] rfl (by (try simp only [List.map_toArray, List.map_cons, List.map_nil]); first | done | rfl | (simp only [List.length_drop, List.length_take]; rfl)) ?_; (with_reducible refine (thrumref14_Few.calls _ _ l1 _ _ y241 false _ ?side1 ?side2 ?side3 ?side4 A12.out).mono ?_); (case side1 => repeat (first | exact (Kd.C_below HR1.out HB.out) | (with_reducible refine ccA ?_ _) | (with_reducible refine ccN ?_ _) | (with_reducible refine ccD ?_))); (case side2 => exact HC1.out); (case side3 => repeat (first | exact (Kd.N_reads' HO243.out).2.2 | (with_reducible refine ccA ?_ _) | (with_reducible refine ccN ?_ _) | (with_reducible refine ccD ?_))); (case side4 => exact (Kd.N_reads' HO243.out).2.1); rintro e w23 ⟨rfl, hb⟩; refine ⟨_, rfl, ?_⟩; have n0_ := Aside0.mk (Kd.V_below (by (with_reducible repeat (first | apply Kd.V_alloc | apply Kd.V_drewN | apply Kd.V_drew)); exact HO2_0.out) hb); have n1_ := Aside0.mk (Kd.N_below (by (with_reducible repeat (first | apply Kd.N_alloc | apply Kd.N_drewN | apply Kd.N_drew)); exact HO243.out) hb); have n2_ := Aside0.mk (blk_below (g := gb239) (o := .cells #[.slice A2_0 l2_0.length c2_0, .int .i64 a2_1] 26 (0, 0)) (by (with_reducible repeat (first | refine kkN ?_ _ | refine kkD ?_ | refine kkA ?_ _)); exact BK239.out) hb); have n3_ := Aside0.mk (zzT (by repeat (first | (with_reducible first | exact HB.out | apply zzA | apply zzN | apply zzD | refine below_set ?_ GE239.out) | exact HB.out)) hb); clear HO2_0; clear HO243; clear BK239; clear HB; have HO2_0 := n0_; have HO243 := n1_; have BK239 := n2_; have HB := n3_; clear n0_ n1_ n2_ n3_; (try clear hb); (try clear hb2); (try clear hk); (try clear hi)))
     go_meet
     case rel => exact ⟨_, (true), (by first | rfl | (simp; done) | (simp [*]; done)), H', ⟨by first | omega | exact Nat.le_refl _⟩, ⟨by (with_reducible repeat (first | apply Kd.V_alloc | apply Kd.V_drewN | apply Kd.V_drew)); exact Kd.V_mono HO2_0.out (fun k_ hk => by first | exact ⟨hk.1.1, hk.1.2⟩ | ((repeat' apply And.intro) <;> first | exact hk | exact trivial | exact hk.1 | exact hk.2 | exact hk.1.1 | exact hk.1.2 | exact hk.2.1 | exact hk.2.2 | exact hk.1.1.1 | exact hk.1.1.2 | exact hk.1.2.1 | exact hk.1.2.2 | exact hk.2.1.1 | exact hk.2.1.2 | exact hk.2.2.1 | exact hk.2.2.2 | exact hk.1.1.1.1 | exact hk.1.1.1.2 | grind))⟩, ⟨by (with_reducible repeat (first | refine kkN ?_ _ | refine kkD ?_ | refine kkA ?_ _)); exact BK239.out⟩, ⟨by repeat (first | (with_reducible first | exact HB.out | apply zzA | apply zzN | apply zzD | refine below_set ?_ GE239.out) | exact HB.out)⟩⟩
  case rest =>
   clear HC9
   try clear c1
   try clear c2
   try clear p2
   try clear c3
   try clear c5
   try clear c6
   try clear c8
   try clear c12
   try clear c13
   try clear hcz14_0
   try clear hcz14_1
   try clear hcz19_0
   try clear hcz19_1
   try clear hfz14_0
   try clear hfz14_1
   try clear hfz19_0
   try clear hfz19_1
   obtain ⟨kq, x44_8, rfl, HA, HJ8, HO_240000, BK239, HB⟩ := hcut
   cases kq with
   | zero => exact absurd HA.out (by simp [thrumlaw14_LinearTells.j0])
   | succ kj8 =>
    have H := HA.out
    clear HA
    simp only [thrumlaw14_LinearTells.j0] at H
    by_cases c24 : x44_8 = true
    ·
     subst c24
     have H1 : (some true) = some r := by rw [if_pos rfl] at H; exact H
     clear H
     have H := H1
     clear H1
     as_aux_lemma =>
      obtain rfl := Option.some.inj H
      go_wp2
      go_ret
      exact ⟨by first | rfl | (simp [errW_none, errW_some] <;> rfl) | (simp [*, errW_none, errW_some] <;> rfl), by repeat (first | (with_reducible first | exact HB.out | apply zzA | apply zzN | apply zzD | refine below_set ?_ GE239.out) | exact HB.out)⟩
    ·
     replace c24 := Bool.eq_false_iff.mpr c24
     subst c24
     have H1 : (thrumlaw14_LinearTells.l0 kj8 a0 l1 a3 a4 l5 true l5 (l5.length : Int) 0 l2_0 a2_1) = some r := by rw [if_neg (show ¬ (false = true) by decide)] at H; exact H
     clear H
     have H := H1
     clear H1
     have H' := Aside0.mk H
     clear H
     go_wp2
     go_loopg [48] kj8 (fun kq v48 w' => ∃ (x48_2 : Int), v48 = .int .i64 x48_2 ∧ Aside0 (thrumlaw14_LinearTells.l0 kq a0 l1 a3 a4 l5 true l5 (l5.length : Int) x48_2 l2_0 a2_1 = some r) ∧ Aside0 (kq ≤ kj8) ∧ Aside0 (Kd.V (Kd.int .i64) 2 w' w.heap.size (fun k_ => (P2_0_ k_ ∨ w.heap.size ≤ k_) ∧ k_ ≠ gb239) (.slice A2_0 l2_0.length c2_0) l2_0) ∧ Aside0 (w'.heap[gb239]? = some (.cells #[(.slice A2_0 l2_0.length c2_0), .int .i64 a2_1] 26 (0, 0))) ∧ Aside0 (Below w.heap.size w w'))
     case atStart => exact ⟨(0), (by first | rfl | (simp; done) | (simp [*]; done)), H', ⟨Nat.le_refl _⟩, ⟨by (with_reducible repeat (first | apply Kd.V_alloc | apply Kd.V_drewN | apply Kd.V_drew)); exact HO_240000.out⟩, ⟨by (with_reducible repeat (first | refine kkN ?_ _ | refine kkD ?_ | refine kkA ?_ _)); exact BK239.out⟩, ⟨by repeat (first | (with_reducible first | exact HB.out | apply zzA | apply zzN | apply zzD | refine below_set ?_ GE239.out) | exact HB.out)⟩⟩
     case round =>
      clear H'
      try clear c1
      try clear c2
      try clear p2
      try clear c3
      try clear c5
      try clear c6
      try clear c8
      try clear c12
      try clear c13
      try clear c24
      try clear hcz14_0
      try clear hcz14_1
      try clear hcz19_0
      try clear hcz19_1
      try clear hfz14_0
      try clear hfz14_1
      try clear hfz19_0
      try clear hfz19_1
      try clear p2
      obtain ⟨x48_2, rfl, HA, HK2, HO_240000, BK239, HB⟩ := hrel
      cases gk with
      | zero => exact absurd HA.out (by simp [thrumlaw14_LinearTells.l0])
      | succ k2 =>
       have H := HA.out
       clear HA
       simp only [thrumlaw14_LinearTells.l0] at H
       by_cases c25 : x48_2 < (l5.length : Int)
       ·
        rw [if_pos c25] at H
        have c25b0 : decide (x48_2 < (l5.length : Int)) = true := decide_eq_true c25
        clear c25
        by_cases c26 : 0 ≤ x48_2
        ·
         rw [if_pos c26] at H
         have c26b0 : decide (0 ≤ x48_2) = true := decide_eq_true c26
         clear c26
         by_cases c27 : x48_2 < (l5.length : Int)
         ·
          rw [if_pos c27] at H
          have c27b0 : decide (x48_2 < (l5.length : Int)) = true := decide_eq_true c27
          clear c27
          by_cases c28 : ((rd_L1 l5 x48_2).length : Int) > 500
          ·
           rw [if_pos c28] at H
           have c28b0 : decide (500 < ((rd_L1 l5 x48_2).length : Int)) = true := decide_eq_true c28
           have c28b1 : decide (500 < (rd_L1 l5 x48_2).length) = true := decide_eq_true (by omega)
           clear c28
           as_aux_lemma =>
            obtain rfl := Option.some.inj H
            have p245 : 0 ≤ (x48_2 : Int) := of_decide_eq_true (by first | (with_reducible assumption) | assumption)
            have q245 : x48_2 < (l5.length : Int) := of_decide_eq_true (by first | (with_reducible assumption) | assumption)
            obtain ⟨ad245, A245_0, c245_0, e245, hx245_0, hl245_0, hi245_0⟩ := at_L1 HR5.out x48_2 p245 q245
            cases e245
            replace hx245_0 := (HB.out.cell (World.block_lt_of_cell? w _ hx245_0)).trans hx245_0
            have HR245_0 := Aside0.mk hi245_0
            have HC245_0 := Aside0.mk hl245_0
            clear hi245_0 hl245_0
            replace p245 := eq_true p245
            replace q245 := eq_true q245
            go_wp2
            go_ret
            exact ⟨by first | rfl | (simp [errW_none, errW_some] <;> rfl) | (simp [*, errW_none, errW_some] <;> rfl), by repeat (first | (with_reducible first | exact HB.out | apply zzA | apply zzN | apply zzD | refine below_set ?_ GE239.out) | exact HB.out)⟩
          ·
           rw [if_neg c28] at H
           have c28b0 : decide (500 < ((rd_L1 l5 x48_2).length : Int)) = false := decide_eq_false c28
           have c28b1 : decide (500 < (rd_L1 l5 x48_2).length) = false := decide_eq_false (by omega)
           clear c28
           as_aux_lemma =>
            have H' := Aside0.mk H
            clear H
            have p245 : 0 ≤ (x48_2 : Int) := of_decide_eq_true (by first | (with_reducible assumption) | assumption)
            have q245 : x48_2 < (l5.length : Int) := of_decide_eq_true (by first | (with_reducible assumption) | assumption)
            obtain ⟨ad245, A245_0, c245_0, e245, hx245_0, hl245_0, hi245_0⟩ := at_L1 HR5.out x48_2 p245 q245
            cases e245
            replace hx245_0 := (HB.out.cell (World.block_lt_of_cell? w _ hx245_0)).trans hx245_0
            have HR245_0 := Aside0.mk hi245_0
            have HC245_0 := Aside0.mk hl245_0
            clear hi245_0 hl245_0
            replace p245 := eq_true p245
            replace q245 := eq_true q245
            go_wp2
            go_roundg k2
            case measure => have := HJ8.out; have := HK2.out; omega
            case rel => exact ⟨(wrap64 (x48_2 + 1)), (by first | rfl | (simp; done) | (simp [*]; done)), H', ⟨by have := HJ8.out; have := HK2.out; omega⟩, ⟨by (with_reducible repeat (first | apply Kd.V_alloc | apply Kd.V_drewN | apply Kd.V_drew)); exact HO_240000.out⟩, ⟨by (with_reducible repeat (first | refine kkN ?_ _ | refine kkD ?_ | refine kkA ?_ _)); exact BK239.out⟩, ⟨by repeat (first | (with_reducible first | exact HB.out | apply zzA | apply zzN | apply zzD | refine below_set ?_ GE239.out) | exact HB.out)⟩⟩
         ·
          rw [if_neg c27] at H
          exact absurd H (by simp)
        ·
         rw [if_neg c26] at H
         exact absurd H (by simp)
       ·
        rw [if_neg c25] at H
        have c25b0 : decide (x48_2 < (l5.length : Int)) = false := decide_eq_false c25
        clear c25
        replace H := Option.bind_eq_some_iff.mp H
        obtain ⟨⟨t246, t247⟩, A290, H⟩ := H
        replace H : ((thrumref14_Tell.f l1 l2_0 a3).bind fun bt248 => ((linear_Off.f l1 l2_0 a2_1 a3).bind fun bt250 => ((thrumref14_Off.f l1 l2_0 a2_1 a3).bind fun bt252 => ((linear_Mean.f a4 l5).bind fun bt254 => ((thrumref14_Mean.f a4 l5).bind fun bt258 => ((linear_Dim.f a0).bind fun bt262 => ((thrumref14_Dim.f a0).bind fun bt264 => (if true = true then (if t246 = bt248.1 then (if t247 = bt248.2 then (if bt250.1 = bt252.1 then (if bt250.2 = bt252.2 then ((thrumref02_Same.f bt254.1 bt258.1).bind fun t266 => (if t266 = true then (if bt254.2 = bt258.2 then (if bt262.1 = bt264.1 then (if bt262.2 = bt264.2 then ((linear_Check.f a0 l1 (([(⟨l2_0, a2_1⟩ : S26)] : List (S26)))).bind fun t270 => ((thrumref14_Check.f a0 l1 (([(⟨l2_0, a2_1⟩ : S26)] : List (S26)))).bind fun t274 => (some (t270 == t274)))) else (some false)) else (some false)) else (some false)) else (some false))) else (some false)) else (some false)) else (some false)) else (some false)) else (some false))))))))) = some r := H
        have A29 := Aside0.mk A290
        clear A290
        replace H := Option.bind_eq_some_iff.mp H
        obtain ⟨⟨t248, t249⟩, A300, H⟩ := H
        replace H : ((linear_Off.f l1 l2_0 a2_1 a3).bind fun bt250 => ((thrumref14_Off.f l1 l2_0 a2_1 a3).bind fun bt252 => ((linear_Mean.f a4 l5).bind fun bt254 => ((thrumref14_Mean.f a4 l5).bind fun bt258 => ((linear_Dim.f a0).bind fun bt262 => ((thrumref14_Dim.f a0).bind fun bt264 => (if true = true then (if t246 = t248 then (if t247 = t249 then (if bt250.1 = bt252.1 then (if bt250.2 = bt252.2 then ((thrumref02_Same.f bt254.1 bt258.1).bind fun t266 => (if t266 = true then (if bt254.2 = bt258.2 then (if bt262.1 = bt264.1 then (if bt262.2 = bt264.2 then ((linear_Check.f a0 l1 (([(⟨l2_0, a2_1⟩ : S26)] : List (S26)))).bind fun t270 => ((thrumref14_Check.f a0 l1 (([(⟨l2_0, a2_1⟩ : S26)] : List (S26)))).bind fun t274 => (some (t270 == t274)))) else (some false)) else (some false)) else (some false)) else (some false))) else (some false)) else (some false)) else (some false)) else (some false)) else (some false)))))))) = some r := H
        have A30 := Aside0.mk A300
        clear A300
        replace H := Option.bind_eq_some_iff.mp H
        obtain ⟨⟨t250, t251⟩, A310, H⟩ := H
        replace H : ((thrumref14_Off.f l1 l2_0 a2_1 a3).bind fun bt252 => ((linear_Mean.f a4 l5).bind fun bt254 => ((thrumref14_Mean.f a4 l5).bind fun bt258 => ((linear_Dim.f a0).bind fun bt262 => ((thrumref14_Dim.f a0).bind fun bt264 => (if true = true then (if t246 = t248 then (if t247 = t249 then (if t250 = bt252.1 then (if t251 = bt252.2 then ((thrumref02_Same.f bt254.1 bt258.1).bind fun t266 => (if t266 = true then (if bt254.2 = bt258.2 then (if bt262.1 = bt264.1 then (if bt262.2 = bt264.2 then ((linear_Check.f a0 l1 (([(⟨l2_0, a2_1⟩ : S26)] : List (S26)))).bind fun t270 => ((thrumref14_Check.f a0 l1 (([(⟨l2_0, a2_1⟩ : S26)] : List (S26)))).bind fun t274 => (some (t270 == t274)))) else (some false)) else (some false)) else (some false)) else (some false))) else (some false)) else (some false)) else (some false)) else (some false)) else (some false))))))) = some r := H
        have A31 := Aside0.mk A310
        clear A310
        replace H := Option.bind_eq_some_iff.mp H
        obtain ⟨⟨t252, t253⟩, A320, H⟩ := H
        replace H : ((linear_Mean.f a4 l5).bind fun bt254 => ((thrumref14_Mean.f a4 l5).bind fun bt258 => ((linear_Dim.f a0).bind fun bt262 => ((thrumref14_Dim.f a0).bind fun bt264 => (if true = true then (if t246 = t248 then (if t247 = t249 then (if t250 = t252 then (if t251 = t253 then ((thrumref02_Same.f bt254.1 bt258.1).bind fun t266 => (if t266 = true then (if bt254.2 = bt258.2 then (if bt262.1 = bt264.1 then (if bt262.2 = bt264.2 then ((linear_Check.f a0 l1 (([(⟨l2_0, a2_1⟩ : S26)] : List (S26)))).bind fun t270 => ((thrumref14_Check.f a0 l1 (([(⟨l2_0, a2_1⟩ : S26)] : List (S26)))).bind fun t274 => (some (t270 == t274)))) else (some false)) else (some false)) else (some false)) else (some false))) else (some false)) else (some false)) else (some false)) else (some false)) else (some false)))))) = some r := H
        have A32 := Aside0.mk A320
        clear A320
        replace H := Option.bind_eq_some_iff.mp H
        obtain ⟨⟨t254, t255⟩, A330, H⟩ := H
        replace H : ((thrumref14_Mean.f a4 l5).bind fun bt258 => ((linear_Dim.f a0).bind fun bt262 => ((thrumref14_Dim.f a0).bind fun bt264 => (if true = true then (if t246 = t248 then (if t247 = t249 then (if t250 = t252 then (if t251 = t253 then ((thrumref02_Same.f t254 bt258.1).bind fun t266 => (if t266 = true then (if t255 = bt258.2 then (if bt262.1 = bt264.1 then (if bt262.2 = bt264.2 then ((linear_Check.f a0 l1 (([(⟨l2_0, a2_1⟩ : S26)] : List (S26)))).bind fun t270 => ((thrumref14_Check.f a0 l1 (([(⟨l2_0, a2_1⟩ : S26)] : List (S26)))).bind fun t274 => (some (t270 == t274)))) else (some false)) else (some false)) else (some false)) else (some false))) else (some false)) else (some false)) else (some false)) else (some false)) else (some false))))) = some r := H
        have A33 := Aside0.mk A330
        clear A330
        replace H := Option.bind_eq_some_iff.mp H
        obtain ⟨⟨t258, t259⟩, A340, H⟩ := H
        replace H : ((linear_Dim.f a0).bind fun bt262 => ((thrumref14_Dim.f a0).bind fun bt264 => (if true = true then (if t246 = t248 then (if t247 = t249 then (if t250 = t252 then (if t251 = t253 then ((thrumref02_Same.f t254 t258).bind fun t266 => (if t266 = true then (if t255 = t259 then (if bt262.1 = bt264.1 then (if bt262.2 = bt264.2 then ((linear_Check.f a0 l1 (([(⟨l2_0, a2_1⟩ : S26)] : List (S26)))).bind fun t270 => ((thrumref14_Check.f a0 l1 (([(⟨l2_0, a2_1⟩ : S26)] : List (S26)))).bind fun t274 => (some (t270 == t274)))) else (some false)) else (some false)) else (some false)) else (some false))) else (some false)) else (some false)) else (some false)) else (some false)) else (some false)))) = some r := H
        have A34 := Aside0.mk A340
        clear A340
        replace H := Option.bind_eq_some_iff.mp H
        obtain ⟨⟨t262, t263⟩, A350, H⟩ := H
        replace H : ((thrumref14_Dim.f a0).bind fun bt264 => (if true = true then (if t246 = t248 then (if t247 = t249 then (if t250 = t252 then (if t251 = t253 then ((thrumref02_Same.f t254 t258).bind fun t266 => (if t266 = true then (if t255 = t259 then (if t262 = bt264.1 then (if t263 = bt264.2 then ((linear_Check.f a0 l1 (([(⟨l2_0, a2_1⟩ : S26)] : List (S26)))).bind fun t270 => ((thrumref14_Check.f a0 l1 (([(⟨l2_0, a2_1⟩ : S26)] : List (S26)))).bind fun t274 => (some (t270 == t274)))) else (some false)) else (some false)) else (some false)) else (some false))) else (some false)) else (some false)) else (some false)) else (some false)) else (some false))) = some r := H
        have A35 := Aside0.mk A350
        clear A350
        replace H := Option.bind_eq_some_iff.mp H
        obtain ⟨⟨t264, t265⟩, A360, H⟩ := H
        replace H : (if true = true then (if t246 = t248 then (if t247 = t249 then (if t250 = t252 then (if t251 = t253 then ((thrumref02_Same.f t254 t258).bind fun t266 => (if t266 = true then (if t255 = t259 then (if t262 = t264 then (if t263 = t265 then ((linear_Check.f a0 l1 (([(⟨l2_0, a2_1⟩ : S26)] : List (S26)))).bind fun t270 => ((thrumref14_Check.f a0 l1 (([(⟨l2_0, a2_1⟩ : S26)] : List (S26)))).bind fun t274 => (some (t270 == t274)))) else (some false)) else (some false)) else (some false)) else (some false))) else (some false)) else (some false)) else (some false)) else (some false)) else (some false)) = some r := H
        have A36 := Aside0.mk A360
        clear A360
        first | rw [if_pos rfl] at H | rw [if_pos trivial] at H
        by_cases c37 : t246 = t248
        ·
         rw [if_pos c37] at H
         have c37b0 : (t246 == t248) = true := beq_iff_eq.mpr c37
         have c37b1 : (t246 != t248) = false := bne_eq_false_iff_eq.mpr c37
         clear c37
         by_cases c38 : t247 = t249
         ·
          rw [if_pos c38] at H
          have c38b0 : (t247 == t249) = true := beq_iff_eq.mpr c38
          have c38b1 : (t247 != t249) = false := bne_eq_false_iff_eq.mpr c38
          clear c38
          by_cases c39 : t250 = t252
          ·
           rw [if_pos c39] at H
           have c39b0 : (t250 == t252) = true := beq_iff_eq.mpr c39
           have c39b1 : (t250 != t252) = false := bne_eq_false_iff_eq.mpr c39
           clear c39
           by_cases c40 : t251 = t253
           ·
            rw [if_pos c40] at H
            have c40b0 : (t251 == t253) = true := beq_iff_eq.mpr c40
            have c40b1 : (t251 != t253) = false := bne_eq_false_iff_eq.mpr c40
            clear c40
            replace H := Option.bind_eq_some_iff.mp H
            obtain ⟨t266, A410, H⟩ := H
            replace H : (if t266 = true then (if t255 = t259 then (if t262 = t264 then (if t263 = t265 then ((linear_Check.f a0 l1 (([(⟨l2_0, a2_1⟩ : S26)] : List (S26)))).bind fun t270 => ((thrumref14_Check.f a0 l1 (([(⟨l2_0, a2_1⟩ : S26)] : List (S26)))).bind fun t274 => (some (t270 == t274)))) else (some false)) else (some false)) else (some false)) else (some false)) = some r := H
            have A41 := Aside0.mk A410
            clear A410
            by_cases c42 : t266 = true
            ·
             subst c42
             have H1 : (if t255 = t259 then (if t262 = t264 then (if t263 = t265 then ((linear_Check.f a0 l1 (([(⟨l2_0, a2_1⟩ : S26)] : List (S26)))).bind fun t270 => ((thrumref14_Check.f a0 l1 (([(⟨l2_0, a2_1⟩ : S26)] : List (S26)))).bind fun t274 => (some (t270 == t274)))) else (some false)) else (some false)) else (some false)) = some r := by rw [if_pos rfl] at H; exact H
             clear H
             have H := H1
             clear H1
             by_cases c43 : t255 = t259
             ·
              rw [if_pos c43] at H
              have c43b0 : (t255 == t259) = true := beq_iff_eq.mpr c43
              have c43b1 : (t255 != t259) = false := bne_eq_false_iff_eq.mpr c43
              clear c43
              by_cases c44 : t262 = t264
              ·
               rw [if_pos c44] at H
               have c44b0 : (t262 == t264) = true := beq_iff_eq.mpr c44
               have c44b1 : (t262 != t264) = false := bne_eq_false_iff_eq.mpr c44
               clear c44
               by_cases c45 : t263 = t265
               ·
                rw [if_pos c45] at H
                have c45b0 : (t263 == t265) = true := beq_iff_eq.mpr c45
                have c45b1 : (t263 != t265) = false := bne_eq_false_iff_eq.mpr c45
                clear c45
                obtain ⟨y267, hy267⟩ : ∃ y_ : List (S26), y_ = (([(⟨l2_0, a2_1⟩ : S26)] : List (S26))) := ⟨_, rfl⟩
                replace H : ((linear_Check.f a0 l1 y267).bind fun t270 => ((thrumref14_Check.f a0 l1 (([(⟨l2_0, a2_1⟩ : S26)] : List (S26)))).bind fun t274 => (some (t270 == t274)))) = some r := by first | (rw [hy267]; with_reducible exact H) | (have H2_ := (Option.bind_some _ _).symm.trans H; rw [hy267]; with_reducible exact H2_) | (have H2_ := (Option.bind_some _ _).symm.trans H; with_reducible exact H2_) | with_reducible exact H | (rw [hy267]; exact H) | exact H
                have Ny267 := Aside0.mk hy267
                clear hy267
                replace H := Option.bind_eq_some_iff.mp H
                obtain ⟨t270, A460, H⟩ := H
                replace H : ((thrumref14_Check.f a0 l1 (([(⟨l2_0, a2_1⟩ : S26)] : List (S26)))).bind fun t274 => (some (t270 == t274))) = some r := H
                have A46 := Aside0.mk A460
                clear A460
                obtain ⟨y271, hy271⟩ : ∃ y_ : List (S26), y_ = (([(⟨l2_0, a2_1⟩ : S26)] : List (S26))) := ⟨_, rfl⟩
                replace H : ((thrumref14_Check.f a0 l1 y271).bind fun t274 => (some (t270 == t274))) = some r := by first | (rw [hy271]; with_reducible exact H) | (have H2_ := (Option.bind_some _ _).symm.trans H; rw [hy271]; with_reducible exact H2_) | (have H2_ := (Option.bind_some _ _).symm.trans H; with_reducible exact H2_) | with_reducible exact H | (rw [hy271]; exact H) | exact H
                have Ny271 := Aside0.mk hy271
                clear hy271
                replace H := Option.bind_eq_some_iff.mp H
                obtain ⟨t274, A470, H⟩ := H
                replace H : (some (t270 == t274)) = some r := H
                have A47 := Aside0.mk A470
                clear A470
                as_aux_lemma =>
                 obtain rfl := Option.some.inj H
                 have hcz48_0 : wr.cell? ⟨gb239, 0, none⟩ = some (.slice A2_0 l2_0.length c2_0) := (blk_cell BK239.out 0).trans rfl
                 have hcz48_1 : wr.cell? ⟨gb239, 1, none⟩ = some (.int .i64 a2_1) := (blk_cell BK239.out 1).trans rfl
                 have hfz48_0 := blk_frozen BK239.out 0
                 have hfz48_1 := blk_frozen BK239.out 1
                 try go_wp2_with (first | ((with_reducible refine gate_callee (f := 33) rfl ?_); refine goesL_ (some 62) rfl rfl Try.func33 (by kernel_rfl) rfl #[.slice A1 l1.length c1, .slice A2_0 l2_0.length c2_0, .int .i64 a3] rfl (by (try simp only [List.map_toArray, List.map_cons, List.map_nil]); first | done | rfl | (simp only [List.length_drop, List.length_take]; rfl)) ?_; (with_reducible refine (linear_Tell.calls _ _ l1 (fun k_ => ((P2_0_ k_ ∨ w.heap.size ≤ k_) ∧ k_ ≠ gb239)) _ _ l2_0 a3 t246 t247 _ ?side1 ?side2 ?side3 A29.out).mono ?_); (case side1 => repeat (first | exact (Kd.C_below HR1.out HB.out) | (with_reducible refine ccA ?_ _) | (with_reducible refine ccN ?_ _) | (with_reducible refine ccD ?_))); (case side2 => exact HC1.out); (case side3 => exact HO_240000.out); rintro e w49 ⟨rfl, hb⟩; refine ⟨_, rfl, ?_⟩; have n0_ := Aside0.mk (Kd.V_below (by (with_reducible repeat (first | apply Kd.V_alloc | apply Kd.V_drewN | apply Kd.V_drew)); exact HO_240000.out) hb); have n1_ := Aside0.mk (blk_below (g := gb239) (o := .cells #[.slice A2_0 l2_0.length c2_0, .int .i64 a2_1] 26 (0, 0)) (by (with_reducible repeat (first | refine kkN ?_ _ | refine kkD ?_ | refine kkA ?_ _)); exact BK239.out) hb); have n2_ := Aside0.mk (zzT (by repeat (first | (with_reducible first | exact HB.out | apply zzA | apply zzN | apply zzD | refine below_set ?_ GE239.out) | exact HB.out)) hb); clear HO_240000; clear BK239; clear HB; have HO_240000 := n0_; have BK239 := n1_; have HB := n2_; clear n0_ n1_ n2_; (try clear hb); (try clear hb2); (try clear hk); (try clear hi); have hcz50_0 : w49.cell? ⟨gb239, 0, none⟩ = some (.slice A2_0 l2_0.length c2_0) := (blk_cell BK239.out 0).trans rfl; have hcz50_1 : w49.cell? ⟨gb239, 1, none⟩ = some (.int .i64 a2_1) := (blk_cell BK239.out 1).trans rfl; have hfz50_0 := blk_frozen BK239.out 0; have hfz50_1 := blk_frozen BK239.out 1) | ((with_reducible refine gate_callee (f := 62) rfl ?_); refine goesL_ (some 70) rfl rfl Try.func62 (by kernel_rfl) rfl #[.slice A1 l1.length c1, .slice A2_0 l2_0.length c2_0, .int .i64 a3] rfl (by (try simp only [List.map_toArray, List.map_cons, List.map_nil]); first | done | rfl | (simp only [List.length_drop, List.length_take]; rfl)) ?_; (with_reducible refine (thrumref14_Tell.calls _ _ l1 (fun k_ => ((P2_0_ k_ ∨ w.heap.size ≤ k_) ∧ k_ ≠ gb239)) _ _ l2_0 a3 t248 t249 _ ?side1 ?side2 ?side3 A30.out).mono ?_); (case side1 => repeat (first | exact (Kd.C_below HR1.out HB.out) | (with_reducible refine ccA ?_ _) | (with_reducible refine ccN ?_ _) | (with_reducible refine ccD ?_))); (case side2 => exact HC1.out); (case side3 => exact HO_240000.out); rintro e w51 ⟨rfl, hb⟩; refine ⟨_, rfl, ?_⟩; have n0_ := Aside0.mk (Kd.V_below (by (with_reducible repeat (first | apply Kd.V_alloc | apply Kd.V_drewN | apply Kd.V_drew)); exact HO_240000.out) hb); have n1_ := Aside0.mk (blk_below (g := gb239) (o := .cells #[.slice A2_0 l2_0.length c2_0, .int .i64 a2_1] 26 (0, 0)) (by (with_reducible repeat (first | refine kkN ?_ _ | refine kkD ?_ | refine kkA ?_ _)); exact BK239.out) hb); have n2_ := Aside0.mk (zzT (by repeat (first | (with_reducible first | exact HB.out | apply zzA | apply zzN | apply zzD | refine below_set ?_ GE239.out) | exact HB.out)) hb); clear HO_240000; clear BK239; clear HB; have HO_240000 := n0_; have BK239 := n1_; have HB := n2_; clear n0_ n1_ n2_; (try clear hb); (try clear hb2); (try clear hk); (try clear hi); have hcz52_0 : w51.cell? ⟨gb239, 0, none⟩ = some (.slice A2_0 l2_0.length c2_0) := (blk_cell BK239.out 0).trans rfl; have hcz52_1 : w51.cell? ⟨gb239, 1, none⟩ = some (.int .i64 a2_1) := (blk_cell BK239.out 1).trans rfl; have hfz52_0 := blk_frozen BK239.out 0; have hfz52_1 := blk_frozen BK239.out 1) | ((with_reducible refine gate_callee (f := 63) rfl ?_); refine goesL_ (some 77) rfl rfl Try.func63 (by kernel_rfl) rfl #[.slice A1 l1.length c1, .agg #[.slice A2_0 l2_0.length c2_0, .int .i64 a2_1], .int .i64 a3] rfl (by (try simp only [List.map_toArray, List.map_cons, List.map_nil]); first | done | rfl | (simp only [List.length_drop, List.length_take]; rfl)) ?_; (with_reducible refine (linear_Off.calls _ _ l1 _ _ l2_0 a2_1 a3 t250 t251 _ ?side1 ?side2 ?side3 ?side4 A31.out).mono ?_); (case side1 => repeat (first | exact (Kd.C_below HR1.out HB.out) | (with_reducible refine ccA ?_ _) | (with_reducible refine ccN ?_ _) | (with_reducible refine ccD ?_))); (case side2 => exact HC1.out); (case side3 => repeat (first | exact (Kd.V_reads' HO_240000.out).2.2 | (with_reducible refine ccA ?_ _) | (with_reducible refine ccN ?_ _) | (with_reducible refine ccD ?_))); (case side4 => exact (Kd.V_reads' HO_240000.out).2.1); rintro e w53 ⟨rfl, hb⟩; refine ⟨_, rfl, ?_⟩; have n0_ := Aside0.mk (Kd.V_below (by (with_reducible repeat (first | apply Kd.V_alloc | apply Kd.V_drewN | apply Kd.V_drew)); exact HO_240000.out) hb); have n1_ := Aside0.mk (blk_below (g := gb239) (o := .cells #[.slice A2_0 l2_0.length c2_0, .int .i64 a2_1] 26 (0, 0)) (by (with_reducible repeat (first | refine kkN ?_ _ | refine kkD ?_ | refine kkA ?_ _)); exact BK239.out) hb); have n2_ := Aside0.mk (zzT (by repeat (first | (with_reducible first | exact HB.out | apply zzA | apply zzN | apply zzD | refine below_set ?_ GE239.out) | exact HB.out)) hb); clear HO_240000; clear BK239; clear HB; have HO_240000 := n0_; have BK239 := n1_; have HB := n2_; clear n0_ n1_ n2_; (try clear hb); (try clear hb2); (try clear hk); (try clear hi); have hcz54_0 : w53.cell? ⟨gb239, 0, none⟩ = some (.slice A2_0 l2_0.length c2_0) := (blk_cell BK239.out 0).trans rfl; have hcz54_1 : w53.cell? ⟨gb239, 1, none⟩ = some (.int .i64 a2_1) := (blk_cell BK239.out 1).trans rfl; have hfz54_0 := blk_frozen BK239.out 0; have hfz54_1 := blk_frozen BK239.out 1) | ((with_reducible refine gate_callee (f := 64) rfl ?_); refine goesL_ (some 84) rfl rfl Try.func64 (by kernel_rfl) rfl #[.slice A1 l1.length c1, .agg #[.slice A2_0 l2_0.length c2_0, .int .i64 a2_1], .int .i64 a3] rfl (by (try simp only [List.map_toArray, List.map_cons, List.map_nil]); first | done | rfl | (simp only [List.length_drop, List.length_take]; rfl)) ?_; (with_reducible refine (thrumref14_Off.calls _ _ l1 _ _ l2_0 a2_1 a3 t252 t253 _ ?side1 ?side2 ?side3 ?side4 A32.out).mono ?_); (case side1 => repeat (first | exact (Kd.C_below HR1.out HB.out) | (with_reducible refine ccA ?_ _) | (with_reducible refine ccN ?_ _) | (with_reducible refine ccD ?_))); (case side2 => exact HC1.out); (case side3 => repeat (first | exact (Kd.V_reads' HO_240000.out).2.2 | (with_reducible refine ccA ?_ _) | (with_reducible refine ccN ?_ _) | (with_reducible refine ccD ?_))); (case side4 => exact (Kd.V_reads' HO_240000.out).2.1); rintro e w55 ⟨rfl, hb⟩; refine ⟨_, rfl, ?_⟩; have n0_ := Aside0.mk (Kd.V_below (by (with_reducible repeat (first | apply Kd.V_alloc | apply Kd.V_drewN | apply Kd.V_drew)); exact HO_240000.out) hb); have n1_ := Aside0.mk (blk_below (g := gb239) (o := .cells #[.slice A2_0 l2_0.length c2_0, .int .i64 a2_1] 26 (0, 0)) (by (with_reducible repeat (first | refine kkN ?_ _ | refine kkD ?_ | refine kkA ?_ _)); exact BK239.out) hb); have n2_ := Aside0.mk (zzT (by repeat (first | (with_reducible first | exact HB.out | apply zzA | apply zzN | apply zzD | refine below_set ?_ GE239.out) | exact HB.out)) hb); clear HO_240000; clear BK239; clear HB; have HO_240000 := n0_; have BK239 := n1_; have HB := n2_; clear n0_ n1_ n2_; (try clear hb); (try clear hb2); (try clear hk); (try clear hi)) | ((with_reducible refine gate_callee (f := 65) rfl ?_); refine goesL_ (some 90) rfl rfl Try.func65 (by kernel_rfl) rfl #[.int .i64 a4, .slice A5 l5.length c5] rfl (by (try simp only [List.map_toArray, List.map_cons, List.map_nil]); first | done | rfl | (simp only [List.length_drop, List.length_take]; rfl)) ?_; (with_reducible refine (linear_Mean.calls a4 _ _ l5 t254 t255 _ ?side1 ?side2 A33.out).mono ?_); (case side1 => repeat (first | exact (Kd.C_below HR5.out HB.out) | (with_reducible refine ccA ?_ _) | (with_reducible refine ccN ?_ _) | (with_reducible refine ccD ?_))); (case side2 => exact HC5.out); rintro e w56 ⟨v256, rfl, ho0, hb⟩; refine ⟨_, rfl, ?_⟩; have n0_ := Aside0.mk (Kd.V_elder' (by (with_reducible repeat (first | apply Kd.V_alloc | apply Kd.V_drewN | apply Kd.V_drew)); exact HO_240000.out) (Kd.R_base ho0) hb); have n1_ := Aside0.mk (Kd.R_lower (Kd.R_newM (M := fun k_ => (w.heap.size ≤ k_)) ho0 (zzS (by repeat (first | (with_reducible first | exact HB.out | apply zzA | apply zzN | apply zzD | refine below_set ?_ GE239.out) | exact HB.out))) (fun k_ h_ => h_)) (zzS (by repeat (first | (with_reducible first | exact HB.out | apply zzA | apply zzN | apply zzD | refine below_set ?_ GE239.out) | exact HB.out)))); have n2_ := Aside0.mk (blk_below (g := gb239) (o := .cells #[.slice A2_0 l2_0.length c2_0, .int .i64 a2_1] 26 (0, 0)) (by (with_reducible repeat (first | refine kkN ?_ _ | refine kkD ?_ | refine kkA ?_ _)); exact BK239.out) hb); have n3_ := Aside0.mk (zzT (by repeat (first | (with_reducible first | exact HB.out | apply zzA | apply zzN | apply zzD | refine below_set ?_ GE239.out) | exact HB.out)) hb); clear HO_240000; clear BK239; clear HB; have HO_240000 := n0_; have HO257 := n1_; have BK239 := n2_; have HB := n3_; clear n0_ n1_ n2_ n3_; (try clear hb); (try clear hb2); (try clear hk); (try clear hi); (try clear ho0)) | ((with_reducible refine gate_callee (f := 66) rfl ?_); refine goesL_ (some 96) rfl rfl Try.func66 (by kernel_rfl) rfl #[.int .i64 a4, .slice A5 l5.length c5] rfl (by (try simp only [List.map_toArray, List.map_cons, List.map_nil]); first | done | rfl | (simp only [List.length_drop, List.length_take]; rfl)) ?_; (with_reducible refine (thrumref14_Mean.calls a4 _ _ l5 t258 t259 _ ?side1 ?side2 A34.out).mono ?_); (case side1 => repeat (first | exact (Kd.C_below HR5.out HB.out) | (with_reducible refine ccA ?_ _) | (with_reducible refine ccN ?_ _) | (with_reducible refine ccD ?_))); (case side2 => exact HC5.out); rintro e w57 ⟨v260, rfl, ho0, hb⟩; refine ⟨_, rfl, ?_⟩; have n0_ := Aside0.mk (Kd.V_elder' (by (with_reducible repeat (first | apply Kd.V_alloc | apply Kd.V_drewN | apply Kd.V_drew)); exact HO_240000.out) (Kd.R_base ho0) hb); have n1_ := Aside0.mk (Kd.R_elder' (by (with_reducible repeat (first | apply rrA | apply rrN | apply rrD)); exact HO257.out) (Kd.R_base ho0) hb); have n2_ := Aside0.mk (Kd.R_lower (Kd.R_new' (Kd.R_newM (M := fun k_ => (w.heap.size ≤ k_)) ho0 (zzS (by repeat (first | (with_reducible first | exact HB.out | apply zzA | apply zzN | apply zzD | refine below_set ?_ GE239.out) | exact HB.out))) (fun k_ h_ => h_)) (Kd.R_lt (by (with_reducible repeat (first | apply rrA | apply rrN | apply rrD)); exact HO257.out))) (zzS (by repeat (first | (with_reducible first | exact HB.out | apply zzA | apply zzN | apply zzD | refine below_set ?_ GE239.out) | exact HB.out)))); have n3_ := Aside0.mk (blk_below (g := gb239) (o := .cells #[.slice A2_0 l2_0.length c2_0, .int .i64 a2_1] 26 (0, 0)) (by (with_reducible repeat (first | refine kkN ?_ _ | refine kkD ?_ | refine kkA ?_ _)); exact BK239.out) hb); have n4_ := Aside0.mk (zzT (by repeat (first | (with_reducible first | exact HB.out | apply zzA | apply zzN | apply zzD | refine below_set ?_ GE239.out) | exact HB.out)) hb); clear HO_240000; clear HO257; clear BK239; clear HB; have HO_240000 := n0_; have HO257 := n1_; have HO261 := n2_; have BK239 := n3_; have HB := n4_; clear n0_ n1_ n2_ n3_ n4_; (try clear hb); (try clear hb2); (try clear hk); (try clear hi); (try clear ho0)) | ((with_reducible refine gate_callee (f := 67) rfl ?_); refine goesL_ (some 101) rfl rfl Try.func67 (by kernel_rfl) rfl #[.int .i64 a0] rfl (by (try simp only [List.map_toArray, List.map_cons, List.map_nil]); first | done | rfl | (simp only [List.length_drop, List.length_take]; rfl)) ?_; (with_reducible refine (linear_Dim.calls a0 t262 t263 _ A35.out).mono ?_); rintro e w' ⟨rfl, ⟨nd, rfl⟩⟩; refine ⟨_, rfl, ?_⟩) | ((with_reducible refine gate_callee (f := 68) rfl ?_); refine goesL_ (some 106) rfl rfl Try.func68 (by kernel_rfl) rfl #[.int .i64 a0] rfl (by (try simp only [List.map_toArray, List.map_cons, List.map_nil]); first | done | rfl | (simp only [List.length_drop, List.length_take]; rfl)) ?_; (with_reducible refine (thrumref14_Dim.calls a0 t264 t265 _ A36.out).mono ?_); rintro e w' ⟨rfl, ⟨nd, rfl⟩⟩; refine ⟨_, rfl, ?_⟩; obtain ⟨Ao58, co58, eo58⟩ := Kd.R_slice HO257.out; subst eo58; obtain ⟨Ao59, co59, eo59⟩ := Kd.R_slice HO261.out; subst eo59))
                 (try (rw [drewN_self w57]; generalize hq_ : World.drewN w57 _ = w57; have n0_ : Aside0 (Kd.R (Kd.int .i64) 2 w57 w.heap.size (fun k_ => (w.heap.size ≤ k_) ∧ some k_ ≠ (.slice Ao59 t258.length co59 : Value).ownBlock) (.slice Ao58 t254.length co58) t254) := ⟨by rw [← hq_]; exact (by (with_reducible repeat (first | apply rrA | apply rrN | apply rrD)); exact Kd.R_mono HO257.out (fun k_ hk => by first | exact ⟨hk.1.1, hk.2⟩ | ((repeat' apply And.intro) <;> first | exact hk | exact trivial | exact hk.1 | exact hk.2 | exact hk.1.1 | exact hk.1.2 | exact hk.2.1 | exact hk.2.2 | exact hk.1.1.1 | exact hk.1.1.2 | exact hk.1.2.1 | exact hk.1.2.2 | exact hk.2.1.1 | exact hk.2.1.2 | exact hk.2.2.1 | exact hk.2.2.2 | exact hk.1.1.1.1 | exact hk.1.1.1.2 | grind)))⟩; have n1_ : Aside0 (Kd.R (Kd.int .i64) 2 w57 w.heap.size (fun k_ => (w.heap.size ≤ k_) ∧ some k_ ≠ (.slice Ao58 t254.length co58 : Value).ownBlock) (.slice Ao59 t258.length co59) t258) := ⟨by rw [← hq_]; exact (by (with_reducible repeat (first | apply rrA | apply rrN | apply rrD)); exact Kd.R_mono HO261.out (fun k_ hk => by first | exact ⟨hk.1.1, hk.2⟩ | ((repeat' apply And.intro) <;> first | exact hk | exact trivial | exact hk.1 | exact hk.2 | exact hk.1.1 | exact hk.1.2 | exact hk.2.1 | exact hk.2.2 | exact hk.1.1.1 | exact hk.1.1.2 | exact hk.1.2.1 | exact hk.1.2.2 | exact hk.2.1.1 | exact hk.2.1.2 | exact hk.2.2.1 | exact hk.2.2.2 | exact hk.1.1.1.1 | exact hk.1.1.1.2 | grind)))⟩; have n2_ : Aside0 (Kd.V (Kd.int .i64) 2 w57 w.heap.size (fun k_ => (P2_0_ k_ ∨ w.heap.size ≤ k_) ∧ some k_ ≠ (.slice Ao58 t254.length co58 : Value).ownBlock ∧ some k_ ≠ (.slice Ao59 t258.length co59 : Value).ownBlock ∧ k_ ≠ gb239) (.slice A2_0 l2_0.length c2_0) l2_0) := ⟨by rw [← hq_]; exact (by (with_reducible repeat (first | apply Kd.V_alloc | apply Kd.V_drewN | apply Kd.V_drew)); exact Kd.V_mono HO_240000.out (fun k_ hk => by first | exact ⟨hk.1.1.1, ⟨hk.1.2, ⟨hk.2, hk.1.1.2⟩⟩⟩ | ((repeat' apply And.intro) <;> first | exact hk | exact trivial | exact hk.1 | exact hk.2 | exact hk.1.1 | exact hk.1.2 | exact hk.2.1 | exact hk.2.2 | exact hk.1.1.1 | exact hk.1.1.2 | exact hk.1.2.1 | exact hk.1.2.2 | exact hk.2.1.1 | exact hk.2.1.2 | exact hk.2.2.1 | exact hk.2.2.2 | exact hk.1.1.1.1 | exact hk.1.1.1.2 | grind)))⟩; have n3_ : Aside0 (w57.heap[gb239]? = some (.cells #[.slice A2_0 l2_0.length c2_0, .int .i64 a2_1] 26 (0, 0))) := ⟨by rw [← hq_]; exact (by (with_reducible repeat (first | refine kkN ?_ _ | refine kkD ?_ | refine kkA ?_ _)); exact BK239.out)⟩; have n4_ : Aside0 (Below w.heap.size w w57) := ⟨by rw [← hq_]; exact (by repeat (first | (with_reducible first | exact HB.out | apply zzA | apply zzN | apply zzD | refine below_set ?_ GE239.out) | exact HB.out))⟩; clear HO257 HO261 HO_240000 BK239 HB hq_; have HO257 := n0_; have HO261 := n1_; have HO_240000 := n2_; have BK239 := n3_; have HB := n4_; clear n0_ n1_ n2_ n3_ n4_))
                 have n0_ := Aside0.mk (Kd.V_drew HO_240000.out)
                 have n1_ := Aside0.mk (rrD HO257.out)
                 have n2_ := Aside0.mk (rrD HO261.out)
                 have n3_ := Aside0.mk (kkD BK239.out)
                 have n4_ := Aside0.mk (zzD HB.out)
                 clear HO_240000
                 clear HO257
                 clear HO261
                 clear BK239
                 clear HB
                 have HO_240000 := n0_
                 have HO257 := n1_
                 have HO261 := n2_
                 have BK239 := n3_
                 have HB := n4_
                 clear n0_ n1_ n2_ n3_ n4_
                 refine start_ (n := 55) (S := fun w' => w'.cell? ⟨gb239, 0, none⟩ = some (.slice A2_0 l2_0.length c2_0) ∧ w'.cell? ⟨gb239, 1, none⟩ = some (.int .i64 a2_1)) (ds := []) #[false, false, false, false, false, false, false, false, false, false, false, false, false, false, false, false, false, false, false, false, false, false, false, false, false, false, false, false, false, false, false, false, false, false, false, false, false, false, false, false, false, false, false, false, false, false, false, false, false, false, false, false, false, false, false] (by kernel_rfl) rfl rfl ⟨(blk_cell BK239.out 0).trans rfl, (blk_cell BK239.out 1).trans rfl⟩ (fun hHeld => ?_); refine with_tabW thrumlaw14_LinearTells.tab20 thrumlaw14_LinearTells.bits20 (fun HT_ HW_ => ?_)
                 generalize w57.drew = w60 at HO_240000 HO257 HO261 BK239 HB hHeld ⊢
                 refine pure_ (i := 0) (N := some 109) (v := ?_) (a' := ?_) #[true, false, false, false, false, false, false, false, false, false, false, false, false, false, false, false, false, false, false, false, false, false, false, false, false, false, false, false, false, false, false, false, false, false, false, false, false, false, false, false, false, false, false, false, false, false, false, false, false, false, false, false, false, false, false] rfl rfl (any_of HT_.out (by kernel_rfl)) (fun _ _ _ h => h) (Or.inl ⟨by rfl, ?_⟩) ?_ ?_
                 rotate_left
                 ·
                  intro w'
                  go_simp
                  with_reducible rfl
                 rotate_left
                 ·
                  simp only [Act.put, List.setIfInBounds_toArray, List.set_cons_zero, List.set_cons_succ, i64_w, i32_w]
                  rfl
                 refine pure_ (i := 1) (N := some 110) (v := ?_) (a' := ?_) #[true, true, false, false, false, false, false, false, false, false, false, false, false, false, false, false, false, false, false, false, false, false, false, false, false, false, false, false, false, false, false, false, false, false, false, false, false, false, false, false, false, false, false, false, false, false, false, false, false, false, false, false, false, false, false] rfl rfl (any_of HT_.out (by kernel_rfl)) (fun _ _ _ h => h) (Or.inl ⟨by rfl, ?_⟩) ?_ ?_
                 rotate_left
                 ·
                  intro w'
                  go_simp
                  with_reducible rfl
                 rotate_left
                 ·
                  simp only [Act.put, List.setIfInBounds_toArray, List.set_cons_zero, List.set_cons_succ, i64_w, i32_w]
                  rfl
                 refine pure_ (i := 2) (N := some 111) (v := ?_) (a' := ?_) #[true, true, true, false, false, false, false, false, false, false, false, false, false, false, false, false, false, false, false, false, false, false, false, false, false, false, false, false, false, false, false, false, false, false, false, false, false, false, false, false, false, false, false, false, false, false, false, false, false, false, false, false, false, false, false] rfl rfl (any_of HT_.out (by kernel_rfl)) (fun _ _ _ h => h) (Or.inl ⟨by rfl, ?_⟩) ?_ ?_
                 rotate_left
                 ·
                  intro w'
                  go_simp
                  with_reducible rfl
                 rotate_left
                 ·
                  simp only [Act.put, List.setIfInBounds_toArray, List.set_cons_zero, List.set_cons_succ, i64_w, i32_w]
                  rfl
                 refine pure_ (i := 3) (N := some 112) (v := ?_) (a' := ?_) #[true, true, true, true, false, false, false, false, false, false, false, false, false, false, false, false, false, false, false, false, false, false, false, false, false, false, false, false, false, false, false, false, false, false, false, false, false, false, false, false, false, false, false, false, false, false, false, false, false, false, false, false, false, false, false] rfl rfl (any_of HT_.out (by kernel_rfl)) (fun _ _ _ h => h) (Or.inl ⟨by rfl, ?_⟩) ?_ ?_
                 rotate_left
                 ·
                  intro w'
                  go_simp
                  with_reducible rfl
                 rotate_left
                 ·
                  simp only [Act.put, List.setIfInBounds_toArray, List.set_cons_zero, List.set_cons_succ, i64_w, i32_w]
                  rfl
                 refine pure_ (i := 4) (N := some 113) (v := ?_) (a' := ?_) #[true, true, true, true, true, false, false, false, false, false, false, false, false, false, false, false, false, false, false, false, false, false, false, false, false, false, false, false, false, false, false, false, false, false, false, false, false, false, false, false, false, false, false, false, false, false, false, false, false, false, false, false, false, false, false] rfl rfl (any_of HT_.out (by kernel_rfl)) (fun _ _ _ h => h) (Or.inl ⟨by rfl, ?_⟩) ?_ ?_
                 rotate_left
                 ·
                  intro w'
                  go_simp
                  with_reducible rfl
                 rotate_left
                 ·
                  simp only [Act.put, List.setIfInBounds_toArray, List.set_cons_zero, List.set_cons_succ, i64_w, i32_w]
                  rfl
                 refine pure_ (i := 5) (N := some 114) (v := ?_) (a' := ?_) #[true, true, true, true, true, true, false, false, false, false, false, false, false, false, false, false, false, false, false, false, false, false, false, false, false, false, false, false, false, false, false, false, false, false, false, false, false, false, false, false, false, false, false, false, false, false, false, false, false, false, false, false, false, false, false] rfl rfl (any_of HT_.out (by kernel_rfl)) (fun _ _ _ h => h) (Or.inl ⟨by rfl, ?_⟩) ?_ ?_
                 rotate_left
                 ·
                  intro w'
                  go_simp
                  with_reducible rfl
                 rotate_left
                 ·
                  simp only [Act.put, List.setIfInBounds_toArray, List.set_cons_zero, List.set_cons_succ, i64_w, i32_w]
                  rfl
                 refine pure_ (i := 6) (N := some 115) (v := ?_) (a' := ?_) #[true, true, true, true, true, true, true, false, false, false, false, false, false, false, false, false, false, false, false, false, false, false, false, false, false, false, false, false, false, false, false, false, false, false, false, false, false, false, false, false, false, false, false, false, false, false, false, false, false, false, false, false, false, false, false] rfl rfl (any_of HT_.out (by kernel_rfl)) (fun _ _ _ h => h) (Or.inl ⟨by rfl, ?_⟩) ?_ ?_
                 rotate_left
                 ·
                  intro w'
                  go_simp
                  with_reducible rfl
                 rotate_left
                 ·
                  simp only [Act.put, List.setIfInBounds_toArray, List.set_cons_zero, List.set_cons_succ, i64_w, i32_w]
                  rfl
                 refine pure_ (i := 7) (N := some 116) (v := ?_) (a' := ?_) #[true, true, true, true, true, true, true, true, false, false, false, false, false, false, false, false, false, false, false, false, false, false, false, false, false, false, false, false, false, false, false, false, false, false, false, false, false, false, false, false, false, false, false, false, false, false, false, false, false, false, false, false, false, false, false] rfl rfl (any_of HT_.out (by kernel_rfl)) (fun _ _ _ h => h) (Or.inl ⟨by rfl, ?_⟩) ?_ ?_
                 rotate_left
                 ·
                  intro w'
                  go_simp
                  with_reducible rfl
                 rotate_left
                 ·
                  simp only [Act.put, List.setIfInBounds_toArray, List.set_cons_zero, List.set_cons_succ, i64_w, i32_w]
                  rfl
                 refine pure_ (i := 8) (N := some 117) (v := ?_) (a' := ?_) #[true, true, true, true, true, true, true, true, true, false, false, false, false, false, false, false, false, false, false, false, false, false, false, false, false, false, false, false, false, false, false, false, false, false, false, false, false, false, false, false, false, false, false, false, false, false, false, false, false, false, false, false, false, false, false] rfl rfl (any_of HT_.out (by kernel_rfl)) (fun _ _ _ h => h) (Or.inl ⟨by rfl, ?_⟩) ?_ ?_
                 rotate_left
                 ·
                  intro w'
                  go_simp
                  with_reducible rfl
                 rotate_left
                 ·
                  simp only [Act.put, List.setIfInBounds_toArray, List.set_cons_zero, List.set_cons_succ, i64_w, i32_w]
                  rfl
                 refine pure_ (i := 9) (N := some 118) (v := ?_) (a' := ?_) #[true, true, true, true, true, true, true, true, true, true, false, false, false, false, false, false, false, false, false, false, false, false, false, false, false, false, false, false, false, false, false, false, false, false, false, false, false, false, false, false, false, false, false, false, false, false, false, false, false, false, false, false, false, false, false] rfl rfl (any_of HT_.out (by kernel_rfl)) (fun _ _ _ h => h) (Or.inl ⟨by rfl, ?_⟩) ?_ ?_
                 rotate_left
                 ·
                  intro w'
                  go_simp
                  with_reducible rfl
                 rotate_left
                 ·
                  simp only [Act.put, List.setIfInBounds_toArray, List.set_cons_zero, List.set_cons_succ, i64_w, i32_w]
                  rfl
                 refine pure_ (i := 10) (N := some 119) (v := ?_) (a' := ?_) #[true, true, true, true, true, true, true, true, true, true, true, false, false, false, false, false, false, false, false, false, false, false, false, false, false, false, false, false, false, false, false, false, false, false, false, false, false, false, false, false, false, false, false, false, false, false, false, false, false, false, false, false, false, false, false] rfl rfl (any_of HT_.out (by kernel_rfl)) (fun _ _ _ h => h) (Or.inl ⟨by rfl, ?_⟩) ?_ ?_
                 rotate_left
                 ·
                  intro w'
                  go_simp
                  with_reducible rfl
                 rotate_left
                 ·
                  simp only [Act.put, List.setIfInBounds_toArray, List.set_cons_zero, List.set_cons_succ, i64_w, i32_w]
                  rfl
                 refine pure_ (i := 11) (N := some 120) (v := ?_) (a' := ?_) #[true, true, true, true, true, true, true, true, true, true, true, true, false, false, false, false, false, false, false, false, false, false, false, false, false, false, false, false, false, false, false, false, false, false, false, false, false, false, false, false, false, false, false, false, false, false, false, false, false, false, false, false, false, false, false] rfl rfl (any_of HT_.out (by kernel_rfl)) (fun _ _ _ h => h) (Or.inl ⟨by rfl, ?_⟩) ?_ ?_
                 rotate_left
                 ·
                  intro w'
                  go_simp
                  with_reducible rfl
                 rotate_left
                 ·
                  simp only [Act.put, List.setIfInBounds_toArray, List.set_cons_zero, List.set_cons_succ, i64_w, i32_w]
                  rfl
                 refine pure_ (i := 12) (N := some 121) (v := ?_) (a' := ?_) #[true, true, true, true, true, true, true, true, true, true, true, true, true, false, false, false, false, false, false, false, false, false, false, false, false, false, false, false, false, false, false, false, false, false, false, false, false, false, false, false, false, false, false, false, false, false, false, false, false, false, false, false, false, false, false] rfl rfl (any_of HT_.out (by kernel_rfl)) (fun _ _ _ h => h) (Or.inl ⟨by rfl, ?_⟩) ?_ ?_
                 rotate_left
                 ·
                  intro w'
                  go_simp
                  with_reducible rfl
                 rotate_left
                 ·
                  simp only [Act.put, List.setIfInBounds_toArray, List.set_cons_zero, List.set_cons_succ, i64_w, i32_w]
                  rfl
                 refine pure_ (i := 13) (N := some 122) (v := ?_) (a' := ?_) #[true, true, true, true, true, true, true, true, true, true, true, true, true, true, false, false, false, false, false, false, false, false, false, false, false, false, false, false, false, false, false, false, false, false, false, false, false, false, false, false, false, false, false, false, false, false, false, false, false, false, false, false, false, false, false] rfl rfl (any_of HT_.out (by kernel_rfl)) (fun _ _ _ h => h) (Or.inl ⟨by rfl, ?_⟩) ?_ ?_
                 rotate_left
                 ·
                  intro w'
                  go_simp
                  with_reducible rfl
                 rotate_left
                 ·
                  simp only [Act.put, List.setIfInBounds_toArray, List.set_cons_zero, List.set_cons_succ, i64_w, i32_w]
                  rfl
                 refine pure_ (i := 14) (N := some 123) (v := ?_) (a' := ?_) #[true, true, true, true, true, true, true, true, true, true, true, true, true, true, true, false, false, false, false, false, false, false, false, false, false, false, false, false, false, false, false, false, false, false, false, false, false, false, false, false, false, false, false, false, false, false, false, false, false, false, false, false, false, false, false] rfl rfl (any_of HT_.out (by kernel_rfl)) (fun _ _ _ h => h) (Or.inl ⟨by rfl, ?_⟩) ?_ ?_
                 rotate_left
                 ·
                  intro w'
                  go_simp
                  with_reducible rfl
                 rotate_left
                 ·
                  simp only [Act.put, List.setIfInBounds_toArray, List.set_cons_zero, List.set_cons_succ, i64_w, i32_w]
                  rfl
                 refine pure_ (i := 15) (N := some 124) (v := ?_) (a' := ?_) #[true, true, true, true, true, true, true, true, true, true, true, true, true, true, true, true, false, false, false, false, false, false, false, false, false, false, false, false, false, false, false, false, false, false, false, false, false, false, false, false, false, false, false, false, false, false, false, false, false, false, false, false, false, false, false] rfl rfl (any_of HT_.out (by kernel_rfl)) (fun _ _ _ h => h) (Or.inl ⟨by rfl, ?_⟩) ?_ ?_
                 rotate_left
                 ·
                  intro w'
                  go_simp
                  with_reducible rfl
                 rotate_left
                 ·
                  simp only [Act.put, List.setIfInBounds_toArray, List.set_cons_zero, List.set_cons_succ, i64_w, i32_w]
                  rfl
                 refine pure_ (i := 16) (N := some 125) (v := ?_) (a' := ?_) #[true, true, true, true, true, true, true, true, true, true, true, true, true, true, true, true, true, false, false, false, false, false, false, false, false, false, false, false, false, false, false, false, false, false, false, false, false, false, false, false, false, false, false, false, false, false, false, false, false, false, false, false, false, false, false] rfl rfl (any_of HT_.out (by kernel_rfl)) (fun _ _ _ h => h) (Or.inl ⟨by rfl, ?_⟩) ?_ ?_
                 rotate_left
                 ·
                  intro w'
                  go_simp
                  with_reducible rfl
                 rotate_left
                 ·
                  simp only [Act.put, List.setIfInBounds_toArray, List.set_cons_zero, List.set_cons_succ, i64_w, i32_w]
                  rfl
                 refine pure_ (i := 17) (N := some 126) (v := ?_) (a' := ?_) #[true, true, true, true, true, true, true, true, true, true, true, true, true, true, true, true, true, true, false, false, false, false, false, false, false, false, false, false, false, false, false, false, false, false, false, false, false, false, false, false, false, false, false, false, false, false, false, false, false, false, false, false, false, false, false] rfl rfl (any_of HT_.out (by kernel_rfl)) (fun _ _ _ h => h) (Or.inl ⟨by rfl, ?_⟩) ?_ ?_
                 rotate_left
                 ·
                  intro w'
                  go_simp
                  with_reducible rfl
                 rotate_left
                 ·
                  simp only [Act.put, List.setIfInBounds_toArray, List.set_cons_zero, List.set_cons_succ, i64_w, i32_w]
                  rfl
                 refine pure_ (i := 18) (N := some 127) (v := ?_) (a' := ?_) #[true, true, true, true, true, true, true, true, true, true, true, true, true, true, true, true, true, true, true, false, false, false, false, false, false, false, false, false, false, false, false, false, false, false, false, false, false, false, false, false, false, false, false, false, false, false, false, false, false, false, false, false, false, false, false] rfl rfl (any_of HT_.out (by kernel_rfl)) (fun _ _ _ h => h) (Or.inl ⟨by rfl, ?_⟩) ?_ ?_
                 rotate_left
                 ·
                  intro w'
                  go_simp
                  with_reducible rfl
                 rotate_left
                 ·
                  simp only [Act.put, List.setIfInBounds_toArray, List.set_cons_zero, List.set_cons_succ, i64_w, i32_w]
                  rfl
                 refine pure_ (i := 19) (N := some 128) (v := ?_) (a' := ?_) #[true, true, true, true, true, true, true, true, true, true, true, true, true, true, true, true, true, true, true, true, false, false, false, false, false, false, false, false, false, false, false, false, false, false, false, false, false, false, false, false, false, false, false, false, false, false, false, false, false, false, false, false, false, false, false] rfl rfl (any_of HT_.out (by kernel_rfl)) (fun _ _ _ h => h) (Or.inl ⟨by rfl, ?_⟩) ?_ ?_
                 rotate_left
                 ·
                  intro w'
                  go_simp
                  with_reducible rfl
                 rotate_left
                 ·
                  simp only [Act.put, List.setIfInBounds_toArray, List.set_cons_zero, List.set_cons_succ, i64_w, i32_w]
                  rfl
                 refine pure_ (i := 20) (N := some 129) (v := ?_) (a' := ?_) #[true, true, true, true, true, true, true, true, true, true, true, true, true, true, true, true, true, true, true, true, true, false, false, false, false, false, false, false, false, false, false, false, false, false, false, false, false, false, false, false, false, false, false, false, false, false, false, false, false, false, false, false, false, false, false] rfl rfl (any_of HT_.out (by kernel_rfl)) (fun _ _ _ h => h) (Or.inl ⟨by rfl, ?_⟩) ?_ ?_
                 rotate_left
                 ·
                  intro w'
                  go_simp
                  with_reducible rfl
                 rotate_left
                 ·
                  simp only [Act.put, List.setIfInBounds_toArray, List.set_cons_zero, List.set_cons_succ, i64_w, i32_w]
                  rfl
                 refine pure_ (i := 21) (N := some 130) (v := ?_) (a' := ?_) #[true, true, true, true, true, true, true, true, true, true, true, true, true, true, true, true, true, true, true, true, true, true, false, false, false, false, false, false, false, false, false, false, false, false, false, false, false, false, false, false, false, false, false, false, false, false, false, false, false, false, false, false, false, false, false] rfl rfl (any_of HT_.out (by kernel_rfl)) (fun _ _ _ h => h) (Or.inl ⟨by rfl, ?_⟩) ?_ ?_
                 rotate_left
                 ·
                  intro w'
                  go_simp
                  with_reducible rfl
                 rotate_left
                 ·
                  simp only [Act.put, List.setIfInBounds_toArray, List.set_cons_zero, List.set_cons_succ, i64_w, i32_w]
                  rfl
                 refine pure_ (i := 22) (N := some 131) (v := ?_) (a' := ?_) #[true, true, true, true, true, true, true, true, true, true, true, true, true, true, true, true, true, true, true, true, true, true, true, false, false, false, false, false, false, false, false, false, false, false, false, false, false, false, false, false, false, false, false, false, false, false, false, false, false, false, false, false, false, false, false] rfl rfl (any_of HT_.out (by kernel_rfl)) (fun _ _ _ h => h) (Or.inl ⟨by rfl, ?_⟩) ?_ ?_
                 rotate_left
                 ·
                  intro w'
                  go_simp
                  with_reducible rfl
                 rotate_left
                 ·
                  simp only [Act.put, List.setIfInBounds_toArray, List.set_cons_zero, List.set_cons_succ, i64_w, i32_w]
                  rfl
                 refine pure_ (i := 23) (N := some 132) (v := ?_) (a' := ?_) #[true, true, true, true, true, true, true, true, true, true, true, true, true, true, true, true, true, true, true, true, true, true, true, true, false, false, false, false, false, false, false, false, false, false, false, false, false, false, false, false, false, false, false, false, false, false, false, false, false, false, false, false, false, false, false] rfl rfl (any_of HT_.out (by kernel_rfl)) (fun _ _ _ h => h) (Or.inl ⟨by rfl, ?_⟩) ?_ ?_
                 rotate_left
                 ·
                  intro w'
                  go_simp
                  with_reducible rfl
                 rotate_left
                 ·
                  simp only [Act.put, List.setIfInBounds_toArray, List.set_cons_zero, List.set_cons_succ, i64_w, i32_w]
                  rfl
                 refine one_ (i := 24) (N := some 133) #[true, true, true, true, true, true, true, true, true, true, true, true, true, true, true, true, true, true, true, true, true, true, true, true, true, false, false, false, false, false, false, false, false, false, false, false, false, false, false, false, false, false, false, false, false, false, false, false, false, false, false, false, false, false, false] rfl rfl (one_of HT_.out (by kernel_rfl)) (by decide) (fun K hK => ?_)
                 refine goes_ Try.func44 (by kernel_rfl) rfl #[.slice Ao58 t254.length co58, .slice Ao59 t258.length co59] (by rfl) rfl rfl (by (try simp only [List.map_toArray, List.map_cons, List.map_nil]); first | done | rfl | (simp only [List.length_drop, List.length_take]; rfl)) ?_
                 with_reducible refine (thrumref02_Same.calls _ _ t254 _ _ t258 true _ ?side1 ?side2 ?side3 ?side4 A41.out).mono ?_
                 (case side1 => repeat (first | exact (Kd.R_reads' HO257.out).2.2 | (with_reducible refine ccA ?_ _) | (with_reducible refine ccN ?_ _) | (with_reducible refine ccD ?_)))
                 (case side2 => exact (Kd.R_reads' HO257.out).2.1)
                 (case side3 => repeat (first | exact (Kd.R_reads' HO261.out).2.2 | (with_reducible refine ccA ?_ _) | (with_reducible refine ccN ?_ _) | (with_reducible refine ccD ?_)))
                 (case side4 => exact (Kd.R_reads' HO261.out).2.1)
                 rintro e w' ⟨rfl, ⟨nd, rfl⟩⟩
                 refine ⟨_, rfl, ?_⟩
                 refine hK.out _ _ ⟨(blk_cell BK239.out 0).trans rfl, (blk_cell BK239.out 1).trans rfl⟩ (fun hHeld => ?_)
                 clear hK K
                 refine norm_ (a' := ?_) ?_ ?_
                 rotate_left
                 ·
                  show Act.put _ (some 133) _ = _
                  simp only [Act.put, List.setIfInBounds_toArray, List.set_cons_zero, List.set_cons_succ, i64_w, i32_w]
                  rfl
                 refine pure_ (i := 25) (N := some 134) (v := ?_) (a' := ?_) #[true, true, true, true, true, true, true, true, true, true, true, true, true, true, true, true, true, true, true, true, true, true, true, true, true, true, false, false, false, false, false, false, false, false, false, false, false, false, false, false, false, false, false, false, false, false, false, false, false, false, false, false, false, false, false] rfl rfl (any_of HT_.out (by kernel_rfl)) (fun _ _ _ h => h) (Or.inl ⟨by rfl, ?_⟩) ?_ ?_
                 rotate_left
                 ·
                  intro w'
                  go_simp
                  with_reducible rfl
                 rotate_left
                 ·
                  simp only [Act.put, List.setIfInBounds_toArray, List.set_cons_zero, List.set_cons_succ, i64_w, i32_w]
                  rfl
                 refine pure_ (i := 26) (N := some 135) (v := ?_) (a' := ?_) #[true, true, true, true, true, true, true, true, true, true, true, true, true, true, true, true, true, true, true, true, true, true, true, true, true, true, true, false, false, false, false, false, false, false, false, false, false, false, false, false, false, false, false, false, false, false, false, false, false, false, false, false, false, false, false] rfl rfl (any_of HT_.out (by kernel_rfl)) (fun _ _ _ h => h) (Or.inl ⟨by rfl, ?_⟩) ?_ ?_
                 rotate_left
                 ·
                  intro w'
                  go_simp
                  with_reducible rfl
                 rotate_left
                 ·
                  simp only [Act.put, List.setIfInBounds_toArray, List.set_cons_zero, List.set_cons_succ, i64_w, i32_w]
                  rfl
                 refine pure_ (i := 27) (N := some 136) (v := ?_) (a' := ?_) #[true, true, true, true, true, true, true, true, true, true, true, true, true, true, true, true, true, true, true, true, true, true, true, true, true, true, true, true, false, false, false, false, false, false, false, false, false, false, false, false, false, false, false, false, false, false, false, false, false, false, false, false, false, false, false] rfl rfl (any_of HT_.out (by kernel_rfl)) (fun _ _ _ h => h) (Or.inl ⟨by rfl, ?_⟩) ?_ ?_
                 rotate_left
                 ·
                  intro w'
                  go_simp
                  with_reducible rfl
                 rotate_left
                 ·
                  simp only [Act.put, List.setIfInBounds_toArray, List.set_cons_zero, List.set_cons_succ, i64_w, i32_w]
                  rfl
                 refine pure_ (i := 28) (N := some 137) (v := ?_) (a' := ?_) #[true, true, true, true, true, true, true, true, true, true, true, true, true, true, true, true, true, true, true, true, true, true, true, true, true, true, true, true, true, false, false, false, false, false, false, false, false, false, false, false, false, false, false, false, false, false, false, false, false, false, false, false, false, false, false] rfl rfl (any_of HT_.out (by kernel_rfl)) (fun _ _ _ h => h) (Or.inl ⟨by rfl, ?_⟩) ?_ ?_
                 rotate_left
                 ·
                  intro w'
                  go_simp
                  with_reducible rfl
                 rotate_left
                 ·
                  simp only [Act.put, List.setIfInBounds_toArray, List.set_cons_zero, List.set_cons_succ, i64_w, i32_w]
                  rfl
                 refine pure_ (i := 29) (N := some 138) (v := ?_) (a' := ?_) #[true, true, true, true, true, true, true, true, true, true, true, true, true, true, true, true, true, true, true, true, true, true, true, true, true, true, true, true, true, true, false, false, false, false, false, false, false, false, false, false, false, false, false, false, false, false, false, false, false, false, false, false, false, false, false] rfl rfl (any_of HT_.out (by kernel_rfl)) (fun _ _ _ h => h) (Or.inl ⟨by rfl, ?_⟩) ?_ ?_
                 rotate_left
                 ·
                  intro w'
                  go_simp
                  with_reducible rfl
                 rotate_left
                 ·
                  simp only [Act.put, List.setIfInBounds_toArray, List.set_cons_zero, List.set_cons_succ, i64_w, i32_w]
                  rfl
                 refine pure_ (i := 30) (N := some 139) (v := ?_) (a' := ?_) #[true, true, true, true, true, true, true, true, true, true, true, true, true, true, true, true, true, true, true, true, true, true, true, true, true, true, true, true, true, true, true, false, false, false, false, false, false, false, false, false, false, false, false, false, false, false, false, false, false, false, false, false, false, false, false] rfl rfl (any_of HT_.out (by kernel_rfl)) (fun _ _ _ h => h) (Or.inl ⟨by rfl, ?_⟩) ?_ ?_
                 rotate_left
                 ·
                  intro w'
                  go_simp
                  with_reducible rfl
                 rotate_left
                 ·
                  simp only [Act.put, List.setIfInBounds_toArray, List.set_cons_zero, List.set_cons_succ, i64_w, i32_w]
                  rfl
                 refine pure_ (i := 31) (N := some 140) (v := ?_) (a' := ?_) #[true, true, true, true, true, true, true, true, true, true, true, true, true, true, true, true, true, true, true, true, true, true, true, true, true, true, true, true, true, true, true, true, false, false, false, false, false, false, false, false, false, false, false, false, false, false, false, false, false, false, false, false, false, false, false] rfl rfl (any_of HT_.out (by kernel_rfl)) (fun _ _ _ h => h) (Or.inl ⟨by rfl, ?_⟩) ?_ ?_
                 rotate_left
                 ·
                  intro w'
                  go_simp
                  with_reducible rfl
                 rotate_left
                 ·
                  simp only [Act.put, List.setIfInBounds_toArray, List.set_cons_zero, List.set_cons_succ, i64_w, i32_w]
                  rfl
                 refine pure_ (i := 32) (N := some 141) (v := ?_) (a' := ?_) #[true, true, true, true, true, true, true, true, true, true, true, true, true, true, true, true, true, true, true, true, true, true, true, true, true, true, true, true, true, true, true, true, true, false, false, false, false, false, false, false, false, false, false, false, false, false, false, false, false, false, false, false, false, false, false] rfl rfl (any_of HT_.out (by kernel_rfl)) (fun _ _ _ h => h) (Or.inl ⟨by rfl, ?_⟩) ?_ ?_
                 rotate_left
                 ·
                  intro w'
                  go_simp
                  with_reducible rfl
                 rotate_left
                 ·
                  simp only [Act.put, List.setIfInBounds_toArray, List.set_cons_zero, List.set_cons_succ, i64_w, i32_w]
                  rfl
                 refine pure_ (i := 33) (N := some 142) (v := ?_) (a' := ?_) #[true, true, true, true, true, true, true, true, true, true, true, true, true, true, true, true, true, true, true, true, true, true, true, true, true, true, true, true, true, true, true, true, true, true, false, false, false, false, false, false, false, false, false, false, false, false, false, false, false, false, false, false, false, false, false] rfl rfl (any_of HT_.out (by kernel_rfl)) (fun _ _ _ h => h) (Or.inl ⟨by rfl, ?_⟩) ?_ ?_
                 rotate_left
                 ·
                  intro w'
                  go_simp
                  with_reducible rfl
                 rotate_left
                 ·
                  simp only [Act.put, List.setIfInBounds_toArray, List.set_cons_zero, List.set_cons_succ, i64_w, i32_w]
                  rfl
                 refine pure_ (i := 34) (N := some 143) (v := ?_) (a' := ?_) #[true, true, true, true, true, true, true, true, true, true, true, true, true, true, true, true, true, true, true, true, true, true, true, true, true, true, true, true, true, true, true, true, true, true, true, false, false, false, false, false, false, false, false, false, false, false, false, false, false, false, false, false, false, false, false] rfl rfl (any_of HT_.out (by kernel_rfl)) (fun _ _ _ h => h) (Or.inl ⟨by rfl, ?_⟩) ?_ ?_
                 rotate_left
                 ·
                  intro w'
                  go_simp
                  with_reducible rfl
                 rotate_left
                 ·
                  simp only [Act.put, List.setIfInBounds_toArray, List.set_cons_zero, List.set_cons_succ, i64_w, i32_w]
                  rfl
                 refine pure_ (i := 35) (N := some 144) (v := ?_) (a' := ?_) #[true, true, true, true, true, true, true, true, true, true, true, true, true, true, true, true, true, true, true, true, true, true, true, true, true, true, true, true, true, true, true, true, true, true, true, true, false, false, false, false, false, false, false, false, false, false, false, false, false, false, false, false, false, false, false] rfl rfl (any_of HT_.out (by kernel_rfl)) (fun _ _ _ h => h) (Or.inl ⟨by rfl, ?_⟩) ?_ ?_
                 rotate_left
                 ·
                  intro w'
                  go_simp
                  with_reducible rfl
                 rotate_left
                 ·
                  simp only [Act.put, List.setIfInBounds_toArray, List.set_cons_zero, List.set_cons_succ, i64_w, i32_w]
                  rfl
                 refine pure_ (i := 36) (N := some 145) (v := ?_) (a' := ?_) #[true, true, true, true, true, true, true, true, true, true, true, true, true, true, true, true, true, true, true, true, true, true, true, true, true, true, true, true, true, true, true, true, true, true, true, true, true, false, false, false, false, false, false, false, false, false, false, false, false, false, false, false, false, false, false] rfl rfl (any_of HT_.out (by kernel_rfl)) (fun _ _ _ h => h) (Or.inl ⟨by rfl, ?_⟩) ?_ ?_
                 rotate_left
                 ·
                  intro w'
                  go_simp
                  with_reducible rfl
                 rotate_left
                 ·
                  simp only [Act.put, List.setIfInBounds_toArray, List.set_cons_zero, List.set_cons_succ, i64_w, i32_w]
                  rfl
                 refine pure_ (i := 37) (N := some 146) (v := ?_) (a' := ?_) #[true, true, true, true, true, true, true, true, true, true, true, true, true, true, true, true, true, true, true, true, true, true, true, true, true, true, true, true, true, true, true, true, true, true, true, true, true, true, false, false, false, false, false, false, false, false, false, false, false, false, false, false, false, false, false] rfl rfl (any_of HT_.out (by kernel_rfl)) (fun _ _ _ h => h) (Or.inl ⟨by rfl, ?_⟩) ?_ ?_
                 rotate_left
                 ·
                  intro w'
                  go_simp
                  with_reducible rfl
                 rotate_left
                 ·
                  simp only [Act.put, List.setIfInBounds_toArray, List.set_cons_zero, List.set_cons_succ, i64_w, i32_w]
                  rfl
                 refine pure_ (i := 38) (N := some 147) (v := ?_) (a' := ?_) #[true, true, true, true, true, true, true, true, true, true, true, true, true, true, true, true, true, true, true, true, true, true, true, true, true, true, true, true, true, true, true, true, true, true, true, true, true, true, true, false, false, false, false, false, false, false, false, false, false, false, false, false, false, false, false] rfl rfl (any_of HT_.out (by kernel_rfl)) (fun _ _ _ h => h) (Or.inl ⟨by rfl, ?_⟩) ?_ ?_
                 rotate_left
                 ·
                  intro w'
                  go_simp
                  with_reducible rfl
                 rotate_left
                 ·
                  simp only [Act.put, List.setIfInBounds_toArray, List.set_cons_zero, List.set_cons_succ, i64_w, i32_w]
                  rfl
                 refine pure_ (i := 39) (N := some 148) (v := ?_) (a' := ?_) #[true, true, true, true, true, true, true, true, true, true, true, true, true, true, true, true, true, true, true, true, true, true, true, true, true, true, true, true, true, true, true, true, true, true, true, true, true, true, true, true, false, false, false, false, false, false, false, false, false, false, false, false, false, false, false] rfl rfl (any_of HT_.out (by kernel_rfl)) (fun _ _ _ h => h) (Or.inl ⟨by rfl, ?_⟩) ?_ ?_
                 rotate_left
                 ·
                  intro w'
                  go_simp
                  with_reducible rfl
                 rotate_left
                 ·
                  simp only [Act.put, List.setIfInBounds_toArray, List.set_cons_zero, List.set_cons_succ, i64_w, i32_w]
                  rfl
                 refine pure_ (i := 40) (N := some 149) (v := ?_) (a' := ?_) #[true, true, true, true, true, true, true, true, true, true, true, true, true, true, true, true, true, true, true, true, true, true, true, true, true, true, true, true, true, true, true, true, true, true, true, true, true, true, true, true, true, false, false, false, false, false, false, false, false, false, false, false, false, false, false] rfl rfl (any_of HT_.out (by kernel_rfl)) (fun _ _ _ h => h) (Or.inl ⟨by rfl, ?_⟩) ?_ ?_
                 rotate_left
                 ·
                  intro w'
                  go_simp
                  with_reducible rfl
                 rotate_left
                 ·
                  simp only [Act.put, List.setIfInBounds_toArray, List.set_cons_zero, List.set_cons_succ, i64_w, i32_w]
                  rfl
                 refine pure_ (i := 41) (N := some 150) (v := ?_) (a' := ?_) #[true, true, true, true, true, true, true, true, true, true, true, true, true, true, true, true, true, true, true, true, true, true, true, true, true, true, true, true, true, true, true, true, true, true, true, true, true, true, true, true, true, true, false, false, false, false, false, false, false, false, false, false, false, false, false] rfl rfl (any_of HT_.out (by kernel_rfl)) (fun _ _ _ h => h) (Or.inl ⟨by rfl, ?_⟩) ?_ ?_
                 rotate_left
                 ·
                  intro w'
                  go_simp
                  with_reducible rfl
                 rotate_left
                 ·
                  simp only [Act.put, List.setIfInBounds_toArray, List.set_cons_zero, List.set_cons_succ, i64_w, i32_w]
                  rfl
                 refine pure_ (i := 42) (N := some 151) (v := ?_) (a' := ?_) #[true, true, true, true, true, true, true, true, true, true, true, true, true, true, true, true, true, true, true, true, true, true, true, true, true, true, true, true, true, true, true, true, true, true, true, true, true, true, true, true, true, true, true, false, false, false, false, false, false, false, false, false, false, false, false] rfl rfl (any_of HT_.out (by kernel_rfl)) (fun _ _ _ h => h) (Or.inl ⟨by rfl, ?_⟩) ?_ ?_
                 rotate_left
                 ·
                  intro w'
                  go_simp
                  with_reducible rfl
                 rotate_left
                 ·
                  simp only [Act.put, List.setIfInBounds_toArray, List.set_cons_zero, List.set_cons_succ, i64_w, i32_w]
                  rfl
                 refine pure_ (i := 43) (N := some 152) (v := ?_) (a' := ?_) #[true, true, true, true, true, true, true, true, true, true, true, true, true, true, true, true, true, true, true, true, true, true, true, true, true, true, true, true, true, true, true, true, true, true, true, true, true, true, true, true, true, true, true, true, false, false, false, false, false, false, false, false, false, false, false] rfl rfl (any_of HT_.out (by kernel_rfl)) (fun _ _ _ h => h) (Or.inl ⟨by rfl, ?_⟩) ?_ ?_
                 rotate_left
                 ·
                  intro w'
                  go_simp
                  with_reducible rfl
                 rotate_left
                 ·
                  simp only [Act.put, List.setIfInBounds_toArray, List.set_cons_zero, List.set_cons_succ, i64_w, i32_w]
                  rfl
                 refine pure_ (i := 47) (N := some 156) (v := ?_) (a' := ?_) #[true, true, true, true, true, true, true, true, true, true, true, true, true, true, true, true, true, true, true, true, true, true, true, true, true, true, true, true, true, true, true, true, true, true, true, true, true, true, true, true, true, true, true, true, false, false, false, true, false, false, false, false, false, false, false] rfl rfl (any_of HT_.out (by kernel_rfl)) (fun _ _ _ h => h) (Or.inl ⟨by rfl, ?_⟩) ?_ ?_
                 rotate_left
                 ·
                  intro w'
                  go_simp
                  with_reducible rfl
                 rotate_left
                 ·
                  simp only [Act.put, List.setIfInBounds_toArray, List.set_cons_zero, List.set_cons_succ, i64_w, i32_w]
                  rfl
                 refine pure_ (i := 48) (N := some 157) (v := ?_) (a' := ?_) #[true, true, true, true, true, true, true, true, true, true, true, true, true, true, true, true, true, true, true, true, true, true, true, true, true, true, true, true, true, true, true, true, true, true, true, true, true, true, true, true, true, true, true, true, false, false, false, true, true, false, false, false, false, false, false] rfl rfl (any_of HT_.out (by kernel_rfl)) (fun _ _ _ h => h) (Or.inl ⟨by rfl, ?_⟩) ?_ ?_
                 rotate_left
                 ·
                  intro w'
                  go_simp
                  with_reducible rfl
                 rotate_left
                 ·
                  simp only [Act.put, List.setIfInBounds_toArray, List.set_cons_zero, List.set_cons_succ, i64_w, i32_w]
                  rfl
                 refine take_ (i := 44) (N := some 153) (v := ?_) (a' := ?_) #[true, true, true, true, true, true, true, true, true, true, true, true, true, true, true, true, true, true, true, true, true, true, true, true, true, true, true, true, true, true, true, true, true, true, true, true, true, true, true, true, true, true, true, true, true, false, false, true, true, false, false, false, false, false, false] rfl rfl (take_ofW HT_.out HW_.out (by kernel_rfl)) (fun _ _ _ h => h) (Or.inl ⟨by rfl, ?_⟩) hHeld ?_ ?_
                 rotate_left
                 ·
                  rintro w' ⟨s0, s1⟩
                  go_simp
                  with_reducible rfl
                 rotate_left
                 ·
                  simp only [Act.put, List.setIfInBounds_toArray, List.set_cons_zero, List.set_cons_succ, i64_w, i32_w]
                  rfl
                 refine take_ (i := 49) (N := some 158) (v := ?_) (a' := ?_) #[true, true, true, true, true, true, true, true, true, true, true, true, true, true, true, true, true, true, true, true, true, true, true, true, true, true, true, true, true, true, true, true, true, true, true, true, true, true, true, true, true, true, true, true, true, false, false, true, true, true, false, false, false, false, false] rfl rfl (take_ofW HT_.out HW_.out (by kernel_rfl)) (fun _ _ _ h => h) (Or.inl ⟨by rfl, ?_⟩) hHeld ?_ ?_
                 rotate_left
                 ·
                  rintro w' ⟨s0, s1⟩
                  go_simp
                  with_reducible rfl
                 rotate_left
                 ·
                  simp only [Act.put, List.setIfInBounds_toArray, List.set_cons_zero, List.set_cons_succ, i64_w, i32_w]
                  rfl
                 refine join_ (σ := Value × Value) 4 #[true, true, true, true, true, true, true, true, true, true, true, true, true, true, true, true, true, true, true, true, true, true, true, true, true, true, true, true, true, true, true, true, true, true, true, true, true, true, true, true, true, true, true, true, true, true, true, true, true, true, true, false, false, false, false] (fun s_ => [(154, s_.1), (155, .int .i64 t270), (159, s_.2)]) (fun s_ w' => (w'.cell? ⟨gb239, 0, none⟩ = some (.slice A2_0 l2_0.length c2_0) ∧ w'.cell? ⟨gb239, 1, none⟩ = some (.int .i64 a2_1)) ∧ (Kd.R (Kd.int .i64) 2 w' w.heap.size (fun k_ => (w.heap.size ≤ k_) ∧ some k_ ≠ (.slice Ao59 t258.length co59 : Value).ownBlock) (.slice Ao58 t254.length co58) t254) ∧ (Kd.R (Kd.int .i64) 2 w' w.heap.size (fun k_ => (w.heap.size ≤ k_) ∧ some k_ ≠ (.slice Ao58 t254.length co58 : Value).ownBlock) (.slice Ao59 t258.length co59) t258) ∧ (Kd.N k26 26 w' w.heap.size (fun k_ => (P2_0_ k_ ∨ w.heap.size ≤ k_) ∧ some k_ ≠ (.slice Ao58 t254.length co58 : Value).ownBlock ∧ some k_ ≠ (.slice Ao59 t258.length co59 : Value).ownBlock ∧ some k_ ≠ (s_.2 : Value).ownBlock ∧ k_ ≠ gb239) s_.1 y267) ∧ (Kd.N k26 26 w' w.heap.size (fun k_ => (P2_0_ k_ ∨ w.heap.size ≤ k_) ∧ some k_ ≠ (.slice Ao58 t254.length co58 : Value).ownBlock ∧ some k_ ≠ (.slice Ao59 t258.length co59 : Value).ownBlock ∧ some k_ ≠ (s_.1 : Value).ownBlock ∧ k_ ≠ gb239) s_.2 y271) ∧ (Kd.V (Kd.int .i64) 2 w' w.heap.size (fun k_ => (P2_0_ k_ ∨ w.heap.size ≤ k_) ∧ some k_ ≠ (.slice Ao58 t254.length co58 : Value).ownBlock ∧ some k_ ≠ (.slice Ao59 t258.length co59 : Value).ownBlock ∧ some k_ ≠ (s_.1 : Value).ownBlock ∧ some k_ ≠ (s_.2 : Value).ownBlock ∧ k_ ≠ gb239) (.slice A2_0 l2_0.length c2_0) l2_0) ∧ (w'.heap[gb239]? = some (.cells #[.slice A2_0 l2_0.length c2_0, .int .i64 a2_1] 26 (0, 0))) ∧ (Below w.heap.size w w')) ?_ ?_
                 rotate_left
                 ·
                  intro hCont
                  refine two_ (i := 45) (j := 50) (Ni := some 154) (Nj := some 159) #[true, true, true, true, true, true, true, true, true, true, true, true, true, true, true, true, true, true, true, true, true, true, true, true, true, true, true, true, true, true, true, true, true, true, true, true, true, true, true, true, true, true, true, true, true, true, false, true, true, true, false, false, false, false, false] #[true, true, true, true, true, true, true, true, true, true, true, true, true, true, true, true, true, true, true, true, true, true, true, true, true, true, true, true, true, true, true, true, true, true, true, true, true, true, true, true, true, true, true, true, true, false, false, true, true, true, true, false, false, false, false] rfl rfl rfl rfl (two_of HT_.out (by kernel_rfl)) (by decide) (by decide) (fun K hK => ?_) (fun K hK => ?_)
                  ·
                   skip
                   refine Kd.N_lit_step k26 _ 26 ?hg (N' := 154) ?hd (xs := ([(⟨l2_0, a2_1⟩ : S26)] : List (S26))) (inner := [.slice A2_0 l2_0.length c2_0, .int .i64 a2_1]) (ok := (fun k_ => (P2_0_ k_ ∨ w.heap.size ≤ k_) ∧ some k_ ≠ (.slice Ao58 t254.length co58 : Value).ownBlock ∧ some k_ ≠ (.slice Ao59 t258.length co59 : Value).ownBlock ∧ k_ ≠ gb239)) (okp := (fun k_ => (P2_0_ k_ ∨ w.heap.size ≤ k_) ∧ some k_ ≠ (.slice Ao58 t254.length co58 : Value).ownBlock ∧ some k_ ≠ (.slice Ao59 t258.length co59 : Value).ownBlock ∧ k_ ≠ gb239)) ?hr ?hp (fun _ hk => hk) ((show ∀ k_, w60.heap.size ≤ k_ → (fun k_ => (P2_0_ k_ ∨ w.heap.size ≤ k_) ∧ some k_ ≠ (.slice Ao58 t254.length co58 : Value).ownBlock ∧ some k_ ≠ (.slice Ao59 t258.length co59 : Value).ownBlock ∧ k_ ≠ gb239) k_ from fun k_ hk => ⟨(.inr (Nat.le_trans (zzS (by repeat (first | (with_reducible first | exact HB.out | apply zzA | apply zzN | apply zzD | refine below_set ?_ GE239.out) | exact HB.out))) hk)), Kd.fresh' (Kd.R_lt (by (with_reducible repeat (first | apply rrA | apply rrN | apply rrD)); exact HO257.out)) k_ hk, Kd.fresh' (Kd.R_lt (by (with_reducible repeat (first | apply rrA | apply rrN | apply rrD)); exact HO261.out)) k_ hk, Kd.freshB (g := gb239) (o := .cells #[.slice A2_0 l2_0.length c2_0, .int .i64 a2_1] 26 (0, 0)) (by (with_reducible repeat (first | refine kkN ?_ _ | refine kkD ?_ | refine kkA ?_ _)); exact BK239.out) k_ hk⟩) _ (Nat.le_refl _)) (Below.refl _ _) (Nat.le_refl _) (by simp) ?_; (case hd => rfl); (case hg => rfl); (case hr => first | (go_simp; done) | (go_simp; rfl)); (case hp => exact (Reps.c2 (show Kd.FK k26 _ _ (⟨l2_0, a2_1⟩ : S26) [.slice A2_0 l2_0.length c2_0, .int .i64 a2_1] from (k26_mkF _ _ (⟨l2_0, a2_1⟩ : S26) (Kd.V_reads' (e := 2) (base := w.heap.size) (Kd.V_mono (ok' := (fun k_ => (P2_0_ k_ ∨ w.heap.size ≤ k_) ∧ some k_ ≠ (.slice Ao58 t254.length co58 : Value).ownBlock ∧ some k_ ≠ (.slice Ao59 t258.length co59 : Value).ownBlock ∧ k_ ≠ gb239)) (HO_240000.out) (fun k_ hk => by first | exact ⟨hk.1.1.1, ⟨hk.1.2, ⟨hk.2, hk.1.1.2⟩⟩⟩ | ((repeat' apply And.intro) <;> first | exact hk | exact trivial | exact hk.1 | exact hk.2 | exact hk.1.1 | exact hk.1.2 | exact hk.2.1 | exact hk.2.2 | exact hk.1.1.1 | exact hk.1.1.2 | exact hk.1.2.1 | exact hk.1.2.2 | exact hk.2.1.1 | exact hk.2.1.2 | exact hk.2.2.1 | exact hk.2.2.2 | exact hk.1.1.1.1 | exact hk.1.1.1.2 | grind)))).2.1 (Kd.V_F (e := 2) (base := w.heap.size) (Kd.V_mono (ok' := (fun k_ => (P2_0_ k_ ∨ w.heap.size ≤ k_) ∧ some k_ ≠ (.slice Ao58 t254.length co58 : Value).ownBlock ∧ some k_ ≠ (.slice Ao59 t258.length co59 : Value).ownBlock ∧ k_ ≠ gb239)) (HO_240000.out) (fun k_ hk => by first | exact ⟨hk.1.1.1, ⟨hk.1.2, ⟨hk.2, hk.1.1.2⟩⟩⟩ | ((repeat' apply And.intro) <;> first | exact hk | exact trivial | exact hk.1 | exact hk.2 | exact hk.1.1 | exact hk.1.2 | exact hk.2.1 | exact hk.2.2 | exact hk.1.1.1 | exact hk.1.1.2 | exact hk.1.2.1 | exact hk.1.2.2 | exact hk.2.1.1 | exact hk.2.1.2 | exact hk.2.2.1 | exact hk.2.2.2 | exact hk.1.1.1.1 | exact hk.1.1.1.2 | grind)))))) (Reps.none _ _)))
                   intro v268 w61 ho62 hb hg_ hnew_
                   clear hg_ hnew_
                   (first | rw [← Ny267.out] at ho62 | (simp only [Int.reduceToNat] at ho62; rw [← Ny267.out] at ho62))
                   have n0_ := Aside0.mk (Kd.V_elder' (by (with_reducible repeat (first | apply Kd.V_alloc | apply Kd.V_drewN | apply Kd.V_drew)); exact HO_240000.out) (Kd.N_base ho62) hb)
                   have n1_ := Aside0.mk (Kd.R_below (by (with_reducible repeat (first | apply rrA | apply rrN | apply rrD)); exact HO257.out) hb)
                   have n2_ := Aside0.mk (Kd.R_below (by (with_reducible repeat (first | apply rrA | apply rrN | apply rrD)); exact HO261.out) hb)
                   have n3_ := Aside0.mk (Kd.N_lower ho62 (zzS (by repeat (first | (with_reducible first | exact HB.out | apply zzA | apply zzN | apply zzD | refine below_set ?_ GE239.out) | exact HB.out))))
                   have n4_ := Aside0.mk (blk_below (g := gb239) (o := .cells #[.slice A2_0 l2_0.length c2_0, .int .i64 a2_1] 26 (0, 0)) (by (with_reducible repeat (first | refine kkN ?_ _ | refine kkD ?_ | refine kkA ?_ _)); exact BK239.out) hb)
                   have n5_ := Aside0.mk (zzT (by repeat (first | (with_reducible first | exact HB.out | apply zzA | apply zzN | apply zzD | refine below_set ?_ GE239.out) | exact HB.out)) hb)
                   clear HO_240000
                   clear HO257
                   clear HO261
                   clear BK239
                   clear HB
                   have HO_240000 := n0_
                   have HO257 := n1_
                   have HO261 := n2_
                   have HO269 := n3_
                   have BK239 := n4_
                   have HB := n5_
                   clear n0_ n1_ n2_ n3_ n4_ n5_
                   clear hb ho62
                   obtain ⟨Ao63, co63, eo63⟩ := Kd.N_slice HO269.out
                   (first | subst eo63 | (injection eo63 with f1_ f2_ f3_; have f4_ := f1_.symm; have f5_ := f3_.symm; clear f1_ f2_ f3_; subst f4_; subst f5_))
                   refine hK.out _ _ ⟨(blk_cell BK239.out 0).trans rfl, (blk_cell BK239.out 1).trans rfl⟩ (fun hHeld => ?_)
                   clear hK K
                   refine norm_ (a' := ?_) ?_ ?_
                   rotate_left
                   ·
                    show Act.put _ (some 154) _ = _
                    simp only [Act.put, List.setIfInBounds_toArray, List.set_cons_zero, List.set_cons_succ, i64_w, i32_w]
                    rfl
                   refine two_ (i := 46) (j := 50) (Ni := some 155) (Nj := some 159) #[true, true, true, true, true, true, true, true, true, true, true, true, true, true, true, true, true, true, true, true, true, true, true, true, true, true, true, true, true, true, true, true, true, true, true, true, true, true, true, true, true, true, true, true, true, true, true, true, true, true, false, false, false, false, false] #[true, true, true, true, true, true, true, true, true, true, true, true, true, true, true, true, true, true, true, true, true, true, true, true, true, true, true, true, true, true, true, true, true, true, true, true, true, true, true, true, true, true, true, true, true, true, false, true, true, true, true, false, false, false, false] rfl rfl rfl rfl (two_of HT_.out (by kernel_rfl)) (by decide) (by decide) (fun K hK => ?_) (fun K hK => ?_)
                   ·
                    skip
                    refine goes_ Try.func69 (by kernel_rfl) rfl #[.int .i64 a0, .slice A1 l1.length c1, .slice Ao63 y267.length co63] (by rfl) rfl rfl (by (try simp only [List.map_toArray, List.map_cons, List.map_nil]); first | done | rfl | (simp only [List.length_drop, List.length_take]; rfl)) ?_
                    with_reducible refine (linear_Check.calls a0 _ _ l1 _ _ y267 t270 _ ?side1 ?side2 ?side3 ?side4 A46.out).mono ?_
                    (case side1 => repeat (first | exact (Kd.C_below HR1.out HB.out) | (with_reducible refine ccA ?_ _) | (with_reducible refine ccN ?_ _) | (with_reducible refine ccD ?_)))
                    (case side2 => exact HC1.out)
                    (case side3 => repeat (first | exact (Kd.N_reads' HO269.out).2.2 | (with_reducible refine ccA ?_ _) | (with_reducible refine ccN ?_ _) | (with_reducible refine ccD ?_)))
                    (case side4 => exact (Kd.N_reads' HO269.out).2.1)
                    rintro e w64 ⟨rfl, hb⟩
                    refine ⟨_, rfl, ?_⟩
                    have n0_ := Aside0.mk (Kd.V_below (by (with_reducible repeat (first | apply Kd.V_alloc | apply Kd.V_drewN | apply Kd.V_drew)); exact HO_240000.out) hb)
                    have n1_ := Aside0.mk (Kd.R_below (by (with_reducible repeat (first | apply rrA | apply rrN | apply rrD)); exact HO257.out) hb)
                    have n2_ := Aside0.mk (Kd.R_below (by (with_reducible repeat (first | apply rrA | apply rrN | apply rrD)); exact HO261.out) hb)
                    have n3_ := Aside0.mk (Kd.N_below (by (with_reducible repeat (first | apply Kd.N_alloc | apply Kd.N_drewN | apply Kd.N_drew)); exact HO269.out) hb)
                    have n4_ := Aside0.mk (blk_below (g := gb239) (o := .cells #[.slice A2_0 l2_0.length c2_0, .int .i64 a2_1] 26 (0, 0)) (by (with_reducible repeat (first | refine kkN ?_ _ | refine kkD ?_ | refine kkA ?_ _)); exact BK239.out) hb)
                    have n5_ := Aside0.mk (zzT (by repeat (first | (with_reducible first | exact HB.out | apply zzA | apply zzN | apply zzD | refine below_set ?_ GE239.out) | exact HB.out)) hb)
                    clear HO_240000
                    clear HO257
                    clear HO261
                    clear HO269
                    clear BK239
                    clear HB
                    have HO_240000 := n0_
                    have HO257 := n1_
                    have HO261 := n2_
                    have HO269 := n3_
                    have BK239 := n4_
                    have HB := n5_
                    clear n0_ n1_ n2_ n3_ n4_ n5_
                    (try clear hb)
                    (try clear hb2)
                    (try clear hk)
                    (try clear hi)
                    refine hK.out _ _ ⟨(blk_cell BK239.out 0).trans rfl, (blk_cell BK239.out 1).trans rfl⟩ (fun hHeld => ?_)
                    clear hK K
                    refine norm_ (a' := ?_) ?_ ?_
                    rotate_left
                    ·
                     show Act.put _ (some 155) _ = _
                     simp only [Act.put, List.setIfInBounds_toArray, List.set_cons_zero, List.set_cons_succ, i64_w, i32_w]
                     rfl
                    refine one_ (i := 50) (N := some 159) #[true, true, true, true, true, true, true, true, true, true, true, true, true, true, true, true, true, true, true, true, true, true, true, true, true, true, true, true, true, true, true, true, true, true, true, true, true, true, true, true, true, true, true, true, true, true, true, true, true, true, true, false, false, false, false] rfl rfl (one_of HT_.out (by kernel_rfl)) (by decide) (fun K hK => ?_)
                    refine Kd.N_lit_step k26 _ 26 ?hg (N' := 159) ?hd (xs := ([(⟨l2_0, a2_1⟩ : S26)] : List (S26))) (inner := [.slice A2_0 l2_0.length c2_0, .int .i64 a2_1]) (ok := (fun k_ => (P2_0_ k_ ∨ w.heap.size ≤ k_) ∧ some k_ ≠ (.slice Ao58 t254.length co58 : Value).ownBlock ∧ some k_ ≠ (.slice Ao59 t258.length co59 : Value).ownBlock ∧ some k_ ≠ (.slice Ao63 y267.length co63 : Value).ownBlock ∧ k_ ≠ gb239)) (okp := (fun k_ => (P2_0_ k_ ∨ w.heap.size ≤ k_) ∧ some k_ ≠ (.slice Ao58 t254.length co58 : Value).ownBlock ∧ some k_ ≠ (.slice Ao59 t258.length co59 : Value).ownBlock ∧ some k_ ≠ (.slice Ao63 y267.length co63 : Value).ownBlock ∧ k_ ≠ gb239)) ?hr ?hp (fun _ hk => hk) ((show ∀ k_, w64.heap.size ≤ k_ → (fun k_ => (P2_0_ k_ ∨ w.heap.size ≤ k_) ∧ some k_ ≠ (.slice Ao58 t254.length co58 : Value).ownBlock ∧ some k_ ≠ (.slice Ao59 t258.length co59 : Value).ownBlock ∧ some k_ ≠ (.slice Ao63 y267.length co63 : Value).ownBlock ∧ k_ ≠ gb239) k_ from fun k_ hk => ⟨(.inr (Nat.le_trans (zzS (by repeat (first | (with_reducible first | exact HB.out | apply zzA | apply zzN | apply zzD | refine below_set ?_ GE239.out) | exact HB.out))) hk)), Kd.fresh' (Kd.R_lt (by (with_reducible repeat (first | apply rrA | apply rrN | apply rrD)); exact HO257.out)) k_ hk, Kd.fresh' (Kd.R_lt (by (with_reducible repeat (first | apply rrA | apply rrN | apply rrD)); exact HO261.out)) k_ hk, Kd.fresh' (Kd.N_lt (by (with_reducible repeat (first | apply Kd.N_alloc | apply Kd.N_drewN | apply Kd.N_drew)); exact HO269.out)) k_ hk, Kd.freshB (g := gb239) (o := .cells #[.slice A2_0 l2_0.length c2_0, .int .i64 a2_1] 26 (0, 0)) (by (with_reducible repeat (first | refine kkN ?_ _ | refine kkD ?_ | refine kkA ?_ _)); exact BK239.out) k_ hk⟩) _ (Nat.le_refl _)) (Below.refl _ _) (Nat.le_refl _) (by simp) ?_; (case hd => rfl); (case hg => rfl); (case hr => first | (go_simp; done) | (go_simp; rfl)); (case hp => exact (Reps.c2 (show Kd.FK k26 _ _ (⟨l2_0, a2_1⟩ : S26) [.slice A2_0 l2_0.length c2_0, .int .i64 a2_1] from (k26_mkF _ _ (⟨l2_0, a2_1⟩ : S26) (Kd.V_reads' (e := 2) (base := w.heap.size) (Kd.V_mono (ok' := (fun k_ => (P2_0_ k_ ∨ w.heap.size ≤ k_) ∧ some k_ ≠ (.slice Ao58 t254.length co58 : Value).ownBlock ∧ some k_ ≠ (.slice Ao59 t258.length co59 : Value).ownBlock ∧ some k_ ≠ (.slice Ao63 y267.length co63 : Value).ownBlock ∧ k_ ≠ gb239)) (HO_240000.out) (fun k_ hk => by first | exact ⟨hk.1.1.1.1, ⟨hk.1.1.2, ⟨hk.1.2, ⟨hk.2, hk.1.1.1.2⟩⟩⟩⟩ | ((repeat' apply And.intro) <;> first | exact hk | exact trivial | exact hk.1 | exact hk.2 | exact hk.1.1 | exact hk.1.2 | exact hk.2.1 | exact hk.2.2 | exact hk.1.1.1 | exact hk.1.1.2 | exact hk.1.2.1 | exact hk.1.2.2 | exact hk.2.1.1 | exact hk.2.1.2 | exact hk.2.2.1 | exact hk.2.2.2 | exact hk.1.1.1.1 | exact hk.1.1.1.2 | grind)))).2.1 (Kd.V_F (e := 2) (base := w.heap.size) (Kd.V_mono (ok' := (fun k_ => (P2_0_ k_ ∨ w.heap.size ≤ k_) ∧ some k_ ≠ (.slice Ao58 t254.length co58 : Value).ownBlock ∧ some k_ ≠ (.slice Ao59 t258.length co59 : Value).ownBlock ∧ some k_ ≠ (.slice Ao63 y267.length co63 : Value).ownBlock ∧ k_ ≠ gb239)) (HO_240000.out) (fun k_ hk => by first | exact ⟨hk.1.1.1.1, ⟨hk.1.1.2, ⟨hk.1.2, ⟨hk.2, hk.1.1.1.2⟩⟩⟩⟩ | ((repeat' apply And.intro) <;> first | exact hk | exact trivial | exact hk.1 | exact hk.2 | exact hk.1.1 | exact hk.1.2 | exact hk.2.1 | exact hk.2.2 | exact hk.1.1.1 | exact hk.1.1.2 | exact hk.1.2.1 | exact hk.1.2.2 | exact hk.2.1.1 | exact hk.2.1.2 | exact hk.2.2.1 | exact hk.2.2.2 | exact hk.1.1.1.1 | exact hk.1.1.1.2 | grind)))))) (Reps.none _ _)))
                    intro v272 w65 ho66 hb hg_ hnew_
                    clear hg_ hnew_
                    (first | rw [← Ny271.out] at ho66 | (simp only [Int.reduceToNat] at ho66; rw [← Ny271.out] at ho66))
                    have n0_ := Aside0.mk (Kd.V_elder' (by (with_reducible repeat (first | apply Kd.V_alloc | apply Kd.V_drewN | apply Kd.V_drew)); exact HO_240000.out) (Kd.N_base ho66) hb)
                    have n1_ := Aside0.mk (Kd.R_below (by (with_reducible repeat (first | apply rrA | apply rrN | apply rrD)); exact HO257.out) hb)
                    have n2_ := Aside0.mk (Kd.R_below (by (with_reducible repeat (first | apply rrA | apply rrN | apply rrD)); exact HO261.out) hb)
                    have n3_ := Aside0.mk (Kd.N_elder' (by (with_reducible repeat (first | apply Kd.N_alloc | apply Kd.N_drewN | apply Kd.N_drew)); exact HO269.out) (Kd.N_base ho66) hb)
                    have n4_ := Aside0.mk (Kd.N_lower ho66 (zzS (by repeat (first | (with_reducible first | exact HB.out | apply zzA | apply zzN | apply zzD | refine below_set ?_ GE239.out) | exact HB.out))))
                    have n5_ := Aside0.mk (blk_below (g := gb239) (o := .cells #[.slice A2_0 l2_0.length c2_0, .int .i64 a2_1] 26 (0, 0)) (by (with_reducible repeat (first | refine kkN ?_ _ | refine kkD ?_ | refine kkA ?_ _)); exact BK239.out) hb)
                    have n6_ := Aside0.mk (zzT (by repeat (first | (with_reducible first | exact HB.out | apply zzA | apply zzN | apply zzD | refine below_set ?_ GE239.out) | exact HB.out)) hb)
                    clear HO_240000
                    clear HO257
                    clear HO261
                    clear HO269
                    clear BK239
                    clear HB
                    have HO_240000 := n0_
                    have HO257 := n1_
                    have HO261 := n2_
                    have HO269 := n3_
                    have HO273 := n4_
                    have BK239 := n5_
                    have HB := n6_
                    clear n0_ n1_ n2_ n3_ n4_ n5_ n6_
                    clear hb ho66
                    refine hK.out _ _ ⟨(blk_cell BK239.out 0).trans rfl, (blk_cell BK239.out 1).trans rfl⟩ (fun hHeld => ?_)
                    clear hK K
                    refine norm_ (a' := ?_) ?_ ?_
                    rotate_left
                    ·
                     show Act.put _ (some 159) _ = _
                     simp only [Act.put, List.setIfInBounds_toArray, List.set_cons_zero, List.set_cons_succ, i64_w, i32_w]
                     rfl
                    exact norm_ (by simp only [putAll, Act.put, List.setIfInBounds_toArray, List.set_cons_zero, List.set_cons_succ]) (hCont (.slice Ao63 y267.length co63, v272) _ ⟨hHeld, (by (with_reducible repeat (first | apply rrA | apply rrN | apply rrD)); exact Kd.R_mono HO257.out (fun k_ hk => by first | exact ⟨hk.1.1, hk.2⟩ | ((repeat' apply And.intro) <;> first | exact hk | exact trivial | exact hk.1 | exact hk.2 | exact hk.1.1 | exact hk.1.2 | exact hk.2.1 | exact hk.2.2 | exact hk.1.1.1 | exact hk.1.1.2 | exact hk.1.2.1 | exact hk.1.2.2 | exact hk.2.1.1 | exact hk.2.1.2 | exact hk.2.2.1 | exact hk.2.2.2 | exact hk.1.1.1.1 | exact hk.1.1.1.2 | grind))), (by (with_reducible repeat (first | apply rrA | apply rrN | apply rrD)); exact Kd.R_mono HO261.out (fun k_ hk => by first | exact ⟨hk.1.1, hk.2⟩ | ((repeat' apply And.intro) <;> first | exact hk | exact trivial | exact hk.1 | exact hk.2 | exact hk.1.1 | exact hk.1.2 | exact hk.2.1 | exact hk.2.2 | exact hk.1.1.1 | exact hk.1.1.2 | exact hk.1.2.1 | exact hk.1.2.2 | exact hk.2.1.1 | exact hk.2.1.2 | exact hk.2.2.1 | exact hk.2.2.2 | exact hk.1.1.1.1 | exact hk.1.1.1.2 | grind))), (by (with_reducible repeat (first | apply Kd.N_alloc | apply Kd.N_drewN | apply Kd.N_drew)); exact Kd.N_mono HO269.out (fun k_ hk => by first | exact ⟨hk.1.1, ⟨hk.1.2.1, ⟨hk.1.2.2.1, ⟨hk.2, hk.1.2.2.2⟩⟩⟩⟩ | ((repeat' apply And.intro) <;> first | exact hk | exact trivial | exact hk.1 | exact hk.2 | exact hk.1.1 | exact hk.1.2 | exact hk.2.1 | exact hk.2.2 | exact hk.1.1.1 | exact hk.1.1.2 | exact hk.1.2.1 | exact hk.1.2.2 | exact hk.2.1.1 | exact hk.2.1.2 | exact hk.2.2.1 | exact hk.2.2.2 | exact hk.1.1.1.1 | exact hk.1.1.1.2 | grind))), (by (with_reducible repeat (first | apply Kd.N_alloc | apply Kd.N_drewN | apply Kd.N_drew)); exact HO273.out), (by (with_reducible repeat (first | apply Kd.V_alloc | apply Kd.V_drewN | apply Kd.V_drew)); exact Kd.V_mono HO_240000.out (fun k_ hk => by first | exact ⟨hk.1.1.1.1.1, ⟨hk.1.1.1.2, ⟨hk.1.1.2, ⟨hk.1.2, ⟨hk.2, hk.1.1.1.1.2⟩⟩⟩⟩⟩ | ((repeat' apply And.intro) <;> first | exact hk | exact trivial | exact hk.1 | exact hk.2 | exact hk.1.1 | exact hk.1.2 | exact hk.2.1 | exact hk.2.2 | exact hk.1.1.1 | exact hk.1.1.2 | exact hk.1.2.1 | exact hk.1.2.2 | exact hk.2.1.1 | exact hk.2.1.2 | exact hk.2.2.1 | exact hk.2.2.2 | exact hk.1.1.1.1 | exact hk.1.1.1.2 | grind))), (by (with_reducible repeat (first | refine kkN ?_ _ | refine kkD ?_ | refine kkA ?_ _)); exact BK239.out), (by repeat (first | (with_reducible first | exact HB.out | apply zzA | apply zzN | apply zzD | refine below_set ?_ GE239.out) | exact HB.out))⟩)
                   ·
                    skip
                    refine Kd.N_lit_step k26 _ 26 ?hg (N' := 159) ?hd (xs := ([(⟨l2_0, a2_1⟩ : S26)] : List (S26))) (inner := [.slice A2_0 l2_0.length c2_0, .int .i64 a2_1]) (ok := (fun k_ => (P2_0_ k_ ∨ w.heap.size ≤ k_) ∧ some k_ ≠ (.slice Ao58 t254.length co58 : Value).ownBlock ∧ some k_ ≠ (.slice Ao59 t258.length co59 : Value).ownBlock ∧ some k_ ≠ (.slice Ao63 y267.length co63 : Value).ownBlock ∧ k_ ≠ gb239)) (okp := (fun k_ => (P2_0_ k_ ∨ w.heap.size ≤ k_) ∧ some k_ ≠ (.slice Ao58 t254.length co58 : Value).ownBlock ∧ some k_ ≠ (.slice Ao59 t258.length co59 : Value).ownBlock ∧ some k_ ≠ (.slice Ao63 y267.length co63 : Value).ownBlock ∧ k_ ≠ gb239)) ?hr ?hp (fun _ hk => hk) ((show ∀ k_, w61.heap.size ≤ k_ → (fun k_ => (P2_0_ k_ ∨ w.heap.size ≤ k_) ∧ some k_ ≠ (.slice Ao58 t254.length co58 : Value).ownBlock ∧ some k_ ≠ (.slice Ao59 t258.length co59 : Value).ownBlock ∧ some k_ ≠ (.slice Ao63 y267.length co63 : Value).ownBlock ∧ k_ ≠ gb239) k_ from fun k_ hk => ⟨(.inr (Nat.le_trans (zzS (by repeat (first | (with_reducible first | exact HB.out | apply zzA | apply zzN | apply zzD | refine below_set ?_ GE239.out) | exact HB.out))) hk)), Kd.fresh' (Kd.R_lt (by (with_reducible repeat (first | apply rrA | apply rrN | apply rrD)); exact HO257.out)) k_ hk, Kd.fresh' (Kd.R_lt (by (with_reducible repeat (first | apply rrA | apply rrN | apply rrD)); exact HO261.out)) k_ hk, Kd.fresh' (Kd.N_lt (by (with_reducible repeat (first | apply Kd.N_alloc | apply Kd.N_drewN | apply Kd.N_drew)); exact HO269.out)) k_ hk, Kd.freshB (g := gb239) (o := .cells #[.slice A2_0 l2_0.length c2_0, .int .i64 a2_1] 26 (0, 0)) (by (with_reducible repeat (first | refine kkN ?_ _ | refine kkD ?_ | refine kkA ?_ _)); exact BK239.out) k_ hk⟩) _ (Nat.le_refl _)) (Below.refl _ _) (Nat.le_refl _) (by simp) ?_; (case hd => rfl); (case hg => rfl); (case hr => first | (go_simp; done) | (go_simp; rfl)); (case hp => exact (Reps.c2 (show Kd.FK k26 _ _ (⟨l2_0, a2_1⟩ : S26) [.slice A2_0 l2_0.length c2_0, .int .i64 a2_1] from (k26_mkF _ _ (⟨l2_0, a2_1⟩ : S26) (Kd.V_reads' (e := 2) (base := w.heap.size) (Kd.V_mono (ok' := (fun k_ => (P2_0_ k_ ∨ w.heap.size ≤ k_) ∧ some k_ ≠ (.slice Ao58 t254.length co58 : Value).ownBlock ∧ some k_ ≠ (.slice Ao59 t258.length co59 : Value).ownBlock ∧ some k_ ≠ (.slice Ao63 y267.length co63 : Value).ownBlock ∧ k_ ≠ gb239)) (HO_240000.out) (fun k_ hk => by first | exact ⟨hk.1.1.1.1, ⟨hk.1.1.2, ⟨hk.1.2, ⟨hk.2, hk.1.1.1.2⟩⟩⟩⟩ | ((repeat' apply And.intro) <;> first | exact hk | exact trivial | exact hk.1 | exact hk.2 | exact hk.1.1 | exact hk.1.2 | exact hk.2.1 | exact hk.2.2 | exact hk.1.1.1 | exact hk.1.1.2 | exact hk.1.2.1 | exact hk.1.2.2 | exact hk.2.1.1 | exact hk.2.1.2 | exact hk.2.2.1 | exact hk.2.2.2 | exact hk.1.1.1.1 | exact hk.1.1.1.2 | grind)))).2.1 (Kd.V_F (e := 2) (base := w.heap.size) (Kd.V_mono (ok' := (fun k_ => (P2_0_ k_ ∨ w.heap.size ≤ k_) ∧ some k_ ≠ (.slice Ao58 t254.length co58 : Value).ownBlock ∧ some k_ ≠ (.slice Ao59 t258.length co59 : Value).ownBlock ∧ some k_ ≠ (.slice Ao63 y267.length co63 : Value).ownBlock ∧ k_ ≠ gb239)) (HO_240000.out) (fun k_ hk => by first | exact ⟨hk.1.1.1.1, ⟨hk.1.1.2, ⟨hk.1.2, ⟨hk.2, hk.1.1.1.2⟩⟩⟩⟩ | ((repeat' apply And.intro) <;> first | exact hk | exact trivial | exact hk.1 | exact hk.2 | exact hk.1.1 | exact hk.1.2 | exact hk.2.1 | exact hk.2.2 | exact hk.1.1.1 | exact hk.1.1.2 | exact hk.1.2.1 | exact hk.1.2.2 | exact hk.2.1.1 | exact hk.2.1.2 | exact hk.2.2.1 | exact hk.2.2.2 | exact hk.1.1.1.1 | exact hk.1.1.1.2 | grind)))))) (Reps.none _ _)))
                    intro v272 w63 ho64 hb hg_ hnew_
                    clear hg_ hnew_
                    (first | rw [← Ny271.out] at ho64 | (simp only [Int.reduceToNat] at ho64; rw [← Ny271.out] at ho64))
                    have n0_ := Aside0.mk (Kd.V_elder' (by (with_reducible repeat (first | apply Kd.V_alloc | apply Kd.V_drewN | apply Kd.V_drew)); exact HO_240000.out) (Kd.N_base ho64) hb)
                    have n1_ := Aside0.mk (Kd.R_below (by (with_reducible repeat (first | apply rrA | apply rrN | apply rrD)); exact HO257.out) hb)
                    have n2_ := Aside0.mk (Kd.R_below (by (with_reducible repeat (first | apply rrA | apply rrN | apply rrD)); exact HO261.out) hb)
                    have n3_ := Aside0.mk (Kd.N_elder' (by (with_reducible repeat (first | apply Kd.N_alloc | apply Kd.N_drewN | apply Kd.N_drew)); exact HO269.out) (Kd.N_base ho64) hb)
                    have n4_ := Aside0.mk (Kd.N_lower ho64 (zzS (by repeat (first | (with_reducible first | exact HB.out | apply zzA | apply zzN | apply zzD | refine below_set ?_ GE239.out) | exact HB.out))))
                    have n5_ := Aside0.mk (blk_below (g := gb239) (o := .cells #[.slice A2_0 l2_0.length c2_0, .int .i64 a2_1] 26 (0, 0)) (by (with_reducible repeat (first | refine kkN ?_ _ | refine kkD ?_ | refine kkA ?_ _)); exact BK239.out) hb)
                    have n6_ := Aside0.mk (zzT (by repeat (first | (with_reducible first | exact HB.out | apply zzA | apply zzN | apply zzD | refine below_set ?_ GE239.out) | exact HB.out)) hb)
                    clear HO_240000
                    clear HO257
                    clear HO261
                    clear HO269
                    clear BK239
                    clear HB
                    have HO_240000 := n0_
                    have HO257 := n1_
                    have HO261 := n2_
                    have HO269 := n3_
                    have HO273 := n4_
                    have BK239 := n5_
                    have HB := n6_
                    clear n0_ n1_ n2_ n3_ n4_ n5_ n6_
                    clear hb ho64
                    obtain ⟨Ao65, co65, eo65⟩ := Kd.N_slice HO269.out
                    (first | subst eo65 | (injection eo65 with f1_ f2_ f3_; have f4_ := f1_.symm; have f5_ := f3_.symm; clear f1_ f2_ f3_; subst f4_; subst f5_))
                    refine hK.out _ _ ⟨(blk_cell BK239.out 0).trans rfl, (blk_cell BK239.out 1).trans rfl⟩ (fun hHeld => ?_)
                    clear hK K
                    refine norm_ (a' := ?_) ?_ ?_
                    rotate_left
                    ·
                     show Act.put _ (some 159) _ = _
                     simp only [Act.put, List.setIfInBounds_toArray, List.set_cons_zero, List.set_cons_succ, i64_w, i32_w]
                     rfl
                    refine one_ (i := 46) (N := some 155) #[true, true, true, true, true, true, true, true, true, true, true, true, true, true, true, true, true, true, true, true, true, true, true, true, true, true, true, true, true, true, true, true, true, true, true, true, true, true, true, true, true, true, true, true, true, true, true, true, true, true, true, false, false, false, false] rfl rfl (one_of HT_.out (by kernel_rfl)) (by decide) (fun K hK => ?_)
                    refine goes_ Try.func69 (by kernel_rfl) rfl #[.int .i64 a0, .slice A1 l1.length c1, .slice Ao65 y267.length co65] (by rfl) rfl rfl (by (try simp only [List.map_toArray, List.map_cons, List.map_nil]); first | done | rfl | (simp only [List.length_drop, List.length_take]; rfl)) ?_
                    with_reducible refine (linear_Check.calls a0 _ _ l1 _ _ y267 t270 _ ?side1 ?side2 ?side3 ?side4 A46.out).mono ?_
                    (case side1 => repeat (first | exact (Kd.C_below HR1.out HB.out) | (with_reducible refine ccA ?_ _) | (with_reducible refine ccN ?_ _) | (with_reducible refine ccD ?_)))
                    (case side2 => exact HC1.out)
                    (case side3 => repeat (first | exact (Kd.N_reads' HO269.out).2.2 | (with_reducible refine ccA ?_ _) | (with_reducible refine ccN ?_ _) | (with_reducible refine ccD ?_)))
                    (case side4 => exact (Kd.N_reads' HO269.out).2.1)
                    rintro e w66 ⟨rfl, hb⟩
                    refine ⟨_, rfl, ?_⟩
                    have n0_ := Aside0.mk (Kd.V_below (by (with_reducible repeat (first | apply Kd.V_alloc | apply Kd.V_drewN | apply Kd.V_drew)); exact HO_240000.out) hb)
                    have n1_ := Aside0.mk (Kd.R_below (by (with_reducible repeat (first | apply rrA | apply rrN | apply rrD)); exact HO257.out) hb)
                    have n2_ := Aside0.mk (Kd.R_below (by (with_reducible repeat (first | apply rrA | apply rrN | apply rrD)); exact HO261.out) hb)
                    have n3_ := Aside0.mk (Kd.N_below (by (with_reducible repeat (first | apply Kd.N_alloc | apply Kd.N_drewN | apply Kd.N_drew)); exact HO269.out) hb)
                    have n4_ := Aside0.mk (Kd.N_below (by (with_reducible repeat (first | apply Kd.N_alloc | apply Kd.N_drewN | apply Kd.N_drew)); exact HO273.out) hb)
                    have n5_ := Aside0.mk (blk_below (g := gb239) (o := .cells #[.slice A2_0 l2_0.length c2_0, .int .i64 a2_1] 26 (0, 0)) (by (with_reducible repeat (first | refine kkN ?_ _ | refine kkD ?_ | refine kkA ?_ _)); exact BK239.out) hb)
                    have n6_ := Aside0.mk (zzT (by repeat (first | (with_reducible first | exact HB.out | apply zzA | apply zzN | apply zzD | refine below_set ?_ GE239.out) | exact HB.out)) hb)
                    clear HO_240000
                    clear HO257
                    clear HO261
                    clear HO269
                    clear HO273
                    clear BK239
                    clear HB
                    have HO_240000 := n0_
                    have HO257 := n1_
                    have HO261 := n2_
                    have HO269 := n3_
                    have HO273 := n4_
                    have BK239 := n5_
                    have HB := n6_
                    clear n0_ n1_ n2_ n3_ n4_ n5_ n6_
                    (try clear hb)
                    (try clear hb2)
                    (try clear hk)
                    (try clear hi)
                    refine hK.out _ _ ⟨(blk_cell BK239.out 0).trans rfl, (blk_cell BK239.out 1).trans rfl⟩ (fun hHeld => ?_)
                    clear hK K
                    refine norm_ (a' := ?_) ?_ ?_
                    rotate_left
                    ·
                     show Act.put _ (some 155) _ = _
                     simp only [Act.put, List.setIfInBounds_toArray, List.set_cons_zero, List.set_cons_succ, i64_w, i32_w]
                     rfl
                    exact norm_ (by simp only [putAll, Act.put, List.setIfInBounds_toArray, List.set_cons_zero, List.set_cons_succ]) (hCont (.slice Ao65 y267.length co65, v272) _ ⟨hHeld, (by (with_reducible repeat (first | apply rrA | apply rrN | apply rrD)); exact Kd.R_mono HO257.out (fun k_ hk => by first | exact ⟨hk.1.1, hk.2⟩ | ((repeat' apply And.intro) <;> first | exact hk | exact trivial | exact hk.1 | exact hk.2 | exact hk.1.1 | exact hk.1.2 | exact hk.2.1 | exact hk.2.2 | exact hk.1.1.1 | exact hk.1.1.2 | exact hk.1.2.1 | exact hk.1.2.2 | exact hk.2.1.1 | exact hk.2.1.2 | exact hk.2.2.1 | exact hk.2.2.2 | exact hk.1.1.1.1 | exact hk.1.1.1.2 | grind))), (by (with_reducible repeat (first | apply rrA | apply rrN | apply rrD)); exact Kd.R_mono HO261.out (fun k_ hk => by first | exact ⟨hk.1.1, hk.2⟩ | ((repeat' apply And.intro) <;> first | exact hk | exact trivial | exact hk.1 | exact hk.2 | exact hk.1.1 | exact hk.1.2 | exact hk.2.1 | exact hk.2.2 | exact hk.1.1.1 | exact hk.1.1.2 | exact hk.1.2.1 | exact hk.1.2.2 | exact hk.2.1.1 | exact hk.2.1.2 | exact hk.2.2.1 | exact hk.2.2.2 | exact hk.1.1.1.1 | exact hk.1.1.1.2 | grind))), (by (with_reducible repeat (first | apply Kd.N_alloc | apply Kd.N_drewN | apply Kd.N_drew)); exact Kd.N_mono HO269.out (fun k_ hk => by first | exact ⟨hk.1.1, ⟨hk.1.2.1, ⟨hk.1.2.2.1, ⟨hk.2, hk.1.2.2.2⟩⟩⟩⟩ | ((repeat' apply And.intro) <;> first | exact hk | exact trivial | exact hk.1 | exact hk.2 | exact hk.1.1 | exact hk.1.2 | exact hk.2.1 | exact hk.2.2 | exact hk.1.1.1 | exact hk.1.1.2 | exact hk.1.2.1 | exact hk.1.2.2 | exact hk.2.1.1 | exact hk.2.1.2 | exact hk.2.2.1 | exact hk.2.2.2 | exact hk.1.1.1.1 | exact hk.1.1.1.2 | grind))), (by (with_reducible repeat (first | apply Kd.N_alloc | apply Kd.N_drewN | apply Kd.N_drew)); exact HO273.out), (by (with_reducible repeat (first | apply Kd.V_alloc | apply Kd.V_drewN | apply Kd.V_drew)); exact Kd.V_mono HO_240000.out (fun k_ hk => by first | exact ⟨hk.1.1.1.1.1, ⟨hk.1.1.1.2, ⟨hk.1.1.2, ⟨hk.1.2, ⟨hk.2, hk.1.1.1.1.2⟩⟩⟩⟩⟩ | ((repeat' apply And.intro) <;> first | exact hk | exact trivial | exact hk.1 | exact hk.2 | exact hk.1.1 | exact hk.1.2 | exact hk.2.1 | exact hk.2.2 | exact hk.1.1.1 | exact hk.1.1.2 | exact hk.1.2.1 | exact hk.1.2.2 | exact hk.2.1.1 | exact hk.2.1.2 | exact hk.2.2.1 | exact hk.2.2.2 | exact hk.1.1.1.1 | exact hk.1.1.1.2 | grind))), (by (with_reducible repeat (first | refine kkN ?_ _ | refine kkD ?_ | refine kkA ?_ _)); exact BK239.out), (by repeat (first | (with_reducible first | exact HB.out | apply zzA | apply zzN | apply zzD | refine below_set ?_ GE239.out) | exact HB.out))⟩)
                  ·
                   skip
                   refine Kd.N_lit_step k26 _ 26 ?hg (N' := 159) ?hd (xs := ([(⟨l2_0, a2_1⟩ : S26)] : List (S26))) (inner := [.slice A2_0 l2_0.length c2_0, .int .i64 a2_1]) (ok := (fun k_ => (P2_0_ k_ ∨ w.heap.size ≤ k_) ∧ some k_ ≠ (.slice Ao58 t254.length co58 : Value).ownBlock ∧ some k_ ≠ (.slice Ao59 t258.length co59 : Value).ownBlock ∧ k_ ≠ gb239)) (okp := (fun k_ => (P2_0_ k_ ∨ w.heap.size ≤ k_) ∧ some k_ ≠ (.slice Ao58 t254.length co58 : Value).ownBlock ∧ some k_ ≠ (.slice Ao59 t258.length co59 : Value).ownBlock ∧ k_ ≠ gb239)) ?hr ?hp (fun _ hk => hk) ((show ∀ k_, w60.heap.size ≤ k_ → (fun k_ => (P2_0_ k_ ∨ w.heap.size ≤ k_) ∧ some k_ ≠ (.slice Ao58 t254.length co58 : Value).ownBlock ∧ some k_ ≠ (.slice Ao59 t258.length co59 : Value).ownBlock ∧ k_ ≠ gb239) k_ from fun k_ hk => ⟨(.inr (Nat.le_trans (zzS (by repeat (first | (with_reducible first | exact HB.out | apply zzA | apply zzN | apply zzD | refine below_set ?_ GE239.out) | exact HB.out))) hk)), Kd.fresh' (Kd.R_lt (by (with_reducible repeat (first | apply rrA | apply rrN | apply rrD)); exact HO257.out)) k_ hk, Kd.fresh' (Kd.R_lt (by (with_reducible repeat (first | apply rrA | apply rrN | apply rrD)); exact HO261.out)) k_ hk, Kd.freshB (g := gb239) (o := .cells #[.slice A2_0 l2_0.length c2_0, .int .i64 a2_1] 26 (0, 0)) (by (with_reducible repeat (first | refine kkN ?_ _ | refine kkD ?_ | refine kkA ?_ _)); exact BK239.out) k_ hk⟩) _ (Nat.le_refl _)) (Below.refl _ _) (Nat.le_refl _) (by simp) ?_; (case hd => rfl); (case hg => rfl); (case hr => first | (go_simp; done) | (go_simp; rfl)); (case hp => exact (Reps.c2 (show Kd.FK k26 _ _ (⟨l2_0, a2_1⟩ : S26) [.slice A2_0 l2_0.length c2_0, .int .i64 a2_1] from (k26_mkF _ _ (⟨l2_0, a2_1⟩ : S26) (Kd.V_reads' (e := 2) (base := w.heap.size) (Kd.V_mono (ok' := (fun k_ => (P2_0_ k_ ∨ w.heap.size ≤ k_) ∧ some k_ ≠ (.slice Ao58 t254.length co58 : Value).ownBlock ∧ some k_ ≠ (.slice Ao59 t258.length co59 : Value).ownBlock ∧ k_ ≠ gb239)) (HO_240000.out) (fun k_ hk => by first | exact ⟨hk.1.1.1, ⟨hk.1.2, ⟨hk.2, hk.1.1.2⟩⟩⟩ | ((repeat' apply And.intro) <;> first | exact hk | exact trivial | exact hk.1 | exact hk.2 | exact hk.1.1 | exact hk.1.2 | exact hk.2.1 | exact hk.2.2 | exact hk.1.1.1 | exact hk.1.1.2 | exact hk.1.2.1 | exact hk.1.2.2 | exact hk.2.1.1 | exact hk.2.1.2 | exact hk.2.2.1 | exact hk.2.2.2 | exact hk.1.1.1.1 | exact hk.1.1.1.2 | grind)))).2.1 (Kd.V_F (e := 2) (base := w.heap.size) (Kd.V_mono (ok' := (fun k_ => (P2_0_ k_ ∨ w.heap.size ≤ k_) ∧ some k_ ≠ (.slice Ao58 t254.length co58 : Value).ownBlock ∧ some k_ ≠ (.slice Ao59 t258.length co59 : Value).ownBlock ∧ k_ ≠ gb239)) (HO_240000.out) (fun k_ hk => by first | exact ⟨hk.1.1.1, ⟨hk.1.2, ⟨hk.2, hk.1.1.2⟩⟩⟩ | ((repeat' apply And.intro) <;> first | exact hk | exact trivial | exact hk.1 | exact hk.2 | exact hk.1.1 | exact hk.1.2 | exact hk.2.1 | exact hk.2.2 | exact hk.1.1.1 | exact hk.1.1.2 | exact hk.1.2.1 | exact hk.1.2.2 | exact hk.2.1.1 | exact hk.2.1.2 | exact hk.2.2.1 | exact hk.2.2.2 | exact hk.1.1.1.1 | exact hk.1.1.1.2 | grind)))))) (Reps.none _ _)))
                   intro v272 w61 ho62 hb hg_ hnew_
                   clear hg_ hnew_
                   (first | rw [← Ny271.out] at ho62 | (simp only [Int.reduceToNat] at ho62; rw [← Ny271.out] at ho62))
                   have n0_ := Aside0.mk (Kd.V_elder' (by (with_reducible repeat (first | apply Kd.V_alloc | apply Kd.V_drewN | apply Kd.V_drew)); exact HO_240000.out) (Kd.N_base ho62) hb)
                   have n1_ := Aside0.mk (Kd.R_below (by (with_reducible repeat (first | apply rrA | apply rrN | apply rrD)); exact HO257.out) hb)
                   have n2_ := Aside0.mk (Kd.R_below (by (with_reducible repeat (first | apply rrA | apply rrN | apply rrD)); exact HO261.out) hb)
                   have n3_ := Aside0.mk (Kd.N_lower ho62 (zzS (by repeat (first | (with_reducible first | exact HB.out | apply zzA | apply zzN | apply zzD | refine below_set ?_ GE239.out) | exact HB.out))))
                   have n4_ := Aside0.mk (blk_below (g := gb239) (o := .cells #[.slice A2_0 l2_0.length c2_0, .int .i64 a2_1] 26 (0, 0)) (by (with_reducible repeat (first | refine kkN ?_ _ | refine kkD ?_ | refine kkA ?_ _)); exact BK239.out) hb)
                   have n5_ := Aside0.mk (zzT (by repeat (first | (with_reducible first | exact HB.out | apply zzA | apply zzN | apply zzD | refine below_set ?_ GE239.out) | exact HB.out)) hb)
                   clear HO_240000
                   clear HO257
                   clear HO261
                   clear BK239
                   clear HB
                   have HO_240000 := n0_
                   have HO257 := n1_
                   have HO261 := n2_
                   have HO273 := n3_
                   have BK239 := n4_
                   have HB := n5_
                   clear n0_ n1_ n2_ n3_ n4_ n5_
                   clear hb ho62
                   refine hK.out _ _ ⟨(blk_cell BK239.out 0).trans rfl, (blk_cell BK239.out 1).trans rfl⟩ (fun hHeld => ?_)
                   clear hK K
                   refine norm_ (a' := ?_) ?_ ?_
                   rotate_left
                   ·
                    show Act.put _ (some 159) _ = _
                    simp only [Act.put, List.setIfInBounds_toArray, List.set_cons_zero, List.set_cons_succ, i64_w, i32_w]
                    rfl
                   refine one_ (i := 45) (N := some 154) #[true, true, true, true, true, true, true, true, true, true, true, true, true, true, true, true, true, true, true, true, true, true, true, true, true, true, true, true, true, true, true, true, true, true, true, true, true, true, true, true, true, true, true, true, true, true, false, true, true, true, true, false, false, false, false] rfl rfl (one_of HT_.out (by kernel_rfl)) (by decide) (fun K hK => ?_)
                   refine Kd.N_lit_step k26 _ 26 ?hg (N' := 154) ?hd (xs := ([(⟨l2_0, a2_1⟩ : S26)] : List (S26))) (inner := [.slice A2_0 l2_0.length c2_0, .int .i64 a2_1]) (ok := (fun k_ => (P2_0_ k_ ∨ w.heap.size ≤ k_) ∧ some k_ ≠ (.slice Ao58 t254.length co58 : Value).ownBlock ∧ some k_ ≠ (.slice Ao59 t258.length co59 : Value).ownBlock ∧ some k_ ≠ (v272 : Value).ownBlock ∧ k_ ≠ gb239)) (okp := (fun k_ => (P2_0_ k_ ∨ w.heap.size ≤ k_) ∧ some k_ ≠ (.slice Ao58 t254.length co58 : Value).ownBlock ∧ some k_ ≠ (.slice Ao59 t258.length co59 : Value).ownBlock ∧ some k_ ≠ (v272 : Value).ownBlock ∧ k_ ≠ gb239)) ?hr ?hp (fun _ hk => hk) ((show ∀ k_, w61.heap.size ≤ k_ → (fun k_ => (P2_0_ k_ ∨ w.heap.size ≤ k_) ∧ some k_ ≠ (.slice Ao58 t254.length co58 : Value).ownBlock ∧ some k_ ≠ (.slice Ao59 t258.length co59 : Value).ownBlock ∧ some k_ ≠ (v272 : Value).ownBlock ∧ k_ ≠ gb239) k_ from fun k_ hk => ⟨(.inr (Nat.le_trans (zzS (by repeat (first | (with_reducible first | exact HB.out | apply zzA | apply zzN | apply zzD | refine below_set ?_ GE239.out) | exact HB.out))) hk)), Kd.fresh' (Kd.R_lt (by (with_reducible repeat (first | apply rrA | apply rrN | apply rrD)); exact HO257.out)) k_ hk, Kd.fresh' (Kd.R_lt (by (with_reducible repeat (first | apply rrA | apply rrN | apply rrD)); exact HO261.out)) k_ hk, Kd.fresh' (Kd.N_lt (by (with_reducible repeat (first | apply Kd.N_alloc | apply Kd.N_drewN | apply Kd.N_drew)); exact HO273.out)) k_ hk, Kd.freshB (g := gb239) (o := .cells #[.slice A2_0 l2_0.length c2_0, .int .i64 a2_1] 26 (0, 0)) (by (with_reducible repeat (first | refine kkN ?_ _ | refine kkD ?_ | refine kkA ?_ _)); exact BK239.out) k_ hk⟩) _ (Nat.le_refl _)) (Below.refl _ _) (Nat.le_refl _) (by simp) ?_; (case hd => rfl); (case hg => rfl); (case hr => first | (go_simp; done) | (go_simp; rfl)); (case hp => exact (Reps.c2 (show Kd.FK k26 _ _ (⟨l2_0, a2_1⟩ : S26) [.slice A2_0 l2_0.length c2_0, .int .i64 a2_1] from (k26_mkF _ _ (⟨l2_0, a2_1⟩ : S26) (Kd.V_reads' (e := 2) (base := w.heap.size) (Kd.V_mono (ok' := (fun k_ => (P2_0_ k_ ∨ w.heap.size ≤ k_) ∧ some k_ ≠ (.slice Ao58 t254.length co58 : Value).ownBlock ∧ some k_ ≠ (.slice Ao59 t258.length co59 : Value).ownBlock ∧ some k_ ≠ (v272 : Value).ownBlock ∧ k_ ≠ gb239)) (HO_240000.out) (fun k_ hk => by first | exact ⟨hk.1.1.1.1, ⟨hk.1.1.2, ⟨hk.1.2, ⟨hk.2, hk.1.1.1.2⟩⟩⟩⟩ | ((repeat' apply And.intro) <;> first | exact hk | exact trivial | exact hk.1 | exact hk.2 | exact hk.1.1 | exact hk.1.2 | exact hk.2.1 | exact hk.2.2 | exact hk.1.1.1 | exact hk.1.1.2 | exact hk.1.2.1 | exact hk.1.2.2 | exact hk.2.1.1 | exact hk.2.1.2 | exact hk.2.2.1 | exact hk.2.2.2 | exact hk.1.1.1.1 | exact hk.1.1.1.2 | grind)))).2.1 (Kd.V_F (e := 2) (base := w.heap.size) (Kd.V_mono (ok' := (fun k_ => (P2_0_ k_ ∨ w.heap.size ≤ k_) ∧ some k_ ≠ (.slice Ao58 t254.length co58 : Value).ownBlock ∧ some k_ ≠ (.slice Ao59 t258.length co59 : Value).ownBlock ∧ some k_ ≠ (v272 : Value).ownBlock ∧ k_ ≠ gb239)) (HO_240000.out) (fun k_ hk => by first | exact ⟨hk.1.1.1.1, ⟨hk.1.1.2, ⟨hk.1.2, ⟨hk.2, hk.1.1.1.2⟩⟩⟩⟩ | ((repeat' apply And.intro) <;> first | exact hk | exact trivial | exact hk.1 | exact hk.2 | exact hk.1.1 | exact hk.1.2 | exact hk.2.1 | exact hk.2.2 | exact hk.1.1.1 | exact hk.1.1.2 | exact hk.1.2.1 | exact hk.1.2.2 | exact hk.2.1.1 | exact hk.2.1.2 | exact hk.2.2.1 | exact hk.2.2.2 | exact hk.1.1.1.1 | exact hk.1.1.1.2 | grind)))))) (Reps.none _ _)))
                   intro v268 w63 ho64 hb hg_ hnew_
                   clear hg_ hnew_
                   (first | rw [← Ny267.out] at ho64 | (simp only [Int.reduceToNat] at ho64; rw [← Ny267.out] at ho64))
                   have n0_ := Aside0.mk (Kd.V_elder' (by (with_reducible repeat (first | apply Kd.V_alloc | apply Kd.V_drewN | apply Kd.V_drew)); exact HO_240000.out) (Kd.N_base ho64) hb)
                   have n1_ := Aside0.mk (Kd.R_below (by (with_reducible repeat (first | apply rrA | apply rrN | apply rrD)); exact HO257.out) hb)
                   have n2_ := Aside0.mk (Kd.R_below (by (with_reducible repeat (first | apply rrA | apply rrN | apply rrD)); exact HO261.out) hb)
                   have n3_ := Aside0.mk (Kd.N_elder' (by (with_reducible repeat (first | apply Kd.N_alloc | apply Kd.N_drewN | apply Kd.N_drew)); exact HO273.out) (Kd.N_base ho64) hb)
                   have n4_ := Aside0.mk (Kd.N_lower ho64 (zzS (by repeat (first | (with_reducible first | exact HB.out | apply zzA | apply zzN | apply zzD | refine below_set ?_ GE239.out) | exact HB.out))))
                   have n5_ := Aside0.mk (blk_below (g := gb239) (o := .cells #[.slice A2_0 l2_0.length c2_0, .int .i64 a2_1] 26 (0, 0)) (by (with_reducible repeat (first | refine kkN ?_ _ | refine kkD ?_ | refine kkA ?_ _)); exact BK239.out) hb)
                   have n6_ := Aside0.mk (zzT (by repeat (first | (with_reducible first | exact HB.out | apply zzA | apply zzN | apply zzD | refine below_set ?_ GE239.out) | exact HB.out)) hb)
                   clear HO_240000
                   clear HO257
                   clear HO261
                   clear HO273
                   clear BK239
                   clear HB
                   have HO_240000 := n0_
                   have HO257 := n1_
                   have HO261 := n2_
                   have HO273 := n3_
                   have HO269 := n4_
                   have BK239 := n5_
                   have HB := n6_
                   clear n0_ n1_ n2_ n3_ n4_ n5_ n6_
                   clear hb ho64
                   obtain ⟨Ao65, co65, eo65⟩ := Kd.N_slice HO269.out
                   (first | subst eo65 | (injection eo65 with f1_ f2_ f3_; have f4_ := f1_.symm; have f5_ := f3_.symm; clear f1_ f2_ f3_; subst f4_; subst f5_))
                   refine hK.out _ _ ⟨(blk_cell BK239.out 0).trans rfl, (blk_cell BK239.out 1).trans rfl⟩ (fun hHeld => ?_)
                   clear hK K
                   refine norm_ (a' := ?_) ?_ ?_
                   rotate_left
                   ·
                    show Act.put _ (some 154) _ = _
                    simp only [Act.put, List.setIfInBounds_toArray, List.set_cons_zero, List.set_cons_succ, i64_w, i32_w]
                    rfl
                   refine one_ (i := 46) (N := some 155) #[true, true, true, true, true, true, true, true, true, true, true, true, true, true, true, true, true, true, true, true, true, true, true, true, true, true, true, true, true, true, true, true, true, true, true, true, true, true, true, true, true, true, true, true, true, true, true, true, true, true, true, false, false, false, false] rfl rfl (one_of HT_.out (by kernel_rfl)) (by decide) (fun K hK => ?_)
                   refine goes_ Try.func69 (by kernel_rfl) rfl #[.int .i64 a0, .slice A1 l1.length c1, .slice Ao65 y267.length co65] (by rfl) rfl rfl (by (try simp only [List.map_toArray, List.map_cons, List.map_nil]); first | done | rfl | (simp only [List.length_drop, List.length_take]; rfl)) ?_
                   with_reducible refine (linear_Check.calls a0 _ _ l1 _ _ y267 t270 _ ?side1 ?side2 ?side3 ?side4 A46.out).mono ?_
                   (case side1 => repeat (first | exact (Kd.C_below HR1.out HB.out) | (with_reducible refine ccA ?_ _) | (with_reducible refine ccN ?_ _) | (with_reducible refine ccD ?_)))
                   (case side2 => exact HC1.out)
                   (case side3 => repeat (first | exact (Kd.N_reads' HO269.out).2.2 | (with_reducible refine ccA ?_ _) | (with_reducible refine ccN ?_ _) | (with_reducible refine ccD ?_)))
                   (case side4 => exact (Kd.N_reads' HO269.out).2.1)
                   rintro e w66 ⟨rfl, hb⟩
                   refine ⟨_, rfl, ?_⟩
                   have n0_ := Aside0.mk (Kd.V_below (by (with_reducible repeat (first | apply Kd.V_alloc | apply Kd.V_drewN | apply Kd.V_drew)); exact HO_240000.out) hb)
                   have n1_ := Aside0.mk (Kd.R_below (by (with_reducible repeat (first | apply rrA | apply rrN | apply rrD)); exact HO257.out) hb)
                   have n2_ := Aside0.mk (Kd.R_below (by (with_reducible repeat (first | apply rrA | apply rrN | apply rrD)); exact HO261.out) hb)
                   have n3_ := Aside0.mk (Kd.N_below (by (with_reducible repeat (first | apply Kd.N_alloc | apply Kd.N_drewN | apply Kd.N_drew)); exact HO273.out) hb)
                   have n4_ := Aside0.mk (Kd.N_below (by (with_reducible repeat (first | apply Kd.N_alloc | apply Kd.N_drewN | apply Kd.N_drew)); exact HO269.out) hb)
                   have n5_ := Aside0.mk (blk_below (g := gb239) (o := .cells #[.slice A2_0 l2_0.length c2_0, .int .i64 a2_1] 26 (0, 0)) (by (with_reducible repeat (first | refine kkN ?_ _ | refine kkD ?_ | refine kkA ?_ _)); exact BK239.out) hb)
                   have n6_ := Aside0.mk (zzT (by repeat (first | (with_reducible first | exact HB.out | apply zzA | apply zzN | apply zzD | refine below_set ?_ GE239.out) | exact HB.out)) hb)
                   clear HO_240000
                   clear HO257
                   clear HO261
                   clear HO273
                   clear HO269
                   clear BK239
                   clear HB
                   have HO_240000 := n0_
                   have HO257 := n1_
                   have HO261 := n2_
                   have HO273 := n3_
                   have HO269 := n4_
                   have BK239 := n5_
                   have HB := n6_
                   clear n0_ n1_ n2_ n3_ n4_ n5_ n6_
                   (try clear hb)
                   (try clear hb2)
                   (try clear hk)
                   (try clear hi)
                   refine hK.out _ _ ⟨(blk_cell BK239.out 0).trans rfl, (blk_cell BK239.out 1).trans rfl⟩ (fun hHeld => ?_)
                   clear hK K
                   refine norm_ (a' := ?_) ?_ ?_
                   rotate_left
                   ·
                    show Act.put _ (some 155) _ = _
                    simp only [Act.put, List.setIfInBounds_toArray, List.set_cons_zero, List.set_cons_succ, i64_w, i32_w]
                    rfl
                   exact norm_ (by simp only [putAll, Act.put, List.setIfInBounds_toArray, List.set_cons_zero, List.set_cons_succ]) (hCont (.slice Ao65 y267.length co65, v272) _ ⟨hHeld, (by (with_reducible repeat (first | apply rrA | apply rrN | apply rrD)); exact Kd.R_mono HO257.out (fun k_ hk => by first | exact ⟨hk.1.1, hk.2⟩ | ((repeat' apply And.intro) <;> first | exact hk | exact trivial | exact hk.1 | exact hk.2 | exact hk.1.1 | exact hk.1.2 | exact hk.2.1 | exact hk.2.2 | exact hk.1.1.1 | exact hk.1.1.2 | exact hk.1.2.1 | exact hk.1.2.2 | exact hk.2.1.1 | exact hk.2.1.2 | exact hk.2.2.1 | exact hk.2.2.2 | exact hk.1.1.1.1 | exact hk.1.1.1.2 | grind))), (by (with_reducible repeat (first | apply rrA | apply rrN | apply rrD)); exact Kd.R_mono HO261.out (fun k_ hk => by first | exact ⟨hk.1.1, hk.2⟩ | ((repeat' apply And.intro) <;> first | exact hk | exact trivial | exact hk.1 | exact hk.2 | exact hk.1.1 | exact hk.1.2 | exact hk.2.1 | exact hk.2.2 | exact hk.1.1.1 | exact hk.1.1.2 | exact hk.1.2.1 | exact hk.1.2.2 | exact hk.2.1.1 | exact hk.2.1.2 | exact hk.2.2.1 | exact hk.2.2.2 | exact hk.1.1.1.1 | exact hk.1.1.1.2 | grind))), (by (with_reducible repeat (first | apply Kd.N_alloc | apply Kd.N_drewN | apply Kd.N_drew)); exact HO269.out), (by (with_reducible repeat (first | apply Kd.N_alloc | apply Kd.N_drewN | apply Kd.N_drew)); exact Kd.N_mono HO273.out (fun k_ hk => by first | exact ⟨hk.1.1, ⟨hk.1.2.1, ⟨hk.1.2.2.1, ⟨hk.2, hk.1.2.2.2⟩⟩⟩⟩ | ((repeat' apply And.intro) <;> first | exact hk | exact trivial | exact hk.1 | exact hk.2 | exact hk.1.1 | exact hk.1.2 | exact hk.2.1 | exact hk.2.2 | exact hk.1.1.1 | exact hk.1.1.2 | exact hk.1.2.1 | exact hk.1.2.2 | exact hk.2.1.1 | exact hk.2.1.2 | exact hk.2.2.1 | exact hk.2.2.2 | exact hk.1.1.1.1 | exact hk.1.1.1.2 | grind))), (by (with_reducible repeat (first | apply Kd.V_alloc | apply Kd.V_drewN | apply Kd.V_drew)); exact Kd.V_mono HO_240000.out (fun k_ hk => by first | exact ⟨hk.1.1.1.1.1, ⟨hk.1.1.1.2, ⟨hk.1.1.2, ⟨hk.2, ⟨hk.1.2, hk.1.1.1.1.2⟩⟩⟩⟩⟩ | ((repeat' apply And.intro) <;> first | exact hk | exact trivial | exact hk.1 | exact hk.2 | exact hk.1.1 | exact hk.1.2 | exact hk.2.1 | exact hk.2.2 | exact hk.1.1.1 | exact hk.1.1.2 | exact hk.1.2.1 | exact hk.1.2.2 | exact hk.2.1.1 | exact hk.2.1.2 | exact hk.2.2.1 | exact hk.2.2.2 | exact hk.1.1.1.1 | exact hk.1.1.1.2 | grind))), (by (with_reducible repeat (first | refine kkN ?_ _ | refine kkD ?_ | refine kkA ?_ _)); exact BK239.out), (by repeat (first | (with_reducible first | exact HB.out | apply zzA | apply zzN | apply zzD | refine below_set ?_ GE239.out) | exact HB.out))⟩)
                 rintro ⟨v268, v272⟩ w67 ⟨hS_, h0_, h1_, h2_, h3_, h4_, h5_, h6_⟩
                 have n0_ : Aside0 (Kd.R (Kd.int .i64) 2 w67 w.heap.size (fun k_ => (w.heap.size ≤ k_) ∧ some k_ ≠ (.slice Ao59 t258.length co59 : Value).ownBlock) (.slice Ao58 t254.length co58) t254) := ⟨h0_⟩
                 have n1_ : Aside0 (Kd.R (Kd.int .i64) 2 w67 w.heap.size (fun k_ => (w.heap.size ≤ k_) ∧ some k_ ≠ (.slice Ao58 t254.length co58 : Value).ownBlock) (.slice Ao59 t258.length co59) t258) := ⟨h1_⟩
                 have n2_ : Aside0 (Kd.N k26 26 w67 w.heap.size (fun k_ => (P2_0_ k_ ∨ w.heap.size ≤ k_) ∧ some k_ ≠ (.slice Ao58 t254.length co58 : Value).ownBlock ∧ some k_ ≠ (.slice Ao59 t258.length co59 : Value).ownBlock ∧ some k_ ≠ (v272 : Value).ownBlock ∧ k_ ≠ gb239) v268 y267) := ⟨h2_⟩
                 have n3_ : Aside0 (Kd.N k26 26 w67 w.heap.size (fun k_ => (P2_0_ k_ ∨ w.heap.size ≤ k_) ∧ some k_ ≠ (.slice Ao58 t254.length co58 : Value).ownBlock ∧ some k_ ≠ (.slice Ao59 t258.length co59 : Value).ownBlock ∧ some k_ ≠ (v268 : Value).ownBlock ∧ k_ ≠ gb239) v272 y271) := ⟨h3_⟩
                 have n4_ : Aside0 (Kd.V (Kd.int .i64) 2 w67 w.heap.size (fun k_ => (P2_0_ k_ ∨ w.heap.size ≤ k_) ∧ some k_ ≠ (.slice Ao58 t254.length co58 : Value).ownBlock ∧ some k_ ≠ (.slice Ao59 t258.length co59 : Value).ownBlock ∧ some k_ ≠ (v268 : Value).ownBlock ∧ some k_ ≠ (v272 : Value).ownBlock ∧ k_ ≠ gb239) (.slice A2_0 l2_0.length c2_0) l2_0) := ⟨h4_⟩
                 have n5_ : Aside0 (w67.heap[gb239]? = some (.cells #[.slice A2_0 l2_0.length c2_0, .int .i64 a2_1] 26 (0, 0))) := ⟨h5_⟩
                 have n6_ : Aside0 (Below w.heap.size w w67) := ⟨h6_⟩
                 clear HO_240000
                 clear HO257
                 clear HO261
                 clear BK239
                 clear HB
                 clear h0_ h1_ h2_ h3_ h4_ h5_ h6_
                 have HO257 := n0_
                 have HO261 := n1_
                 have HO269 := n2_
                 have HO273 := n3_
                 have HO_240000 := n4_
                 have BK239 := n5_
                 have HB := n6_
                 clear n0_ n1_ n2_ n3_ n4_ n5_ n6_
                 have hHeld : w67.cell? ⟨gb239, 0, none⟩ = some (.slice A2_0 l2_0.length c2_0) ∧ w67.cell? ⟨gb239, 1, none⟩ = some (.int .i64 a2_1) := hS_
                 obtain ⟨Ao68, co68, eo68⟩ := Kd.N_slice HO273.out
                 (first | subst eo68 | (injection eo68 with f1_ f2_ f3_; have f4_ := f1_.symm; have f5_ := f3_.symm; clear f1_ f2_ f3_; subst f4_; subst f5_))
                 refine norm_ (a' := ?_) ?_ ?_
                 rotate_left
                 ·
                  simp only [putAll, Act.put, List.setIfInBounds_toArray, List.set_cons_zero, List.set_cons_succ]
                  rfl
                 refine one_ (i := 51) (N := some 160) #[true, true, true, true, true, true, true, true, true, true, true, true, true, true, true, true, true, true, true, true, true, true, true, true, true, true, true, true, true, true, true, true, true, true, true, true, true, true, true, true, true, true, true, true, true, true, true, true, true, true, true, true, false, false, false] rfl rfl (one_of HT_.out (by kernel_rfl)) (by decide) (fun K hK => ?_)
                 refine goes_ Try.func70 (by kernel_rfl) rfl #[.int .i64 a0, .slice A1 l1.length c1, .slice Ao68 y271.length co68] (by rfl) rfl rfl (by (try simp only [List.map_toArray, List.map_cons, List.map_nil]); first | done | rfl | (simp only [List.length_drop, List.length_take]; rfl)) ?_
                 with_reducible refine (thrumref14_Check.calls a0 _ _ l1 _ _ y271 t274 _ ?side1 ?side2 ?side3 ?side4 A47.out).mono ?_
                 (case side1 => repeat (first | exact (Kd.C_below HR1.out HB.out) | (with_reducible refine ccA ?_ _) | (with_reducible refine ccN ?_ _) | (with_reducible refine ccD ?_)))
                 (case side2 => exact HC1.out)
                 (case side3 => repeat (first | exact (Kd.N_reads' HO273.out).2.2 | (with_reducible refine ccA ?_ _) | (with_reducible refine ccN ?_ _) | (with_reducible refine ccD ?_)))
                 (case side4 => exact (Kd.N_reads' HO273.out).2.1)
                 rintro e w69 ⟨rfl, hb⟩
                 refine ⟨_, rfl, ?_⟩
                 have n0_ := Aside0.mk (Kd.V_below (by (with_reducible repeat (first | apply Kd.V_alloc | apply Kd.V_drewN | apply Kd.V_drew)); exact HO_240000.out) hb)
                 have n1_ := Aside0.mk (Kd.R_below (by (with_reducible repeat (first | apply rrA | apply rrN | apply rrD)); exact HO257.out) hb)
                 have n2_ := Aside0.mk (Kd.R_below (by (with_reducible repeat (first | apply rrA | apply rrN | apply rrD)); exact HO261.out) hb)
                 have n3_ := Aside0.mk (Kd.N_below (by (with_reducible repeat (first | apply Kd.N_alloc | apply Kd.N_drewN | apply Kd.N_drew)); exact HO269.out) hb)
                 have n4_ := Aside0.mk (Kd.N_below (by (with_reducible repeat (first | apply Kd.N_alloc | apply Kd.N_drewN | apply Kd.N_drew)); exact HO273.out) hb)
                 have n5_ := Aside0.mk (blk_below (g := gb239) (o := .cells #[.slice A2_0 l2_0.length c2_0, .int .i64 a2_1] 26 (0, 0)) (by (with_reducible repeat (first | refine kkN ?_ _ | refine kkD ?_ | refine kkA ?_ _)); exact BK239.out) hb)
                 have n6_ := Aside0.mk (zzT (by repeat (first | (with_reducible first | exact HB.out | apply zzA | apply zzN | apply zzD | refine below_set ?_ GE239.out) | exact HB.out)) hb)
                 clear HO_240000
                 clear HO257
                 clear HO261
                 clear HO269
                 clear HO273
                 clear BK239
                 clear HB
                 have HO_240000 := n0_
                 have HO257 := n1_
                 have HO261 := n2_
                 have HO269 := n3_
                 have HO273 := n4_
                 have BK239 := n5_
                 have HB := n6_
                 clear n0_ n1_ n2_ n3_ n4_ n5_ n6_
                 (try clear hb)
                 (try clear hb2)
                 (try clear hk)
                 (try clear hi)
                 refine hK.out _ _ ⟨(blk_cell BK239.out 0).trans rfl, (blk_cell BK239.out 1).trans rfl⟩ (fun hHeld => ?_)
                 clear hK K
                 refine norm_ (a' := ?_) ?_ ?_
                 rotate_left
                 ·
                  show Act.put _ (some 160) _ = _
                  simp only [Act.put, List.setIfInBounds_toArray, List.set_cons_zero, List.set_cons_succ, i64_w, i32_w]
                  rfl
                 refine pure_ (i := 52) (N := some 161) (v := ?_) (a' := ?_) #[true, true, true, true, true, true, true, true, true, true, true, true, true, true, true, true, true, true, true, true, true, true, true, true, true, true, true, true, true, true, true, true, true, true, true, true, true, true, true, true, true, true, true, true, true, true, true, true, true, true, true, true, true, false, false] rfl rfl (any_of HT_.out (by kernel_rfl)) (fun _ _ _ h => h) (Or.inl ⟨by rfl, ?_⟩) ?_ ?_
                 rotate_left
                 ·
                  intro w'
                  go_simp
                  with_reducible rfl
                 rotate_left
                 ·
                  simp only [Act.put, List.setIfInBounds_toArray, List.set_cons_zero, List.set_cons_succ, i64_w, i32_w]
                  rfl
                 refine pure_ (i := 53) (N := some 162) (v := ?_) (a' := ?_) #[true, true, true, true, true, true, true, true, true, true, true, true, true, true, true, true, true, true, true, true, true, true, true, true, true, true, true, true, true, true, true, true, true, true, true, true, true, true, true, true, true, true, true, true, true, true, true, true, true, true, true, true, true, true, false] rfl rfl (any_of HT_.out (by kernel_rfl)) (fun _ _ _ h => h) (Or.inl ⟨by rfl, ?_⟩) ?_ ?_
                 rotate_left
                 ·
                  intro w'
                  go_simp
                  with_reducible rfl
                 rotate_left
                 ·
                  simp only [Act.put, List.setIfInBounds_toArray, List.set_cons_zero, List.set_cons_succ, i64_w, i32_w]
                  rfl
                 refine pure_ (i := 54) (N := some 12) (v := ?_) (a' := ?_) #[true, true, true, true, true, true, true, true, true, true, true, true, true, true, true, true, true, true, true, true, true, true, true, true, true, true, true, true, true, true, true, true, true, true, true, true, true, true, true, true, true, true, true, true, true, true, true, true, true, true, true, true, true, true, true] rfl rfl (any_of HT_.out (by kernel_rfl)) (fun _ _ _ h => h) (Or.inl ⟨by rfl, ?_⟩) ?_ ?_
                 rotate_left
                 ·
                  intro w'
                  go_simp
                  with_reducible rfl
                 rotate_left
                 ·
                  simp only [Act.put, List.setIfInBounds_toArray, List.set_cons_zero, List.set_cons_succ, i64_w, i32_w]
                  rfl
                 refine done_ (done_of HT_.out (by kernel_rfl)) ?_
                 try go_wp2
                 go_ret
                 exact ⟨by first | rfl | (simp [errW_none, errW_some] <;> rfl) | (simp [*, errW_none, errW_some] <;> rfl), by repeat (first | (with_reducible first | exact HB.out | apply zzA | apply zzN | apply zzD | refine below_set ?_ GE239.out) | exact HB.out)⟩
               ·
                rw [if_neg c45] at H
                exact absurd (Option.some.inj H) (by rw [HR_.out]; decide)
              ·
               rw [if_neg c44] at H
               exact absurd (Option.some.inj H) (by rw [HR_.out]; decide)
             ·
              rw [if_neg c43] at H
              exact absurd (Option.some.inj H) (by rw [HR_.out]; decide)
            ·
             replace c42 := Bool.eq_false_iff.mpr c42
             subst c42
             have H1 : (some false) = some r := by rw [if_neg (show ¬ (false = true) by decide)] at H; exact H
             exact absurd (Option.some.inj H1) (by rw [HR_.out]; decide)
           ·
            rw [if_neg c40] at H
            exact absurd (Option.some.inj H) (by rw [HR_.out]; decide)
          ·
           rw [if_neg c39] at H
           exact absurd (Option.some.inj H) (by rw [HR_.out]; decide)
         ·
          rw [if_neg c38] at H
          exact absurd (Option.some.inj H) (by rw [HR_.out]; decide)
        ·
         rw [if_neg c37] at H
         exact absurd (Option.some.inj H) (by rw [HR_.out]; decide)
 ·
  replace c8 := Bool.eq_false_iff.mpr c8
  subst c8
  have H1 : (some false) = some r := by rw [if_neg (show ¬ (false = true) by decide)] at H; exact H
  exact absurd (Option.some.inj H1) (by rw [HR_.out]; decide)

/-- THE ONE PURE STATEMENT of thrumlaw14_LinearTells: yours. -/
def thrumlaw14_LinearTells.Pure : Prop := ∀ (a0 : Int) (l1 : List Int) (l2_0 : List Int) (a2_1 : Int) (a3 : Int) (a4 : Int) (l5 : List (List Int)), (Lit.int .i64 a0).wf = true → l1.length ≤ maxLen → l1.length * 8 ≤ 140737488351232 → (∀ x ∈ l1, (Lit.int .i64 x).wf = true) → (l2_0.length ≤ maxLen ∧ ∀ x__ ∈ l2_0, (Lit.int .i64 x__).wf = true) → (Lit.int .i64 a2_1).wf = true → (Lit.int .i64 a3).wf = true → (Lit.int .i64 a4).wf = true → (l5.length ≤ maxLen ∧ ∀ x__ ∈ l5, (x__.length ≤ maxLen ∧ ∀ x2__ ∈ x__, (Lit.int .i64 x2__).wf = true)) → ∃ k, thrumlaw14_LinearTells.f k a0 l1 l2_0 a2_1 a3 a4 l5 = some true
theorem thrumlaw14_LinearTells.walk (P : thrumlaw14_LinearTells.Pure) (a0 : Int) (a1 : Option Addr) (len1 cap1 : Nat) (z1 : List Int) (A2_0 : Option Addr) (c2_0 : Nat) (l2_0 : List Int) (a2_1 : Int) (a3 : Int) (a4 : Int) (A5 : Option Addr) (c5 : Nat) (l5 : List (List Int)) (w : World) (w0 : (Lit.int .i64 a0).wf = true) (w1 : (a1 = none ∧ len1 = 0 ∧ cap1 = 0 ∧ z1 = []) ∨ ∃ x, a1 = some x ∧ len1 ≤ cap1 ∧ cap1 ≤ maxLen ∧ z1.length = cap1 ∧ (∀ i, i < z1.length → w.cell? (x.add i) = some (.int .i64 (z1.getD i 0))) ∧ ∀ n ∈ z1, (Lit.int .i64 n).wf = true) (y1 : len1 * 8 ≤ 140737488351232) (hr2_0 : Kd.C (Kd.int .i64) w A2_0 l2_0.length l2_0) (hc2_0 : l2_0.length ≤ c2_0) (hg2_0 : (l2_0.length ≤ maxLen ∧ ∀ x__ ∈ l2_0, (Lit.int .i64 x__).wf = true)) (w2_1 : (Lit.int .i64 a2_1).wf = true) (w3 : (Lit.int .i64 a3).wf = true) (w4 : (Lit.int .i64 a4).wf = true) (hr5 : Kd.C (Kd.slice 2 (Kd.int .i64)) w A5 l5.length l5) (hc5 : l5.length ≤ c5) (hg5 : (l5.length ≤ maxLen ∧ ∀ x__ ∈ l5, (x__.length ≤ maxLen ∧ ∀ x2__ ∈ x__, (Lit.int .i64 x2__).wf = true))) :
  Calls Try.prog 12 #[.int .i64 a0, .slice a1 len1 cap1, .agg #[.slice A2_0 l2_0.length c2_0, .int .i64 a2_1], .int .i64 a3, .int .i64 a4, .slice A5 l5.length c5] w fun e w' => e = .returned (.bool true) ∧ Below w.heap.size w w' := by
 obtain ⟨l1, rfl, hr1, hm1, hw1, hc1⟩ := ReadsInt.ofRowC w1
 obtain ⟨k, h⟩ := P a0 l1 l2_0 a2_1 a3 a4 l5 w0 hm1 y1 hw1 hg2_0 w2_1 w3 w4 hg5
 refine (thrumlaw14_LinearTells.calls k a0 _ _ l1 (fun k_ => k_ < w.heap.size) _ _ l2_0 a2_1 a3 a4 _ _ l5 true w (Kd.C_of_reads (d := (0 : Int)) (h1 := fun _ => rfl) hr1) hc1 (Kd.V_mk hc2_0 (Kd.C_F (Kd.heap_int _) hr2_0)) hr5 hc5 h rfl).mono ?_
 rintro e w' ⟨rfl, hd⟩
 exact ⟨rfl, hd⟩





































































































































































































































































































































































































































































































































































































































































































































































































































































































































































































































































































end Go.Proofs.Ytfbdalnjijdknaa.HL
