/- What Go functions do, each as a plain Lean function with the same answers, and the proof of it, in every world: printed by the session's driver over the kit's print, with texts by hand. -/
import Derived.Test.YtalamamjodihaaaHMx0
import Derived.Test.YtalamamjodihaaaHMx2
import Derived.Test.YtalamamjodihaaaHMx3
import Derived.Test.YtalamamjodihaaaHMx4
namespace Go.Proofs.Ytalamamjodihaaa.HM
open Go.RowKit Go.Proofs.YtalamamjodihaaaW.PrintWords Go.Proofs.YtalamamjodihaaaW.PrintLast Go.Proofs.YtalamamjodihaaaW.PrintMore
attribute [local go_sem] max2_int min2_int max_two min_two max_three min_three max_four min_four   -- for this text's walks alone
open Go.Proofs.Ytalamamjodihaaa.Sp
attribute [local go_sem] Go.Proofs.Ytalamamjodihaaa.Sp.u64_not
set_option linter.unusedVariables false
set_option linter.unusedSimpArgs false

/-! ### thrumlaw16_MlpHides: function 3 -/
mutual
def thrumlaw16_MlpHides.j0 : Nat → Int → List Int → List Int → Int → Bool → List Int → List (List Int) → List Int → Bool → Option (Bool)
 | 0, _, _, _, _, _, _, _, _, _ => none
 | k + 1, x0, x1, x2, x3, x9, x10, x12, x13, x76 => if x76 = true then (some false) else (thrumlaw16_MlpHides.l0 k x0 x1 x2 x3 x9 x10 x13 x12 (x12.length : Int) 0)
def thrumlaw16_MlpHides.l0 : Nat → Int → List Int → List Int → Int → Bool → List Int → List Int → List (List Int) → Int → Int → Option (Bool)
 | 0, _, _, _, _, _, _, _, _, _, _ => none
 | k + 1, x0, x1, x2, x3, x9, x10, x13, x77, x78, x79 => if x79 < x78 then (if 0 ≤ x79 then (if x79 < (x77.length : Int) then ((linear_Tell.f (rd_L1 x77 x79) x2 x3).bind fun bt174 => (if bt174.2 = 0 then (if x79 < (x10.length : Int) then (if (rd x10 x79) < 0 then (some false) else (if bt174.1 > 0 then (if (rd x10 x79) = bt174.1 then (if bt174.1 ≤ 0 then (if (rd x10 x79) = 0 then (thrumlaw16_MlpHides.l0 k x0 x1 x2 x3 x9 x10 x13 x77 x78 (wrap64 (x79 + 1))) else (some false)) else (thrumlaw16_MlpHides.l0 k x0 x1 x2 x3 x9 x10 x13 x77 x78 (wrap64 (x79 + 1)))) else (some false)) else (if bt174.1 ≤ 0 then (if (rd x10 x79) = 0 then (thrumlaw16_MlpHides.l0 k x0 x1 x2 x3 x9 x10 x13 x77 x78 (wrap64 (x79 + 1))) else (some false)) else (thrumlaw16_MlpHides.l0 k x0 x1 x2 x3 x9 x10 x13 x77 x78 (wrap64 (x79 + 1)))))) else (none)) else (some false))) else (none)) else (none)) else ((mlp_Tell.f x0 x1 x2 x3).bind fun bt180 => ((linear_Tell.f x13 x10 x3).bind fun bt182 => (if x9 = true then (if bt180.1 = bt182.1 then (some (bt180.2 == bt182.2)) else (some false)) else (some false))))
end
def thrumlaw16_MlpHides.f (k : Nat) (a0 : Int) (l1 : List Int) (l2 : List Int) (a3 : Int) : Option (Bool) := (thrumlaw16_live.f).bind fun t157 => (if t157 = true then ((thrumref14_Few.f l1 (([(⟨l2, 0⟩ : S26)] : List (S26)))).bind fun t161 => (if t161 = true then ((mlp_Hidden.f a0 l1 l2 a3).bind fun bt162 => (if bt162.2 = 0 then ((mlp_Split.f a0 l1).bind fun bt166 => (if bt166.2.2 = 0 then (if (bt162.1.length : Int) = a0 then (if (bt166.1.length : Int) = a0 then (thrumlaw16_MlpHides.j0 k a0 l1 l2 a3 t157 bt162.1 bt166.1 bt166.2.1 ((bt166.2.1.length : Int) != (wrap64 (a0 + 1)))) else (thrumlaw16_MlpHides.j0 k a0 l1 l2 a3 t157 bt162.1 bt166.1 bt166.2.1 true)) else (thrumlaw16_MlpHides.j0 k a0 l1 l2 a3 t157 bt162.1 bt166.1 bt166.2.1 true)) else (thrumlaw16_MlpHides.j0 k a0 l1 l2 a3 t157 bt162.1 bt166.1 bt166.2.1 true))) else (some ((bt162.1.length : Int) == 0)))) else (some t157))) else (some false))
theorem thrumlaw16_MlpHides.mono_l : ∀ k, (∀ y0 y1 y2 y3 y4 y5 y6 y7 y8, LeO (thrumlaw16_MlpHides.j0 k y0 y1 y2 y3 y4 y5 y6 y7 y8) (thrumlaw16_MlpHides.j0 (k + 1) y0 y1 y2 y3 y4 y5 y6 y7 y8)) ∧ (∀ y0 y1 y2 y3 y4 y5 y6 y7 y8 y9, LeO (thrumlaw16_MlpHides.l0 k y0 y1 y2 y3 y4 y5 y6 y7 y8 y9) (thrumlaw16_MlpHides.l0 (k + 1) y0 y1 y2 y3 y4 y5 y6 y7 y8 y9))
 | 0 => ⟨fun _ _ _ _ _ _ _ _ _ r h => by simp [thrumlaw16_MlpHides.j0] at h, fun _ _ _ _ _ _ _ _ _ _ r h => by simp [thrumlaw16_MlpHides.l0] at h⟩
 | k + 1 => by
  obtain ⟨ih0, ih1⟩ := thrumlaw16_MlpHides.mono_l k
  refine ⟨?_, ?_⟩
  ·
   intro y0 y1 y2 y3 y4 y5 y6 y7 y8
   unfold thrumlaw16_MlpHides.j0
   repeat' first
   | (with_reducible exact ih0 _ _ _ _ _ _ _ _ _)
   | (with_reducible exact ih1 _ _ _ _ _ _ _ _ _ _)
   | (with_reducible exact LeO.refl _)
   | (with_reducible exact LeO.none _)
   | (with_reducible refine LeO.ite ?_ ?_)
   | (with_reducible refine LeO.bind ?_ (fun _ => ?_))
   | exact ih0 _ _ _ _ _ _ _ _ _
   | exact ih1 _ _ _ _ _ _ _ _ _ _
   | exact LeO.none _
   | refine LeO.ite ?_ ?_
   | refine LeO.bind ?_ (fun _ => ?_)
  ·
   intro y0 y1 y2 y3 y4 y5 y6 y7 y8 y9
   unfold thrumlaw16_MlpHides.l0
   repeat' first
   | (with_reducible exact ih0 _ _ _ _ _ _ _ _ _)
   | (with_reducible exact ih1 _ _ _ _ _ _ _ _ _ _)
   | (with_reducible exact LeO.refl _)
   | (with_reducible exact LeO.none _)
   | (with_reducible refine LeO.ite ?_ ?_)
   | (with_reducible refine LeO.bind ?_ (fun _ => ?_))
   | exact ih0 _ _ _ _ _ _ _ _ _
   | exact ih1 _ _ _ _ _ _ _ _ _ _
   | exact LeO.none _
   | refine LeO.ite ?_ ?_
   | refine LeO.bind ?_ (fun _ => ?_)
theorem thrumlaw16_MlpHides.mono : ∀ a0 a1 a2 a3 k, LeO (thrumlaw16_MlpHides.f k a0 a1 a2 a3) (thrumlaw16_MlpHides.f (k + 1) a0 a1 a2 a3) := by
 intro a0 a1 a2 a3 k
 obtain ⟨ih0, ih1⟩ := thrumlaw16_MlpHides.mono_l k
 unfold thrumlaw16_MlpHides.f
 repeat' first
   | (with_reducible exact ih0 _ _ _ _ _ _ _ _ _)
   | (with_reducible exact ih1 _ _ _ _ _ _ _ _ _ _)
   | (with_reducible exact LeO.refl _)
   | (with_reducible exact LeO.none _)
   | (with_reducible refine LeO.ite ?_ ?_)
   | (with_reducible refine LeO.bind ?_ (fun _ => ?_))
   | exact ih0 _ _ _ _ _ _ _ _ _
   | exact ih1 _ _ _ _ _ _ _ _ _ _
   | exact LeO.none _
   | refine LeO.ite ?_ ?_
   | refine LeO.bind ?_ (fun _ => ?_)
theorem thrumlaw16_MlpHides.j0_not {k : Nat} {y0} {y1} {y2} {y3} {y4} {y5} {y6} {y7} (h : thrumlaw16_MlpHides.j0 k y0 y1 y2 y3 y4 y5 y6 y7 true = some true) : False := by cases k <;> simp [thrumlaw16_MlpHides.j0] at h
set_option maxHeartbeats 80000000 in
set_option maxRecDepth 100000 in
theorem thrumlaw16_MlpHides.calls (k : Nat) (a0 : Int) (A1 : Option Addr) (c1 : Nat) (l1 : List Int) (P2_ : Nat → Prop) (A2 : Option Addr) (c2 : Nat) (l2 : List Int) (a3 : Int) (r : Bool) (w : World) (hr1 : Kd.C (Kd.int .i64) w A1 l1.length l1) (hc1 : l1.length ≤ c1) (hs2 : Kd.V (Kd.int .i64) 2 w w.heap.size (fun k_ => P2_ k_) (.slice A2 l2.length c2) l2) (h : thrumlaw16_MlpHides.f k a0 l1 l2 a3 = some r) (hr_ : r = true) :
  Calls Try.prog 3 #[.int .i64 a0, .slice A1 l1.length c1, .slice A2 l2.length c2, .int .i64 a3] w fun e w' => e = .returned (.bool r) ∧ Below w.heap.size w w' := by
 have HR_ := Aside0.mk hr_
 clear hr_
 have hu26 := Try.underlying26
 have HR1 := Aside0.mk hr1
 have HC1 := Aside0.mk hc1
 clear hr1 hc1
 have HO2 := Aside0.mk (show Kd.V (Kd.int .i64) 2 w w.heap.size (fun k_ => (P2_ k_ ∨ w.heap.size ≤ k_)) (.slice A2 l2.length c2) l2 from Kd.V_mono hs2 (fun k_ hk => .inl hk))
 have HB := Aside0.mk (Below.refl w.heap.size w)
 have H : ((thrumlaw16_live.f).bind fun t157 => (if t157 = true then ((thrumref14_Few.f l1 (([(⟨l2, 0⟩ : S26)] : List (S26)))).bind fun t161 => (if t161 = true then ((mlp_Hidden.f a0 l1 l2 a3).bind fun bt162 => (if bt162.2 = 0 then ((mlp_Split.f a0 l1).bind fun bt166 => (if bt166.2.2 = 0 then (if (bt162.1.length : Int) = a0 then (if (bt166.1.length : Int) = a0 then (thrumlaw16_MlpHides.j0 k a0 l1 l2 a3 t157 bt162.1 bt166.1 bt166.2.1 ((bt166.2.1.length : Int) != (wrap64 (a0 + 1)))) else (thrumlaw16_MlpHides.j0 k a0 l1 l2 a3 t157 bt162.1 bt166.1 bt166.2.1 true)) else (thrumlaw16_MlpHides.j0 k a0 l1 l2 a3 t157 bt162.1 bt166.1 bt166.2.1 true)) else (thrumlaw16_MlpHides.j0 k a0 l1 l2 a3 t157 bt162.1 bt166.1 bt166.2.1 true))) else (some ((bt162.1.length : Int) == 0)))) else (some t157))) else (some false))) = some r := h
 clear h
 replace H := Option.bind_eq_some_iff.mp H
 obtain ⟨t157, A50, H⟩ := H
 replace H : (if t157 = true then ((thrumref14_Few.f l1 (([(⟨l2, 0⟩ : S26)] : List (S26)))).bind fun t161 => (if t161 = true then ((mlp_Hidden.f a0 l1 l2 a3).bind fun bt162 => (if bt162.2 = 0 then ((mlp_Split.f a0 l1).bind fun bt166 => (if bt166.2.2 = 0 then (if (bt162.1.length : Int) = a0 then (if (bt166.1.length : Int) = a0 then (thrumlaw16_MlpHides.j0 k a0 l1 l2 a3 t157 bt162.1 bt166.1 bt166.2.1 ((bt166.2.1.length : Int) != (wrap64 (a0 + 1)))) else (thrumlaw16_MlpHides.j0 k a0 l1 l2 a3 t157 bt162.1 bt166.1 bt166.2.1 true)) else (thrumlaw16_MlpHides.j0 k a0 l1 l2 a3 t157 bt162.1 bt166.1 bt166.2.1 true)) else (thrumlaw16_MlpHides.j0 k a0 l1 l2 a3 t157 bt162.1 bt166.1 bt166.2.1 true))) else (some ((bt162.1.length : Int) == 0)))) else (some t157))) else (some false)) = some r := H
 have A5 := Aside0.mk A50
 clear A50
 by_cases c6 : t157 = true
 ·
  subst c6
  have H1 : ((thrumref14_Few.f l1 (([(⟨l2, 0⟩ : S26)] : List (S26)))).bind fun t161 => (if t161 = true then ((mlp_Hidden.f a0 l1 l2 a3).bind fun bt162 => (if bt162.2 = 0 then ((mlp_Split.f a0 l1).bind fun bt166 => (if bt166.2.2 = 0 then (if (bt162.1.length : Int) = a0 then (if (bt166.1.length : Int) = a0 then (thrumlaw16_MlpHides.j0 k a0 l1 l2 a3 true bt162.1 bt166.1 bt166.2.1 ((bt166.2.1.length : Int) != (wrap64 (a0 + 1)))) else (thrumlaw16_MlpHides.j0 k a0 l1 l2 a3 true bt162.1 bt166.1 bt166.2.1 true)) else (thrumlaw16_MlpHides.j0 k a0 l1 l2 a3 true bt162.1 bt166.1 bt166.2.1 true)) else (thrumlaw16_MlpHides.j0 k a0 l1 l2 a3 true bt162.1 bt166.1 bt166.2.1 true))) else (some ((bt162.1.length : Int) == 0)))) else (some true))) = some r := by rw [if_pos rfl] at H; exact H
  clear H
  have H := H1
  clear H1
  obtain ⟨y158, hy158⟩ : ∃ y_ : List (S26), y_ = (([(⟨l2, 0⟩ : S26)] : List (S26))) := ⟨_, rfl⟩
  replace H : ((thrumref14_Few.f l1 y158).bind fun t161 => (if t161 = true then ((mlp_Hidden.f a0 l1 l2 a3).bind fun bt162 => (if bt162.2 = 0 then ((mlp_Split.f a0 l1).bind fun bt166 => (if bt166.2.2 = 0 then (if (bt162.1.length : Int) = a0 then (if (bt166.1.length : Int) = a0 then (thrumlaw16_MlpHides.j0 k a0 l1 l2 a3 true bt162.1 bt166.1 bt166.2.1 ((bt166.2.1.length : Int) != (wrap64 (a0 + 1)))) else (thrumlaw16_MlpHides.j0 k a0 l1 l2 a3 true bt162.1 bt166.1 bt166.2.1 true)) else (thrumlaw16_MlpHides.j0 k a0 l1 l2 a3 true bt162.1 bt166.1 bt166.2.1 true)) else (thrumlaw16_MlpHides.j0 k a0 l1 l2 a3 true bt162.1 bt166.1 bt166.2.1 true))) else (some ((bt162.1.length : Int) == 0)))) else (some true))) = some r := by first | (rw [hy158]; with_reducible exact H) | (have H2_ := (Option.bind_some _ _).symm.trans H; rw [hy158]; with_reducible exact H2_) | (have H2_ := (Option.bind_some _ _).symm.trans H; with_reducible exact H2_) | with_reducible exact H | (rw [hy158]; exact H) | exact H
  have Ny158 := Aside0.mk hy158
  clear hy158
  replace H := Option.bind_eq_some_iff.mp H
  obtain ⟨t161, A70, H⟩ := H
  replace H : (if t161 = true then ((mlp_Hidden.f a0 l1 l2 a3).bind fun bt162 => (if bt162.2 = 0 then ((mlp_Split.f a0 l1).bind fun bt166 => (if bt166.2.2 = 0 then (if (bt162.1.length : Int) = a0 then (if (bt166.1.length : Int) = a0 then (thrumlaw16_MlpHides.j0 k a0 l1 l2 a3 true bt162.1 bt166.1 bt166.2.1 ((bt166.2.1.length : Int) != (wrap64 (a0 + 1)))) else (thrumlaw16_MlpHides.j0 k a0 l1 l2 a3 true bt162.1 bt166.1 bt166.2.1 true)) else (thrumlaw16_MlpHides.j0 k a0 l1 l2 a3 true bt162.1 bt166.1 bt166.2.1 true)) else (thrumlaw16_MlpHides.j0 k a0 l1 l2 a3 true bt162.1 bt166.1 bt166.2.1 true))) else (some ((bt162.1.length : Int) == 0)))) else (some true)) = some r := H
  have A7 := Aside0.mk A70
  clear A70
  by_cases c8 : t161 = true
  ·
   subst c8
   have H1 : ((mlp_Hidden.f a0 l1 l2 a3).bind fun bt162 => (if bt162.2 = 0 then ((mlp_Split.f a0 l1).bind fun bt166 => (if bt166.2.2 = 0 then (if (bt162.1.length : Int) = a0 then (if (bt166.1.length : Int) = a0 then (thrumlaw16_MlpHides.j0 k a0 l1 l2 a3 true bt162.1 bt166.1 bt166.2.1 ((bt166.2.1.length : Int) != (wrap64 (a0 + 1)))) else (thrumlaw16_MlpHides.j0 k a0 l1 l2 a3 true bt162.1 bt166.1 bt166.2.1 true)) else (thrumlaw16_MlpHides.j0 k a0 l1 l2 a3 true bt162.1 bt166.1 bt166.2.1 true)) else (thrumlaw16_MlpHides.j0 k a0 l1 l2 a3 true bt162.1 bt166.1 bt166.2.1 true))) else (some ((bt162.1.length : Int) == 0)))) = some r := by rw [if_pos rfl] at H; exact H
   clear H
   have H := H1
   clear H1
   replace H := Option.bind_eq_some_iff.mp H
   obtain ⟨⟨t162, t163⟩, A90, H⟩ := H
   replace H : (if t163 = 0 then ((mlp_Split.f a0 l1).bind fun bt166 => (if bt166.2.2 = 0 then (if (t162.length : Int) = a0 then (if (bt166.1.length : Int) = a0 then (thrumlaw16_MlpHides.j0 k a0 l1 l2 a3 true t162 bt166.1 bt166.2.1 ((bt166.2.1.length : Int) != (wrap64 (a0 + 1)))) else (thrumlaw16_MlpHides.j0 k a0 l1 l2 a3 true t162 bt166.1 bt166.2.1 true)) else (thrumlaw16_MlpHides.j0 k a0 l1 l2 a3 true t162 bt166.1 bt166.2.1 true)) else (thrumlaw16_MlpHides.j0 k a0 l1 l2 a3 true t162 bt166.1 bt166.2.1 true))) else (some ((t162.length : Int) == 0))) = some r := H
   have A9 := Aside0.mk A90
   clear A90
   by_cases c10 : t163 = 0
   ·
    rw [if_pos c10] at H
    have c10b0 : (t163 == 0) = true := beq_iff_eq.mpr c10
    have c10b1 : (t163 != 0) = false := bne_eq_false_iff_eq.mpr c10
    clear c10
    replace H := Option.bind_eq_some_iff.mp H
    obtain ⟨⟨t166, t167, t168⟩, A110, H⟩ := H
    replace H : (if t168 = 0 then (if (t162.length : Int) = a0 then (if (t166.length : Int) = a0 then (thrumlaw16_MlpHides.j0 k a0 l1 l2 a3 true t162 t166 t167 ((t167.length : Int) != (wrap64 (a0 + 1)))) else (thrumlaw16_MlpHides.j0 k a0 l1 l2 a3 true t162 t166 t167 true)) else (thrumlaw16_MlpHides.j0 k a0 l1 l2 a3 true t162 t166 t167 true)) else (thrumlaw16_MlpHides.j0 k a0 l1 l2 a3 true t162 t166 t167 true)) = some r := H
    have A11 := Aside0.mk A110
    clear A110
    have HC12 := Aside0.mk H
    clear H
    go_enter Try.func3, Try.ntmps3
    go_upto_region 10 with (first | ((with_reducible refine gate_callee (f := 8) rfl ?_); refine goesL_ (some 23) rfl rfl Try.func8 (by kernel_rfl) rfl #[] rfl (by (try simp only [List.map_toArray, List.map_cons, List.map_nil]); first | done | rfl | (simp only [List.length_drop, List.length_take]; rfl)) ?_; (with_reducible refine (thrumlaw16_live.calls  true _ A5.out).mono ?_); rintro e w13 ⟨rfl, hb⟩; refine ⟨_, rfl, ?_⟩; have n0_ := Aside0.mk (Kd.V_below (by (with_reducible repeat (first | apply Kd.V_alloc | apply Kd.V_drewN | apply Kd.V_drew)); exact HO2.out) hb); have n1_ := Aside0.mk (zzT (by repeat (first | (with_reducible first | exact HB.out | apply zzA | apply zzN | apply zzD) | exact HB.out)) hb); clear HO2; clear HB; have HO2 := n0_; have HB := n1_; clear n0_ n1_; (try clear hb); (try clear hb2); (try clear hk); (try clear hi)) | ((with_reducible refine gate_dst (N := 29) rfl ?_); (try (refine gate_guard (by rfl) ?_; dsimp only)); refine Kd.N_lit k26 _ 26 ?hg (N' := 29) ?hd (xs := ([(⟨l2, 0⟩ : S26)] : List (S26))) (inner := [.slice A2 l2.length c2, .int .i64 0]) (ok := (fun k_ => (P2_ k_ ∨ w.heap.size ≤ k_))) (okp := (fun k_ => (P2_ k_ ∨ w.heap.size ≤ k_))) ?hr ?hp (fun _ hk => hk) ((show ∀ k_, w13.heap.size ≤ k_ → (fun k_ => (P2_ k_ ∨ w.heap.size ≤ k_)) k_ from fun k_ hk => (.inr (Nat.le_trans (zzS (by repeat (first | (with_reducible first | exact HB.out | apply zzA | apply zzN | apply zzD) | exact HB.out))) hk))) _ (Nat.le_refl _)) (Below.refl _ _) (Nat.le_refl _) (by simp) ?_; (case hd => rfl); (case hg => rfl); (case hr => first | (go_simp; done) | (go_simp; rfl)); (case hp => exact (Reps.c2 (show Kd.FK k26 _ _ (⟨l2, 0⟩ : S26) [.slice A2 l2.length c2, .int .i64 0] from (k26_mkF _ _ (⟨l2, 0⟩ : S26) (Kd.V_reads' (Kd.V_mono (ok' := (fun k_ => (P2_ k_ ∨ w.heap.size ≤ k_))) (HO2.out) (fun k_ hk => hk))).2.1 (Kd.V_F (base := w.heap.size) (e := 2) (Kd.V_mono (ok' := (fun k_ => (P2_ k_ ∨ w.heap.size ≤ k_))) (HO2.out) (fun k_ hk => hk))))) (Reps.none _ _))); intro v159 w14 ho15 hb hg_ hnew_; clear hg_ hnew_; (first | rw [← Ny158.out] at ho15 | (simp only [Int.reduceToNat] at ho15; rw [← Ny158.out] at ho15)); have n0_ := Aside0.mk (Kd.V_elder' (by (with_reducible repeat (first | apply Kd.V_alloc | apply Kd.V_drewN | apply Kd.V_drew)); exact HO2.out) (Kd.N_base ho15) hb); have n1_ := Aside0.mk (Kd.N_lower ho15 (zzS (by repeat (first | (with_reducible first | exact HB.out | apply zzA | apply zzN | apply zzD) | exact HB.out)))); have n2_ := Aside0.mk (zzT (by repeat (first | (with_reducible first | exact HB.out | apply zzA | apply zzN | apply zzD) | exact HB.out)) hb); clear HO2; clear HB; have HO2 := n0_; have HO160 := n1_; have HB := n2_; clear n0_ n1_ n2_; clear hb ho15; obtain ⟨Ao16, co16, eo16⟩ := Kd.N_slice HO160.out; subst eo16) | ((with_reducible refine gate_callee (f := 9) rfl ?_); refine goesL_ (some 30) rfl rfl Try.func9 (by kernel_rfl) rfl #[.slice A1 l1.length c1, .slice Ao16 y158.length co16] rfl (by (try simp only [List.map_toArray, List.map_cons, List.map_nil]); first | done | rfl | (simp only [List.length_drop, List.length_take]; rfl)) ?_; (with_reducible refine (thrumref14_Few.calls _ _ l1 _ _ y158 true _ ?side1 ?side2 ?side3 ?side4 A7.out).mono ?_); (case side1 => repeat (first | exact (Kd.C_below HR1.out HB.out) | (with_reducible refine ccA ?_ _) | (with_reducible refine ccN ?_ _) | (with_reducible refine ccD ?_))); (case side2 => exact HC1.out); (case side3 => repeat (first | exact (Kd.N_reads' HO160.out).2.2 | (with_reducible refine ccA ?_ _) | (with_reducible refine ccN ?_ _) | (with_reducible refine ccD ?_))); (case side4 => exact (Kd.N_reads' HO160.out).2.1); rintro e w17 ⟨rfl, hb⟩; refine ⟨_, rfl, ?_⟩; have n0_ := Aside0.mk (Kd.V_below (by (with_reducible repeat (first | apply Kd.V_alloc | apply Kd.V_drewN | apply Kd.V_drew)); exact HO2.out) hb); have n1_ := Aside0.mk (Kd.N_below (by (with_reducible repeat (first | apply Kd.N_alloc | apply Kd.N_drewN | apply Kd.N_drew)); exact HO160.out) hb); have n2_ := Aside0.mk (zzT (by repeat (first | (with_reducible first | exact HB.out | apply zzA | apply zzN | apply zzD) | exact HB.out)) hb); clear HO2; clear HO160; clear HB; have HO2 := n0_; have HO160 := n1_; have HB := n2_; clear n0_ n1_ n2_; (try clear hb); (try clear hb2); (try clear hk); (try clear hi)) | ((with_reducible refine gate_callee (f := 10) rfl ?_); refine goesL_ (some 38) rfl rfl Try.func10 (by kernel_rfl) rfl #[.int .i64 a0, .slice A1 l1.length c1, .slice A2 l2.length c2, .int .i64 a3] rfl (by (try simp only [List.map_toArray, List.map_cons, List.map_nil]); first | done | rfl | (simp only [List.length_drop, List.length_take]; rfl)) ?_; (with_reducible refine (mlp_Hidden.calls a0 _ _ l1 _ _ l2 a3 t162 t163 _ ?side1 ?side2 ?side3 ?side4 A9.out).mono ?_); (case side1 => repeat (first | exact (Kd.C_below HR1.out HB.out) | (with_reducible refine ccA ?_ _) | (with_reducible refine ccN ?_ _) | (with_reducible refine ccD ?_))); (case side2 => exact HC1.out); (case side3 => repeat (first | exact (Kd.V_reads' HO2.out).2.2 | (with_reducible refine ccA ?_ _) | (with_reducible refine ccN ?_ _) | (with_reducible refine ccD ?_))); (case side4 => exact (Kd.V_reads' HO2.out).2.1); rintro e w18 ⟨v164, rfl, ho0, hb⟩; refine ⟨_, rfl, ?_⟩; have n0_ := Aside0.mk (Kd.V_elder' (by (with_reducible repeat (first | apply Kd.V_alloc | apply Kd.V_drewN | apply Kd.V_drew)); exact HO2.out) (Kd.R_base ho0) hb); have n1_ := Aside0.mk (Kd.N_elder' (by (with_reducible repeat (first | apply Kd.N_alloc | apply Kd.N_drewN | apply Kd.N_drew)); exact HO160.out) (Kd.R_base ho0) hb); have n2_ := Aside0.mk (Kd.R_lower (Kd.R_newM (M := fun k_ => (w.heap.size ≤ k_)) ho0 (zzS (by repeat (first | (with_reducible first | exact HB.out | apply zzA | apply zzN | apply zzD) | exact HB.out))) (fun k_ h_ => h_)) (zzS (by repeat (first | (with_reducible first | exact HB.out | apply zzA | apply zzN | apply zzD) | exact HB.out)))); have n3_ := Aside0.mk (zzT (by repeat (first | (with_reducible first | exact HB.out | apply zzA | apply zzN | apply zzD) | exact HB.out)) hb); clear HO2; clear HO160; clear HB; have HO2 := n0_; have HO160 := n1_; have HO165 := n2_; have HB := n3_; clear n0_ n1_ n2_ n3_; (try clear hb); (try clear hb2); (try clear hk); (try clear hi); (try clear ho0)) | ((with_reducible refine gate_callee (f := 11) rfl ?_); refine goesL_ (some 52) rfl rfl Try.func11 (by kernel_rfl) rfl #[.int .i64 a0, .slice A1 l1.length c1] rfl (by (try simp only [List.map_toArray, List.map_cons, List.map_nil]); first | done | rfl | (simp only [List.length_drop, List.length_take]; rfl)) ?_; (with_reducible refine (mlp_Split.calls a0 _ _ l1 t166 t167 t168 _ ?side1 ?side2 A11.out).mono ?_); (case side1 => repeat (first | exact (Kd.C_below HR1.out HB.out) | (with_reducible refine ccA ?_ _) | (with_reducible refine ccN ?_ _) | (with_reducible refine ccD ?_))); (case side2 => exact HC1.out); rintro e w19 ⟨v169, v171, rfl, ho0, ho1, hb⟩; refine ⟨_, rfl, ?_⟩; have n0_ := Aside0.mk (Kd.V_mono (Kd.V_told (Kd.V_told (Kd.V_old (by (with_reducible repeat (first | apply Kd.V_alloc | apply Kd.V_drewN | apply Kd.V_drew)); exact HO2.out) hb) (Kd.N_base (Kd.S_N ho0))) (Kd.R_base ho1)) (fun _ h_ => h_.1)); have n1_ := Aside0.mk (Kd.N_mono (Kd.N_told (Kd.N_told (Kd.N_old (by (with_reducible repeat (first | apply Kd.N_alloc | apply Kd.N_drewN | apply Kd.N_drew)); exact HO160.out) hb) (Kd.N_base (Kd.S_N ho0))) (Kd.R_base ho1)) (fun _ h_ => h_.1)); have n2_ := Aside0.mk (Kd.R_elder' (by (with_reducible repeat (first | apply rrA | apply rrN | apply rrD)); exact HO165.out) (Kd.R_base ho1) hb); have n3_ := Aside0.mk (Kd.N_lower (Kd.N_mono (ok' := fun k_ => (P2_ k_ ∨ w.heap.size ≤ k_) ∧ some k_ ≠ (v171 : Value).ownBlock ∧ some k_ ≠ (.slice Ao16 y158.length co16 : Value).ownBlock ∧ some k_ ≠ (v164 : Value).ownBlock) (Kd.S_N (Kd.S_bound ho0)) (fun k_ hk_ => ⟨(.inr (Nat.le_trans (zzS (by repeat (first | (with_reducible first | exact HB.out | apply zzA | apply zzN | apply zzD) | exact HB.out))) hk_.2.1)), hk_.1, (Kd.fresh' (Kd.N_lt (by (with_reducible repeat (first | apply Kd.N_alloc | apply Kd.N_drewN | apply Kd.N_drew)); exact HO160.out)) k_ hk_.2.1), (Kd.fresh' (Kd.R_lt (by (with_reducible repeat (first | apply rrA | apply rrN | apply rrD)); exact HO165.out)) k_ hk_.2.1)⟩)) (zzS (by repeat (first | (with_reducible first | exact HB.out | apply zzA | apply zzN | apply zzD) | exact HB.out)))); have n4_ := Aside0.mk (Kd.R_lower (Kd.R_new' (Kd.R_newM (M := fun k_ => (w.heap.size ≤ k_)) ho1 (zzS (by repeat (first | (with_reducible first | exact HB.out | apply zzA | apply zzN | apply zzD) | exact HB.out))) (fun k_ h_ => h_)) (Kd.R_lt (by (with_reducible repeat (first | apply rrA | apply rrN | apply rrD)); exact HO165.out))) (zzS (by repeat (first | (with_reducible first | exact HB.out | apply zzA | apply zzN | apply zzD) | exact HB.out)))); have n5_ := Aside0.mk (zzT (by repeat (first | (with_reducible first | exact HB.out | apply zzA | apply zzN | apply zzD) | exact HB.out)) hb); clear HO2; clear HO160; clear HO165; clear HB; have HO2 := n0_; have HO160 := n1_; have HO165 := n2_; have HO170 := n3_; have HO172 := n4_; have HB := n5_; clear n0_ n1_ n2_ n3_ n4_ n5_; (try clear hb); (try clear hb2); (try clear hk); (try clear hi); (try clear ho0); (try clear ho1)))
    (try simp only [Act.put, List.setIfInBounds_toArray, List.set_cons_zero, List.set_cons_succ])
    go_cut [76] (fun v76 wc => ∃ (kq : Nat) (x76_11 : Bool), v76 = .bool x76_11 ∧ Aside0 (thrumlaw16_MlpHides.j0 kq a0 l1 l2 a3 true t162 t166 t167 x76_11 = some r) ∧ Aside0 (kq ≤ k) ∧ Aside0 (Kd.V (Kd.int .i64) 2 wc w.heap.size (fun k_ => (P2_ k_ ∨ w.heap.size ≤ k_) ∧ some k_ ≠ (v164 : Value).ownBlock ∧ some k_ ≠ (v169 : Value).ownBlock ∧ some k_ ≠ (v171 : Value).ownBlock) (.slice A2 l2.length c2) l2) ∧ Aside0 (Kd.R (Kd.int .i64) 2 wc w.heap.size (fun k_ => (w.heap.size ≤ k_) ∧ some k_ ≠ (v171 : Value).ownBlock) v164 t162) ∧ Aside0 (Kd.N (Kd.slice 2 (Kd.int .i64)) 22 wc w.heap.size (fun k_ => (P2_ k_ ∨ w.heap.size ≤ k_) ∧ some k_ ≠ (v164 : Value).ownBlock ∧ some k_ ≠ (v171 : Value).ownBlock) v169 t166) ∧ Aside0 (Kd.R (Kd.int .i64) 2 wc w.heap.size (fun k_ => (w.heap.size ≤ k_) ∧ some k_ ≠ (v164 : Value).ownBlock) v171 t167) ∧ Aside0 (Below w.heap.size w wc))
    case first =>
     have H := HC12.out
     clear HC12
     by_cases c20 : t168 = 0
     ·
      rw [if_pos c20] at H
      have c20b0 : (t168 == 0) = true := beq_iff_eq.mpr c20
      have c20b1 : (t168 != 0) = false := bne_eq_false_iff_eq.mpr c20
      clear c20
      (first | rw [c20b0] | (simp only [i64_w, i32_w]; rw [c20b0]) | skip)
      by_cases c21 : (t162.length : Int) = a0
      ·
       rw [if_pos c21] at H
       have c21b0 : ((t162.length : Int) == a0) = true := beq_iff_eq.mpr c21
       have c21b1 : ((t162.length : Int) != a0) = false := bne_eq_false_iff_eq.mpr c21
       clear c21
       by_cases c22 : (t166.length : Int) = a0
       ·
        rw [if_pos c22] at H
        have c22b0 : ((t166.length : Int) == a0) = true := beq_iff_eq.mpr c22
        have c22b1 : ((t166.length : Int) != a0) = false := bne_eq_false_iff_eq.mpr c22
        clear c22
        have H' := Aside0.mk H
        clear H
        obtain ⟨Ao23, co23, eo23⟩ := Kd.R_slice HO165.out
        subst eo23
        obtain ⟨Ao24, co24, eo24⟩ := Kd.N_slice HO170.out
        subst eo24
        obtain ⟨Ao25, co25, eo25⟩ := Kd.R_slice HO172.out
        subst eo25
        go_wp2
        go_meet
        case rel => exact ⟨_, (((t167.length : Int) != (wrap64 (a0 + 1)))), (by first | rfl | (simp; done) | (simp [*]; done)), H', ⟨by first | omega | exact Nat.le_refl _⟩, ⟨by (with_reducible repeat (first | apply Kd.V_alloc | apply Kd.V_drewN | apply Kd.V_drew)); exact Kd.V_mono HO2.out (fun _ hk => ⟨hk.1.1.1.1, ⟨hk.1.1.2, ⟨hk.1.2, hk.2⟩⟩⟩)⟩, ⟨by (with_reducible repeat (first | apply rrA | apply rrN | apply rrD)); exact Kd.R_mono HO165.out (fun _ hk => ⟨hk.1.1, hk.2⟩)⟩, ⟨by (with_reducible repeat (first | apply Kd.N_alloc | apply Kd.N_drewN | apply Kd.N_drew)); exact Kd.N_mono HO170.out (fun _ hk => ⟨hk.1, ⟨hk.2.2.2, hk.2.1⟩⟩)⟩, ⟨by (with_reducible repeat (first | apply rrA | apply rrN | apply rrD)); exact Kd.R_mono HO172.out (fun _ hk => ⟨hk.1.1, hk.2⟩)⟩, ⟨by repeat (first | (with_reducible first | exact HB.out | apply zzA | apply zzN | apply zzD) | exact HB.out)⟩⟩
       ·
        rw [if_neg c22] at H
        exact (thrumlaw16_MlpHides.j0_not (H.trans (by rw [HR_.out]))).elim
      ·
       rw [if_neg c21] at H
       exact (thrumlaw16_MlpHides.j0_not (H.trans (by rw [HR_.out]))).elim
     ·
      rw [if_neg c20] at H
      exact (thrumlaw16_MlpHides.j0_not (H.trans (by rw [HR_.out]))).elim
    case rest =>
     clear HC12
     try clear c1
     try clear c2
     try clear p2
     try clear c3
     try clear c6
     try clear p6
     try clear c8
     try clear c9
     try clear c10
     try clear c10b0
     try clear c10b1
     try clear c11
     try clear c20
     try clear c20b0
     try clear c20b1
     try clear c21
     try clear c21b0
     try clear c21b1
     try clear c22
     try clear c22b0
     try clear c22b1
     obtain ⟨kq, x76_11, rfl, HA, HJ11, HO_2, HO_10, HO_12, HO_13, HB⟩ := hcut
     cases kq with
     | zero => exact absurd HA.out (by simp [thrumlaw16_MlpHides.j0])
     | succ kj11 =>
      have H := HA.out
      clear HA
      simp only [thrumlaw16_MlpHides.j0] at H
      by_cases c29 : x76_11 = true
      ·
       subst c29
       have H1 : (some false) = some r := by rw [if_pos rfl] at H; exact H
       exact absurd (Option.some.inj H1) (by rw [HR_.out]; decide)
      ·
       replace c29 := Bool.eq_false_iff.mpr c29
       subst c29
       have H1 : (thrumlaw16_MlpHides.l0 kj11 a0 l1 l2 a3 true t162 t167 t166 (t166.length : Int) 0) = some r := by rw [if_neg (show ¬ (false = true) by decide)] at H; exact H
       clear H
       have H := H1
       clear H1
       have H' := Aside0.mk H
       clear H
       obtain ⟨Ao30, co30, eo30⟩ := Kd.N_slice HO_12.out
       subst eo30
       go_wp2
       go_loopg [79] kj11 (fun kq v79 w' => ∃ (x79_2 : Int), v79 = .int .i64 x79_2 ∧ Aside0 (thrumlaw16_MlpHides.l0 kq a0 l1 l2 a3 true t162 t167 t166 (t166.length : Int) x79_2 = some r) ∧ Aside0 (kq ≤ kj11) ∧ Aside0 (Kd.V (Kd.int .i64) 2 w' w.heap.size (fun k_ => (P2_ k_ ∨ w.heap.size ≤ k_) ∧ some k_ ≠ (v164 : Value).ownBlock ∧ some k_ ≠ (v171 : Value).ownBlock ∧ some k_ ≠ ((.slice Ao30 t166.length co30) : Value).ownBlock) (.slice A2 l2.length c2) l2) ∧ Aside0 (Kd.R (Kd.int .i64) 2 w' w.heap.size (fun k_ => (w.heap.size ≤ k_) ∧ some k_ ≠ (v171 : Value).ownBlock) v164 t162) ∧ Aside0 (Kd.R (Kd.int .i64) 2 w' w.heap.size (fun k_ => (w.heap.size ≤ k_) ∧ some k_ ≠ (v164 : Value).ownBlock) v171 t167) ∧ Aside0 (Kd.N (Kd.slice 2 (Kd.int .i64)) 22 w' w.heap.size (fun k_ => (P2_ k_ ∨ w.heap.size ≤ k_) ∧ some k_ ≠ (v164 : Value).ownBlock ∧ some k_ ≠ (v171 : Value).ownBlock) (.slice Ao30 t166.length co30) t166) ∧ Aside0 (Below w.heap.size w w'))
       case atStart => exact ⟨(0), (by first | rfl | (simp; done) | (simp [*]; done)), H', ⟨Nat.le_refl _⟩, ⟨by (with_reducible repeat (first | apply Kd.V_alloc | apply Kd.V_drewN | apply Kd.V_drew)); exact Kd.V_mono HO_2.out (fun _ hk => ⟨hk.1, ⟨hk.2.1, ⟨hk.2.2.2, hk.2.2.1⟩⟩⟩)⟩, ⟨by (with_reducible repeat (first | apply rrA | apply rrN | apply rrD)); exact HO_10.out⟩, ⟨by (with_reducible repeat (first | apply rrA | apply rrN | apply rrD)); exact HO_13.out⟩, ⟨by (with_reducible repeat (first | apply Kd.N_alloc | apply Kd.N_drewN | apply Kd.N_drew)); exact HO_12.out⟩, ⟨by repeat (first | (with_reducible first | exact HB.out | apply zzA | apply zzN | apply zzD) | exact HB.out)⟩⟩
       case round =>
        clear H'
        try clear c1
        try clear c2
        try clear p2
        try clear c3
        try clear c6
        try clear p6
        try clear c8
        try clear c9
        try clear c10
        try clear c10b0
        try clear c10b1
        try clear c11
        try clear c20
        try clear c20b0
        try clear c20b1
        try clear c21
        try clear c21b0
        try clear c21b1
        try clear c22
        try clear c22b0
        try clear c22b1
        try clear c29
        try clear p2
        try clear p6
        obtain ⟨x79_2, rfl, HA, HK2, HO_2, HO_10, HO_13, HO_77, HB⟩ := hrel
        cases gk with
        | zero => exact absurd HA.out (by simp [thrumlaw16_MlpHides.l0])
        | succ k2 =>
         have H := HA.out
         clear HA
         simp only [thrumlaw16_MlpHides.l0] at H
         by_cases c31 : x79_2 < (t166.length : Int)
         ·
          rw [if_pos c31] at H
          have c31b0 : decide (x79_2 < (t166.length : Int)) = true := decide_eq_true c31
          clear c31
          by_cases c32 : 0 ≤ x79_2
          ·
           rw [if_pos c32] at H
           have c32b0 : decide (0 ≤ x79_2) = true := decide_eq_true c32
           clear c32
           by_cases c33 : x79_2 < (t166.length : Int)
           ·
            rw [if_pos c33] at H
            have c33b0 : decide (x79_2 < (t166.length : Int)) = true := decide_eq_true c33
            clear c33
            replace H := Option.bind_eq_some_iff.mp H
            obtain ⟨⟨t174, t175⟩, A340, H⟩ := H
            replace H : (if t175 = 0 then (if x79_2 < (t162.length : Int) then (if (rd t162 x79_2) < 0 then (some false) else (if t174 > 0 then (if (rd t162 x79_2) = t174 then (if t174 ≤ 0 then (if (rd t162 x79_2) = 0 then (thrumlaw16_MlpHides.l0 k2 a0 l1 l2 a3 true t162 t167 t166 (t166.length : Int) (wrap64 (x79_2 + 1))) else (some false)) else (thrumlaw16_MlpHides.l0 k2 a0 l1 l2 a3 true t162 t167 t166 (t166.length : Int) (wrap64 (x79_2 + 1)))) else (some false)) else (if t174 ≤ 0 then (if (rd t162 x79_2) = 0 then (thrumlaw16_MlpHides.l0 k2 a0 l1 l2 a3 true t162 t167 t166 (t166.length : Int) (wrap64 (x79_2 + 1))) else (some false)) else (thrumlaw16_MlpHides.l0 k2 a0 l1 l2 a3 true t162 t167 t166 (t166.length : Int) (wrap64 (x79_2 + 1)))))) else (none)) else (some false)) = some r := H
            have A34 := Aside0.mk A340
            clear A340
            by_cases c35 : t175 = 0
            ·
             rw [if_pos c35] at H
             have c35b0 : (t175 == 0) = true := beq_iff_eq.mpr c35
             have c35b1 : (t175 != 0) = false := bne_eq_false_iff_eq.mpr c35
             clear c35
             by_cases c36 : x79_2 < (t162.length : Int)
             ·
              rw [if_pos c36] at H
              have c36b0 : decide (x79_2 < (t162.length : Int)) = true := decide_eq_true c36
              clear c36
              by_cases c37 : (rd t162 x79_2) < 0
              ·
               rw [if_pos c37] at H
               exact absurd (Option.some.inj H) (by rw [HR_.out]; decide)
              ·
               rw [if_neg c37] at H
               have c37b0 : decide ((rd t162 x79_2) < 0) = false := decide_eq_false c37
               clear c37
               by_cases c40 : t174 > 0
               ·
                rw [if_pos c40] at H
                have c40b0 : decide (0 < t174) = true := decide_eq_true c40
                clear c40
                by_cases c41 : (rd t162 x79_2) = t174
                ·
                 rw [if_pos c41] at H
                 have c41b0 : ((rd t162 x79_2) == t174) = true := beq_iff_eq.mpr c41
                 have c41b1 : ((rd t162 x79_2) != t174) = false := bne_eq_false_iff_eq.mpr c41
                 clear c41
                 by_cases c42 : t174 ≤ 0
                 ·
                  rw [if_pos c42] at H
                  have c42b0 : decide (t174 ≤ 0) = true := decide_eq_true c42
                  clear c42
                  by_cases c43 : (rd t162 x79_2) = 0
                  ·
                   rw [if_pos c43] at H
                   have c43b0 : ((rd t162 x79_2) == 0) = true := beq_iff_eq.mpr c43
                   have c43b1 : ((rd t162 x79_2) != 0) = false := bne_eq_false_iff_eq.mpr c43
                   clear c43
                   have H' := Aside0.mk H
                   clear H
                   have p173 : 0 ≤ (x79_2 : Int) := of_decide_eq_true (by first | (with_reducible assumption) | assumption)
                   have q173 : x79_2 < (t166.length : Int) := of_decide_eq_true (by first | (with_reducible assumption) | assumption)
                   obtain ⟨ad173, A173_0, c173_0, e173, hx173_0, hl173_0, hi173_0⟩ := at_L1 (Kd.N_reads' HO_77.out).2.2 x79_2 p173 q173
                   cases e173
                   obtain ⟨ce173, hce173, hMe173, hcc173⟩ := Kd.N_get HO_77.out [] x79_2 p173 (by first | exact q173 | exact of_decide_eq_true (by first | (with_reducible assumption) | assumption) | (have e_ := (Kd.N_reads' HO_77.out).1; omega))
                   obtain ⟨ua173_0, uc173_0, rfl, ul173_0, ge173_0⟩ := Kd.FK_slice_open hMe173
                   have hv173_0 := hcc173 0 _ rfl
                   rw [Nat.add_zero, show ((Kd.slice 2 (Kd.int .i64))).sz = 1 from rfl, Nat.mul_one] at hv173_0
                   replace hv173_0 := Option.some.inj (hv173_0.symm.trans hx173_0)
                   injection hv173_0 with hva_ hvn_ hvc_
                   rw [hva_] at ge173_0
                   rw [hvc_] at ul173_0
                   have HL173_0 := Aside0.mk (show Kd.V (Kd.int .i64) 2 _ w.heap.size _ _ (rd_L1 t166 x79_2) from Kd.V_mk ul173_0 ge173_0)
                   clear hva_ hvn_ hvc_ ge173_0 ul173_0
                   clear hcc173 hce173
                   have HR173_0 := Aside0.mk hi173_0
                   have HC173_0 := Aside0.mk hl173_0
                   clear hi173_0 hl173_0
                   replace p173 := eq_true p173
                   replace q173 := eq_true q173
                   go_wp2_with (first | ((with_reducible refine gate_callee (f := 12) rfl ?_); refine goesL_ (some 88) rfl rfl Try.func12 (by kernel_rfl) rfl #[.slice A173_0 (rd_L1 t166 x79_2).length c173_0, .slice A2 l2.length c2, .int .i64 a3] rfl (by (try simp only [List.map_toArray, List.map_cons, List.map_nil]); first | done | rfl | (simp only [List.length_drop, List.length_take]; rfl)) ?_; (with_reducible refine (linear_Tell.calls _ _ (rd_L1 t166 x79_2) (fun k_ => ((P2_ k_ ∨ w.heap.size ≤ k_) ∧ (some k_ ≠ (v164 : Value).ownBlock ∧ (some k_ ≠ (v171 : Value).ownBlock ∧ some k_ ≠ (.slice (some ad173) t166.length co30 : Value).ownBlock)))) _ _ l2 a3 t174 t175 _ ?side1 ?side2 ?side3 A34.out).mono ?_); (case side1 => repeat (first | exact (by repeat (first | (with_reducible exact HR173_0.out) | (with_reducible refine ccA ?_ _) | (with_reducible refine ccN ?_ _) | (with_reducible refine ccD ?_) | exact HR173_0.out)) | (with_reducible refine ccA ?_ _) | (with_reducible refine ccN ?_ _) | (with_reducible refine ccD ?_))); (case side2 => exact HC173_0.out); (case side3 => exact HO_2.out); rintro e w44 ⟨rfl, hb⟩; refine ⟨_, rfl, ?_⟩; have n0_ := Aside0.mk (Kd.V_below (by (with_reducible repeat (first | apply Kd.V_alloc | apply Kd.V_drewN | apply Kd.V_drew)); exact HO_2.out) hb); have n1_ := Aside0.mk (Kd.R_below (by (with_reducible repeat (first | apply rrA | apply rrN | apply rrD)); exact HO_10.out) hb); have n2_ := Aside0.mk (Kd.R_below (by (with_reducible repeat (first | apply rrA | apply rrN | apply rrD)); exact HO_13.out) hb); have n3_ := Aside0.mk (Kd.N_below (by (with_reducible repeat (first | apply Kd.N_alloc | apply Kd.N_drewN | apply Kd.N_drew)); exact HO_77.out) hb); have n4_ := Aside0.mk (Kd.V_below (by (with_reducible repeat (first | apply Kd.V_alloc | apply Kd.V_drewN | apply Kd.V_drew)); exact HL173_0.out) hb); have n5_ := Aside0.mk (Kd.C_below (by repeat (first | (with_reducible exact HR173_0.out) | (with_reducible refine ccA ?_ _) | (with_reducible refine ccN ?_ _) | (with_reducible refine ccD ?_) | exact HR173_0.out)) hb); have n6_ := Aside0.mk (zzT (by repeat (first | (with_reducible first | exact HB.out | apply zzA | apply zzN | apply zzD) | exact HB.out)) hb); clear HO_2; clear HO_10; clear HO_13; clear HO_77; clear HL173_0; clear HR173_0; clear HB; have HO_2 := n0_; have HO_10 := n1_; have HO_13 := n2_; have HO_77 := n3_; have HL173_0 := n4_; have HR173_0 := n5_; have HB := n6_; clear n0_ n1_ n2_ n3_ n4_ n5_ n6_; (try clear hb); (try clear hb2); (try clear hk); (try clear hi); obtain ⟨Ao45, co45, eo45⟩ := Kd.R_slice HO_10.out; subst eo45; have p176 : 0 ≤ (x79_2 : Int) := of_decide_eq_true (by first | (with_reducible assumption) | assumption); have q176 : x79_2 < (t162.length : Int) := of_decide_eq_true (by first | (with_reducible assumption) | assumption); obtain ⟨ad176, e176, hx176_0⟩ := Kd.at_int (Kd.R_reads' HO_10.out).2.2 x79_2 p176 q176; cases e176; replace p176 := eq_true p176; replace q176 := eq_true q176; have p177 : 0 ≤ (x79_2 : Int) := of_decide_eq_true (by first | (with_reducible assumption) | assumption); have q177 : x79_2 < (t162.length : Int) := of_decide_eq_true (by first | (with_reducible assumption) | assumption); obtain ⟨ad177, e177, hx177_0⟩ := Kd.at_int (Kd.R_reads' HO_10.out).2.2 x79_2 p177 q177; obtain rfl : ad176 = ad177 := (by injection e177); replace p177 := eq_true p177; replace q177 := eq_true q177; have p178 : 0 ≤ (x79_2 : Int) := of_decide_eq_true (by first | (with_reducible assumption) | assumption); have q178 : x79_2 < (t162.length : Int) := of_decide_eq_true (by first | (with_reducible assumption) | assumption); obtain ⟨ad178, e178, hx178_0⟩ := Kd.at_int (Kd.R_reads' HO_10.out).2.2 x79_2 p178 q178; obtain rfl : ad176 = ad178 := (by injection e178); replace p178 := eq_true p178; replace q178 := eq_true q178))
                   go_roundg k2
                   case measure => have := HJ11.out; have := HK2.out; omega
                   case rel => exact ⟨(wrap64 (x79_2 + 1)), (by first | rfl | (simp; done) | (simp [*]; done)), H', ⟨by have := HJ11.out; have := HK2.out; omega⟩, ⟨by (with_reducible repeat (first | apply Kd.V_alloc | apply Kd.V_drewN | apply Kd.V_drew)); exact HO_2.out⟩, ⟨by (with_reducible repeat (first | apply rrA | apply rrN | apply rrD)); exact HO_10.out⟩, ⟨by (with_reducible repeat (first | apply rrA | apply rrN | apply rrD)); exact HO_13.out⟩, ⟨by (with_reducible repeat (first | apply Kd.N_alloc | apply Kd.N_drewN | apply Kd.N_drew)); exact HO_77.out⟩, ⟨by repeat (first | (with_reducible first | exact HB.out | apply zzA | apply zzN | apply zzD) | exact HB.out)⟩⟩
                  ·
                   rw [if_neg c43] at H
                   exact absurd (Option.some.inj H) (by rw [HR_.out]; decide)
                 ·
                  rw [if_neg c42] at H
                  have c42b0 : decide (t174 ≤ 0) = false := decide_eq_false c42
                  clear c42
                  have H' := Aside0.mk H
                  clear H
                  have p173 : 0 ≤ (x79_2 : Int) := of_decide_eq_true (by first | (with_reducible assumption) | assumption)
                  have q173 : x79_2 < (t166.length : Int) := of_decide_eq_true (by first | (with_reducible assumption) | assumption)
                  obtain ⟨ad173, A173_0, c173_0, e173, hx173_0, hl173_0, hi173_0⟩ := at_L1 (Kd.N_reads' HO_77.out).2.2 x79_2 p173 q173
                  cases e173
                  obtain ⟨ce173, hce173, hMe173, hcc173⟩ := Kd.N_get HO_77.out [] x79_2 p173 (by first | exact q173 | exact of_decide_eq_true (by first | (with_reducible assumption) | assumption) | (have e_ := (Kd.N_reads' HO_77.out).1; omega))
                  obtain ⟨ua173_0, uc173_0, rfl, ul173_0, ge173_0⟩ := Kd.FK_slice_open hMe173
                  have hv173_0 := hcc173 0 _ rfl
                  rw [Nat.add_zero, show ((Kd.slice 2 (Kd.int .i64))).sz = 1 from rfl, Nat.mul_one] at hv173_0
                  replace hv173_0 := Option.some.inj (hv173_0.symm.trans hx173_0)
                  injection hv173_0 with hva_ hvn_ hvc_
                  rw [hva_] at ge173_0
                  rw [hvc_] at ul173_0
                  have HL173_0 := Aside0.mk (show Kd.V (Kd.int .i64) 2 _ w.heap.size _ _ (rd_L1 t166 x79_2) from Kd.V_mk ul173_0 ge173_0)
                  clear hva_ hvn_ hvc_ ge173_0 ul173_0
                  clear hcc173 hce173
                  have HR173_0 := Aside0.mk hi173_0
                  have HC173_0 := Aside0.mk hl173_0
                  clear hi173_0 hl173_0
                  replace p173 := eq_true p173
                  replace q173 := eq_true q173
                  go_wp2_with (first | ((with_reducible refine gate_callee (f := 12) rfl ?_); refine goesL_ (some 88) rfl rfl Try.func12 (by kernel_rfl) rfl #[.slice A173_0 (rd_L1 t166 x79_2).length c173_0, .slice A2 l2.length c2, .int .i64 a3] rfl (by (try simp only [List.map_toArray, List.map_cons, List.map_nil]); first | done | rfl | (simp only [List.length_drop, List.length_take]; rfl)) ?_; (with_reducible refine (linear_Tell.calls _ _ (rd_L1 t166 x79_2) (fun k_ => ((P2_ k_ ∨ w.heap.size ≤ k_) ∧ (some k_ ≠ (v164 : Value).ownBlock ∧ (some k_ ≠ (v171 : Value).ownBlock ∧ some k_ ≠ (.slice (some ad173) t166.length co30 : Value).ownBlock)))) _ _ l2 a3 t174 t175 _ ?side1 ?side2 ?side3 A34.out).mono ?_); (case side1 => repeat (first | exact (by repeat (first | (with_reducible exact HR173_0.out) | (with_reducible refine ccA ?_ _) | (with_reducible refine ccN ?_ _) | (with_reducible refine ccD ?_) | exact HR173_0.out)) | (with_reducible refine ccA ?_ _) | (with_reducible refine ccN ?_ _) | (with_reducible refine ccD ?_))); (case side2 => exact HC173_0.out); (case side3 => exact HO_2.out); rintro e w48 ⟨rfl, hb⟩; refine ⟨_, rfl, ?_⟩; have n0_ := Aside0.mk (Kd.V_below (by (with_reducible repeat (first | apply Kd.V_alloc | apply Kd.V_drewN | apply Kd.V_drew)); exact HO_2.out) hb); have n1_ := Aside0.mk (Kd.R_below (by (with_reducible repeat (first | apply rrA | apply rrN | apply rrD)); exact HO_10.out) hb); have n2_ := Aside0.mk (Kd.R_below (by (with_reducible repeat (first | apply rrA | apply rrN | apply rrD)); exact HO_13.out) hb); have n3_ := Aside0.mk (Kd.N_below (by (with_reducible repeat (first | apply Kd.N_alloc | apply Kd.N_drewN | apply Kd.N_drew)); exact HO_77.out) hb); have n4_ := Aside0.mk (Kd.V_below (by (with_reducible repeat (first | apply Kd.V_alloc | apply Kd.V_drewN | apply Kd.V_drew)); exact HL173_0.out) hb); have n5_ := Aside0.mk (Kd.C_below (by repeat (first | (with_reducible exact HR173_0.out) | (with_reducible refine ccA ?_ _) | (with_reducible refine ccN ?_ _) | (with_reducible refine ccD ?_) | exact HR173_0.out)) hb); have n6_ := Aside0.mk (zzT (by repeat (first | (with_reducible first | exact HB.out | apply zzA | apply zzN | apply zzD) | exact HB.out)) hb); clear HO_2; clear HO_10; clear HO_13; clear HO_77; clear HL173_0; clear HR173_0; clear HB; have HO_2 := n0_; have HO_10 := n1_; have HO_13 := n2_; have HO_77 := n3_; have HL173_0 := n4_; have HR173_0 := n5_; have HB := n6_; clear n0_ n1_ n2_ n3_ n4_ n5_ n6_; (try clear hb); (try clear hb2); (try clear hk); (try clear hi); obtain ⟨Ao49, co49, eo49⟩ := Kd.R_slice HO_10.out; subst eo49; have p176 : 0 ≤ (x79_2 : Int) := of_decide_eq_true (by first | (with_reducible assumption) | assumption); have q176 : x79_2 < (t162.length : Int) := of_decide_eq_true (by first | (with_reducible assumption) | assumption); obtain ⟨ad176, e176, hx176_0⟩ := Kd.at_int (Kd.R_reads' HO_10.out).2.2 x79_2 p176 q176; cases e176; replace p176 := eq_true p176; replace q176 := eq_true q176; have p177 : 0 ≤ (x79_2 : Int) := of_decide_eq_true (by first | (with_reducible assumption) | assumption); have q177 : x79_2 < (t162.length : Int) := of_decide_eq_true (by first | (with_reducible assumption) | assumption); obtain ⟨ad177, e177, hx177_0⟩ := Kd.at_int (Kd.R_reads' HO_10.out).2.2 x79_2 p177 q177; obtain rfl : ad176 = ad177 := (by injection e177); replace p177 := eq_true p177; replace q177 := eq_true q177))
                  go_roundg k2
                  case measure => have := HJ11.out; have := HK2.out; omega
                  case rel => exact ⟨(wrap64 (x79_2 + 1)), (by first | rfl | (simp; done) | (simp [*]; done)), H', ⟨by have := HJ11.out; have := HK2.out; omega⟩, ⟨by (with_reducible repeat (first | apply Kd.V_alloc | apply Kd.V_drewN | apply Kd.V_drew)); exact HO_2.out⟩, ⟨by (with_reducible repeat (first | apply rrA | apply rrN | apply rrD)); exact HO_10.out⟩, ⟨by (with_reducible repeat (first | apply rrA | apply rrN | apply rrD)); exact HO_13.out⟩, ⟨by (with_reducible repeat (first | apply Kd.N_alloc | apply Kd.N_drewN | apply Kd.N_drew)); exact HO_77.out⟩, ⟨by repeat (first | (with_reducible first | exact HB.out | apply zzA | apply zzN | apply zzD) | exact HB.out)⟩⟩
                ·
                 rw [if_neg c41] at H
                 exact absurd (Option.some.inj H) (by rw [HR_.out]; decide)
               ·
                rw [if_neg c40] at H
                have c40b0 : decide (0 < t174) = false := decide_eq_false c40
                clear c40
                by_cases c52 : t174 ≤ 0
                ·
                 rw [if_pos c52] at H
                 have c52b0 : decide (t174 ≤ 0) = true := decide_eq_true c52
                 clear c52
                 by_cases c53 : (rd t162 x79_2) = 0
                 ·
                  rw [if_pos c53] at H
                  have c53b0 : ((rd t162 x79_2) == 0) = true := beq_iff_eq.mpr c53
                  have c53b1 : ((rd t162 x79_2) != 0) = false := bne_eq_false_iff_eq.mpr c53
                  clear c53
                  have H' := Aside0.mk H
                  clear H
                  have p173 : 0 ≤ (x79_2 : Int) := of_decide_eq_true (by first | (with_reducible assumption) | assumption)
                  have q173 : x79_2 < (t166.length : Int) := of_decide_eq_true (by first | (with_reducible assumption) | assumption)
                  obtain ⟨ad173, A173_0, c173_0, e173, hx173_0, hl173_0, hi173_0⟩ := at_L1 (Kd.N_reads' HO_77.out).2.2 x79_2 p173 q173
                  cases e173
                  obtain ⟨ce173, hce173, hMe173, hcc173⟩ := Kd.N_get HO_77.out [] x79_2 p173 (by first | exact q173 | exact of_decide_eq_true (by first | (with_reducible assumption) | assumption) | (have e_ := (Kd.N_reads' HO_77.out).1; omega))
                  obtain ⟨ua173_0, uc173_0, rfl, ul173_0, ge173_0⟩ := Kd.FK_slice_open hMe173
                  have hv173_0 := hcc173 0 _ rfl
                  rw [Nat.add_zero, show ((Kd.slice 2 (Kd.int .i64))).sz = 1 from rfl, Nat.mul_one] at hv173_0
                  replace hv173_0 := Option.some.inj (hv173_0.symm.trans hx173_0)
                  injection hv173_0 with hva_ hvn_ hvc_
                  rw [hva_] at ge173_0
                  rw [hvc_] at ul173_0
                  have HL173_0 := Aside0.mk (show Kd.V (Kd.int .i64) 2 _ w.heap.size _ _ (rd_L1 t166 x79_2) from Kd.V_mk ul173_0 ge173_0)
                  clear hva_ hvn_ hvc_ ge173_0 ul173_0
                  clear hcc173 hce173
                  have HR173_0 := Aside0.mk hi173_0
                  have HC173_0 := Aside0.mk hl173_0
                  clear hi173_0 hl173_0
                  replace p173 := eq_true p173
                  replace q173 := eq_true q173
                  go_wp2_with (first | ((with_reducible refine gate_callee (f := 12) rfl ?_); refine goesL_ (some 88) rfl rfl Try.func12 (by kernel_rfl) rfl #[.slice A173_0 (rd_L1 t166 x79_2).length c173_0, .slice A2 l2.length c2, .int .i64 a3] rfl (by (try simp only [List.map_toArray, List.map_cons, List.map_nil]); first | done | rfl | (simp only [List.length_drop, List.length_take]; rfl)) ?_; (with_reducible refine (linear_Tell.calls _ _ (rd_L1 t166 x79_2) (fun k_ => ((P2_ k_ ∨ w.heap.size ≤ k_) ∧ (some k_ ≠ (v164 : Value).ownBlock ∧ (some k_ ≠ (v171 : Value).ownBlock ∧ some k_ ≠ (.slice (some ad173) t166.length co30 : Value).ownBlock)))) _ _ l2 a3 t174 t175 _ ?side1 ?side2 ?side3 A34.out).mono ?_); (case side1 => repeat (first | exact (by repeat (first | (with_reducible exact HR173_0.out) | (with_reducible refine ccA ?_ _) | (with_reducible refine ccN ?_ _) | (with_reducible refine ccD ?_) | exact HR173_0.out)) | (with_reducible refine ccA ?_ _) | (with_reducible refine ccN ?_ _) | (with_reducible refine ccD ?_))); (case side2 => exact HC173_0.out); (case side3 => exact HO_2.out); rintro e w54 ⟨rfl, hb⟩; refine ⟨_, rfl, ?_⟩; have n0_ := Aside0.mk (Kd.V_below (by (with_reducible repeat (first | apply Kd.V_alloc | apply Kd.V_drewN | apply Kd.V_drew)); exact HO_2.out) hb); have n1_ := Aside0.mk (Kd.R_below (by (with_reducible repeat (first | apply rrA | apply rrN | apply rrD)); exact HO_10.out) hb); have n2_ := Aside0.mk (Kd.R_below (by (with_reducible repeat (first | apply rrA | apply rrN | apply rrD)); exact HO_13.out) hb); have n3_ := Aside0.mk (Kd.N_below (by (with_reducible repeat (first | apply Kd.N_alloc | apply Kd.N_drewN | apply Kd.N_drew)); exact HO_77.out) hb); have n4_ := Aside0.mk (Kd.V_below (by (with_reducible repeat (first | apply Kd.V_alloc | apply Kd.V_drewN | apply Kd.V_drew)); exact HL173_0.out) hb); have n5_ := Aside0.mk (Kd.C_below (by repeat (first | (with_reducible exact HR173_0.out) | (with_reducible refine ccA ?_ _) | (with_reducible refine ccN ?_ _) | (with_reducible refine ccD ?_) | exact HR173_0.out)) hb); have n6_ := Aside0.mk (zzT (by repeat (first | (with_reducible first | exact HB.out | apply zzA | apply zzN | apply zzD) | exact HB.out)) hb); clear HO_2; clear HO_10; clear HO_13; clear HO_77; clear HL173_0; clear HR173_0; clear HB; have HO_2 := n0_; have HO_10 := n1_; have HO_13 := n2_; have HO_77 := n3_; have HL173_0 := n4_; have HR173_0 := n5_; have HB := n6_; clear n0_ n1_ n2_ n3_ n4_ n5_ n6_; (try clear hb); (try clear hb2); (try clear hk); (try clear hi); obtain ⟨Ao55, co55, eo55⟩ := Kd.R_slice HO_10.out; subst eo55; have p176 : 0 ≤ (x79_2 : Int) := of_decide_eq_true (by first | (with_reducible assumption) | assumption); have q176 : x79_2 < (t162.length : Int) := of_decide_eq_true (by first | (with_reducible assumption) | assumption); obtain ⟨ad176, e176, hx176_0⟩ := Kd.at_int (Kd.R_reads' HO_10.out).2.2 x79_2 p176 q176; cases e176; replace p176 := eq_true p176; replace q176 := eq_true q176; have p179 : 0 ≤ (x79_2 : Int) := of_decide_eq_true (by first | (with_reducible assumption) | assumption); have q179 : x79_2 < (t162.length : Int) := of_decide_eq_true (by first | (with_reducible assumption) | assumption); obtain ⟨ad179, e179, hx179_0⟩ := Kd.at_int (Kd.R_reads' HO_10.out).2.2 x79_2 p179 q179; obtain rfl : ad176 = ad179 := (by injection e179); replace p179 := eq_true p179; replace q179 := eq_true q179))
                  go_roundg k2
                  case measure => have := HJ11.out; have := HK2.out; omega
                  case rel => exact ⟨(wrap64 (x79_2 + 1)), (by first | rfl | (simp; done) | (simp [*]; done)), H', ⟨by have := HJ11.out; have := HK2.out; omega⟩, ⟨by (with_reducible repeat (first | apply Kd.V_alloc | apply Kd.V_drewN | apply Kd.V_drew)); exact HO_2.out⟩, ⟨by (with_reducible repeat (first | apply rrA | apply rrN | apply rrD)); exact HO_10.out⟩, ⟨by (with_reducible repeat (first | apply rrA | apply rrN | apply rrD)); exact HO_13.out⟩, ⟨by (with_reducible repeat (first | apply Kd.N_alloc | apply Kd.N_drewN | apply Kd.N_drew)); exact HO_77.out⟩, ⟨by repeat (first | (with_reducible first | exact HB.out | apply zzA | apply zzN | apply zzD) | exact HB.out)⟩⟩
                 ·
                  rw [if_neg c53] at H
                  exact absurd (Option.some.inj H) (by rw [HR_.out]; decide)
                ·
                 rw [if_neg c52] at H
                 have c52b0 : decide (t174 ≤ 0) = false := decide_eq_false c52
                 clear c52
                 have H' := Aside0.mk H
                 clear H
                 have p173 : 0 ≤ (x79_2 : Int) := of_decide_eq_true (by first | (with_reducible assumption) | assumption)
                 have q173 : x79_2 < (t166.length : Int) := of_decide_eq_true (by first | (with_reducible assumption) | assumption)
                 obtain ⟨ad173, A173_0, c173_0, e173, hx173_0, hl173_0, hi173_0⟩ := at_L1 (Kd.N_reads' HO_77.out).2.2 x79_2 p173 q173
                 cases e173
                 obtain ⟨ce173, hce173, hMe173, hcc173⟩ := Kd.N_get HO_77.out [] x79_2 p173 (by first | exact q173 | exact of_decide_eq_true (by first | (with_reducible assumption) | assumption) | (have e_ := (Kd.N_reads' HO_77.out).1; omega))
                 obtain ⟨ua173_0, uc173_0, rfl, ul173_0, ge173_0⟩ := Kd.FK_slice_open hMe173
                 have hv173_0 := hcc173 0 _ rfl
                 rw [Nat.add_zero, show ((Kd.slice 2 (Kd.int .i64))).sz = 1 from rfl, Nat.mul_one] at hv173_0
                 replace hv173_0 := Option.some.inj (hv173_0.symm.trans hx173_0)
                 injection hv173_0 with hva_ hvn_ hvc_
                 rw [hva_] at ge173_0
                 rw [hvc_] at ul173_0
                 have HL173_0 := Aside0.mk (show Kd.V (Kd.int .i64) 2 _ w.heap.size _ _ (rd_L1 t166 x79_2) from Kd.V_mk ul173_0 ge173_0)
                 clear hva_ hvn_ hvc_ ge173_0 ul173_0
                 clear hcc173 hce173
                 have HR173_0 := Aside0.mk hi173_0
                 have HC173_0 := Aside0.mk hl173_0
                 clear hi173_0 hl173_0
                 replace p173 := eq_true p173
                 replace q173 := eq_true q173
                 go_wp2_with (first | ((with_reducible refine gate_callee (f := 12) rfl ?_); refine goesL_ (some 88) rfl rfl Try.func12 (by kernel_rfl) rfl #[.slice A173_0 (rd_L1 t166 x79_2).length c173_0, .slice A2 l2.length c2, .int .i64 a3] rfl (by (try simp only [List.map_toArray, List.map_cons, List.map_nil]); first | done | rfl | (simp only [List.length_drop, List.length_take]; rfl)) ?_; (with_reducible refine (linear_Tell.calls _ _ (rd_L1 t166 x79_2) (fun k_ => ((P2_ k_ ∨ w.heap.size ≤ k_) ∧ (some k_ ≠ (v164 : Value).ownBlock ∧ (some k_ ≠ (v171 : Value).ownBlock ∧ some k_ ≠ (.slice (some ad173) t166.length co30 : Value).ownBlock)))) _ _ l2 a3 t174 t175 _ ?side1 ?side2 ?side3 A34.out).mono ?_); (case side1 => repeat (first | exact (by repeat (first | (with_reducible exact HR173_0.out) | (with_reducible refine ccA ?_ _) | (with_reducible refine ccN ?_ _) | (with_reducible refine ccD ?_) | exact HR173_0.out)) | (with_reducible refine ccA ?_ _) | (with_reducible refine ccN ?_ _) | (with_reducible refine ccD ?_))); (case side2 => exact HC173_0.out); (case side3 => exact HO_2.out); rintro e w58 ⟨rfl, hb⟩; refine ⟨_, rfl, ?_⟩; have n0_ := Aside0.mk (Kd.V_below (by (with_reducible repeat (first | apply Kd.V_alloc | apply Kd.V_drewN | apply Kd.V_drew)); exact HO_2.out) hb); have n1_ := Aside0.mk (Kd.R_below (by (with_reducible repeat (first | apply rrA | apply rrN | apply rrD)); exact HO_10.out) hb); have n2_ := Aside0.mk (Kd.R_below (by (with_reducible repeat (first | apply rrA | apply rrN | apply rrD)); exact HO_13.out) hb); have n3_ := Aside0.mk (Kd.N_below (by (with_reducible repeat (first | apply Kd.N_alloc | apply Kd.N_drewN | apply Kd.N_drew)); exact HO_77.out) hb); have n4_ := Aside0.mk (Kd.V_below (by (with_reducible repeat (first | apply Kd.V_alloc | apply Kd.V_drewN | apply Kd.V_drew)); exact HL173_0.out) hb); have n5_ := Aside0.mk (Kd.C_below (by repeat (first | (with_reducible exact HR173_0.out) | (with_reducible refine ccA ?_ _) | (with_reducible refine ccN ?_ _) | (with_reducible refine ccD ?_) | exact HR173_0.out)) hb); have n6_ := Aside0.mk (zzT (by repeat (first | (with_reducible first | exact HB.out | apply zzA | apply zzN | apply zzD) | exact HB.out)) hb); clear HO_2; clear HO_10; clear HO_13; clear HO_77; clear HL173_0; clear HR173_0; clear HB; have HO_2 := n0_; have HO_10 := n1_; have HO_13 := n2_; have HO_77 := n3_; have HL173_0 := n4_; have HR173_0 := n5_; have HB := n6_; clear n0_ n1_ n2_ n3_ n4_ n5_ n6_; (try clear hb); (try clear hb2); (try clear hk); (try clear hi); obtain ⟨Ao59, co59, eo59⟩ := Kd.R_slice HO_10.out; subst eo59; have p176 : 0 ≤ (x79_2 : Int) := of_decide_eq_true (by first | (with_reducible assumption) | assumption); have q176 : x79_2 < (t162.length : Int) := of_decide_eq_true (by first | (with_reducible assumption) | assumption); obtain ⟨ad176, e176, hx176_0⟩ := Kd.at_int (Kd.R_reads' HO_10.out).2.2 x79_2 p176 q176; cases e176; replace p176 := eq_true p176; replace q176 := eq_true q176))
                 go_roundg k2
                 case measure => have := HJ11.out; have := HK2.out; omega
                 case rel => exact ⟨(wrap64 (x79_2 + 1)), (by first | rfl | (simp; done) | (simp [*]; done)), H', ⟨by have := HJ11.out; have := HK2.out; omega⟩, ⟨by (with_reducible repeat (first | apply Kd.V_alloc | apply Kd.V_drewN | apply Kd.V_drew)); exact HO_2.out⟩, ⟨by (with_reducible repeat (first | apply rrA | apply rrN | apply rrD)); exact HO_10.out⟩, ⟨by (with_reducible repeat (first | apply rrA | apply rrN | apply rrD)); exact HO_13.out⟩, ⟨by (with_reducible repeat (first | apply Kd.N_alloc | apply Kd.N_drewN | apply Kd.N_drew)); exact HO_77.out⟩, ⟨by repeat (first | (with_reducible first | exact HB.out | apply zzA | apply zzN | apply zzD) | exact HB.out)⟩⟩
             ·
              rw [if_neg c36] at H
              exact absurd H (by simp)
            ·
             rw [if_neg c35] at H
             exact absurd (Option.some.inj H) (by rw [HR_.out]; decide)
           ·
            rw [if_neg c33] at H
            exact absurd H (by simp)
          ·
           rw [if_neg c32] at H
           exact absurd H (by simp)
         ·
          rw [if_neg c31] at H
          have c31b0 : decide (x79_2 < (t166.length : Int)) = false := decide_eq_false c31
          clear c31
          replace H := Option.bind_eq_some_iff.mp H
          obtain ⟨⟨t180, t181⟩, A610, H⟩ := H
          replace H : ((linear_Tell.f t167 t162 a3).bind fun bt182 => (if true = true then (if t180 = bt182.1 then (some (t181 == bt182.2)) else (some false)) else (some false))) = some r := H
          have A61 := Aside0.mk A610
          clear A610
          replace H := Option.bind_eq_some_iff.mp H
          obtain ⟨⟨t182, t183⟩, A620, H⟩ := H
          replace H : (if true = true then (if t180 = t182 then (some (t181 == t183)) else (some false)) else (some false)) = some r := H
          have A62 := Aside0.mk A620
          clear A620
          first | rw [if_pos rfl] at H | rw [if_pos trivial] at H
          by_cases c63 : t180 = t182
          ·
           rw [if_pos c63] at H
           have c63b0 : (t180 == t182) = true := beq_iff_eq.mpr c63
           have c63b1 : (t180 != t182) = false := bne_eq_false_iff_eq.mpr c63
           clear c63
           obtain rfl := Option.some.inj H
           go_wp2_with (first | ((with_reducible refine gate_callee (f := 13) rfl ?_); refine goesL_ (some 129) rfl rfl Try.func13 (by kernel_rfl) rfl #[.int .i64 a0, .slice A1 l1.length c1, .slice A2 l2.length c2, .int .i64 a3] rfl (by (try simp only [List.map_toArray, List.map_cons, List.map_nil]); first | done | rfl | (simp only [List.length_drop, List.length_take]; rfl)) ?_; (with_reducible refine (mlp_Tell.calls a0 _ _ l1 _ _ l2 a3 t180 t181 _ ?side1 ?side2 ?side3 ?side4 A61.out).mono ?_); (case side1 => repeat (first | exact (Kd.C_below HR1.out HB.out) | (with_reducible refine ccA ?_ _) | (with_reducible refine ccN ?_ _) | (with_reducible refine ccD ?_))); (case side2 => exact HC1.out); (case side3 => repeat (first | exact (Kd.V_reads' HO_2.out).2.2 | (with_reducible refine ccA ?_ _) | (with_reducible refine ccN ?_ _) | (with_reducible refine ccD ?_))); (case side4 => exact (Kd.V_reads' HO_2.out).2.1); rintro e w64 ⟨rfl, hb⟩; refine ⟨_, rfl, ?_⟩; have n0_ := Aside0.mk (Kd.V_below (by (with_reducible repeat (first | apply Kd.V_alloc | apply Kd.V_drewN | apply Kd.V_drew)); exact HO_2.out) hb); have n1_ := Aside0.mk (Kd.R_below (by (with_reducible repeat (first | apply rrA | apply rrN | apply rrD)); exact HO_10.out) hb); have n2_ := Aside0.mk (Kd.R_below (by (with_reducible repeat (first | apply rrA | apply rrN | apply rrD)); exact HO_13.out) hb); have n3_ := Aside0.mk (Kd.N_below (by (with_reducible repeat (first | apply Kd.N_alloc | apply Kd.N_drewN | apply Kd.N_drew)); exact HO_77.out) hb); have n4_ := Aside0.mk (zzT (by repeat (first | (with_reducible first | exact HB.out | apply zzA | apply zzN | apply zzD) | exact HB.out)) hb); clear HO_2; clear HO_10; clear HO_13; clear HO_77; clear HB; have HO_2 := n0_; have HO_10 := n1_; have HO_13 := n2_; have HO_77 := n3_; have HB := n4_; clear n0_ n1_ n2_ n3_ n4_; (try clear hb); (try clear hb2); (try clear hk); (try clear hi); obtain ⟨Ao65, co65, eo65⟩ := Kd.R_slice HO_13.out; subst eo65; obtain ⟨Ao66, co66, eo66⟩ := Kd.R_slice HO_10.out; subst eo66) | ((with_reducible refine gate_callee (f := 12) rfl ?_); refine goesL_ (some 136) rfl rfl Try.func12 (by kernel_rfl) rfl #[.slice Ao65 t167.length co65, .slice Ao66 t162.length co66, .int .i64 a3] rfl (by (try simp only [List.map_toArray, List.map_cons, List.map_nil]); first | done | rfl | (simp only [List.length_drop, List.length_take]; rfl)) ?_; (with_reducible refine (linear_Tell.calls _ _ t167 (fun k_ => some k_ = (.slice Ao66 t162.length co66 : Value).ownBlock) _ _ t162 a3 t182 t183 _ ?side1 ?side2 ?side3 A62.out).mono ?_); (case side1 => repeat (first | exact (Kd.R_reads' HO_13.out).2.2 | (with_reducible refine ccA ?_ _) | (with_reducible refine ccN ?_ _) | (with_reducible refine ccD ?_))); (case side2 => exact (Kd.R_reads' HO_13.out).2.1); (case side3 => exact Kd.R_V (Kd.R_tight rfl (Kd.R_apart' (HO_10.out) (Kd.N_typed HO_77.out) (by decide)))); rintro e w67 ⟨rfl, hb⟩; refine ⟨_, rfl, ?_⟩; have n0_ := Aside0.mk (Kd.V_below (by (with_reducible repeat (first | apply Kd.V_alloc | apply Kd.V_drewN | apply Kd.V_drew)); exact HO_2.out) hb); have n1_ := Aside0.mk (Kd.R_below (by (with_reducible repeat (first | apply rrA | apply rrN | apply rrD)); exact HO_10.out) hb); have n2_ := Aside0.mk (Kd.R_below (by (with_reducible repeat (first | apply rrA | apply rrN | apply rrD)); exact HO_13.out) hb); have n3_ := Aside0.mk (Kd.N_below (by (with_reducible repeat (first | apply Kd.N_alloc | apply Kd.N_drewN | apply Kd.N_drew)); exact HO_77.out) hb); have n4_ := Aside0.mk (zzT (by repeat (first | (with_reducible first | exact HB.out | apply zzA | apply zzN | apply zzD) | exact HB.out)) hb); clear HO_2; clear HO_10; clear HO_13; clear HO_77; clear HB; have HO_2 := n0_; have HO_10 := n1_; have HO_13 := n2_; have HO_77 := n3_; have HB := n4_; clear n0_ n1_ n2_ n3_ n4_; (try clear hb); (try clear hb2); (try clear hk); (try clear hi)))
           go_ret
           exact ⟨by first | rfl | (simp [errW_none, errW_some] <;> rfl) | (simp [*, errW_none, errW_some] <;> rfl), by repeat (first | (with_reducible first | exact HB.out | apply zzA | apply zzN | apply zzD) | exact HB.out)⟩
          ·
           rw [if_neg c63] at H
           exact absurd (Option.some.inj H) (by rw [HR_.out]; decide)
   ·
    rw [if_neg c10] at H
    have c10b0 : (t163 == 0) = false := beq_eq_false_iff_ne.mpr c10
    have c10b1 : (t163 != 0) = true := bne_iff_ne.mpr c10
    obtain rfl := Option.some.inj H
    go_enter Try.func3, Try.ntmps3
    go_wp2_with (first | ((with_reducible refine gate_callee (f := 8) rfl ?_); refine goesL_ (some 23) rfl rfl Try.func8 (by kernel_rfl) rfl #[] rfl (by (try simp only [List.map_toArray, List.map_cons, List.map_nil]); first | done | rfl | (simp only [List.length_drop, List.length_take]; rfl)) ?_; (with_reducible refine (thrumlaw16_live.calls  true _ A5.out).mono ?_); rintro e w72 ⟨rfl, hb⟩; refine ⟨_, rfl, ?_⟩; have n0_ := Aside0.mk (Kd.V_below (by (with_reducible repeat (first | apply Kd.V_alloc | apply Kd.V_drewN | apply Kd.V_drew)); exact HO2.out) hb); have n1_ := Aside0.mk (zzT (by repeat (first | (with_reducible first | exact HB.out | apply zzA | apply zzN | apply zzD) | exact HB.out)) hb); clear HO2; clear HB; have HO2 := n0_; have HB := n1_; clear n0_ n1_; (try clear hb); (try clear hb2); (try clear hk); (try clear hi)) | ((with_reducible refine gate_dst (N := 29) rfl ?_); (try (refine gate_guard (by rfl) ?_; dsimp only)); refine Kd.N_lit k26 _ 26 ?hg (N' := 29) ?hd (xs := ([(⟨l2, 0⟩ : S26)] : List (S26))) (inner := [.slice A2 l2.length c2, .int .i64 0]) (ok := (fun k_ => (P2_ k_ ∨ w.heap.size ≤ k_))) (okp := (fun k_ => (P2_ k_ ∨ w.heap.size ≤ k_))) ?hr ?hp (fun _ hk => hk) ((show ∀ k_, w72.heap.size ≤ k_ → (fun k_ => (P2_ k_ ∨ w.heap.size ≤ k_)) k_ from fun k_ hk => (.inr (Nat.le_trans (zzS (by repeat (first | (with_reducible first | exact HB.out | apply zzA | apply zzN | apply zzD) | exact HB.out))) hk))) _ (Nat.le_refl _)) (Below.refl _ _) (Nat.le_refl _) (by simp) ?_; (case hd => rfl); (case hg => rfl); (case hr => first | (go_simp; done) | (go_simp; rfl)); (case hp => exact (Reps.c2 (show Kd.FK k26 _ _ (⟨l2, 0⟩ : S26) [.slice A2 l2.length c2, .int .i64 0] from (k26_mkF _ _ (⟨l2, 0⟩ : S26) (Kd.V_reads' (Kd.V_mono (ok' := (fun k_ => (P2_ k_ ∨ w.heap.size ≤ k_))) (HO2.out) (fun k_ hk => hk))).2.1 (Kd.V_F (base := w.heap.size) (e := 2) (Kd.V_mono (ok' := (fun k_ => (P2_ k_ ∨ w.heap.size ≤ k_))) (HO2.out) (fun k_ hk => hk))))) (Reps.none _ _))); intro v159 w73 ho74 hb hg_ hnew_; clear hg_ hnew_; (first | rw [← Ny158.out] at ho74 | (simp only [Int.reduceToNat] at ho74; rw [← Ny158.out] at ho74)); have n0_ := Aside0.mk (Kd.V_elder' (by (with_reducible repeat (first | apply Kd.V_alloc | apply Kd.V_drewN | apply Kd.V_drew)); exact HO2.out) (Kd.N_base ho74) hb); have n1_ := Aside0.mk (Kd.N_lower ho74 (zzS (by repeat (first | (with_reducible first | exact HB.out | apply zzA | apply zzN | apply zzD) | exact HB.out)))); have n2_ := Aside0.mk (zzT (by repeat (first | (with_reducible first | exact HB.out | apply zzA | apply zzN | apply zzD) | exact HB.out)) hb); clear HO2; clear HB; have HO2 := n0_; have HO160 := n1_; have HB := n2_; clear n0_ n1_ n2_; clear hb ho74; obtain ⟨Ao75, co75, eo75⟩ := Kd.N_slice HO160.out; subst eo75) | ((with_reducible refine gate_callee (f := 9) rfl ?_); refine goesL_ (some 30) rfl rfl Try.func9 (by kernel_rfl) rfl #[.slice A1 l1.length c1, .slice Ao75 y158.length co75] rfl (by (try simp only [List.map_toArray, List.map_cons, List.map_nil]); first | done | rfl | (simp only [List.length_drop, List.length_take]; rfl)) ?_; (with_reducible refine (thrumref14_Few.calls _ _ l1 _ _ y158 true _ ?side1 ?side2 ?side3 ?side4 A7.out).mono ?_); (case side1 => repeat (first | exact (Kd.C_below HR1.out HB.out) | (with_reducible refine ccA ?_ _) | (with_reducible refine ccN ?_ _) | (with_reducible refine ccD ?_))); (case side2 => exact HC1.out); (case side3 => repeat (first | exact (Kd.N_reads' HO160.out).2.2 | (with_reducible refine ccA ?_ _) | (with_reducible refine ccN ?_ _) | (with_reducible refine ccD ?_))); (case side4 => exact (Kd.N_reads' HO160.out).2.1); rintro e w76 ⟨rfl, hb⟩; refine ⟨_, rfl, ?_⟩; have n0_ := Aside0.mk (Kd.V_below (by (with_reducible repeat (first | apply Kd.V_alloc | apply Kd.V_drewN | apply Kd.V_drew)); exact HO2.out) hb); have n1_ := Aside0.mk (Kd.N_below (by (with_reducible repeat (first | apply Kd.N_alloc | apply Kd.N_drewN | apply Kd.N_drew)); exact HO160.out) hb); have n2_ := Aside0.mk (zzT (by repeat (first | (with_reducible first | exact HB.out | apply zzA | apply zzN | apply zzD) | exact HB.out)) hb); clear HO2; clear HO160; clear HB; have HO2 := n0_; have HO160 := n1_; have HB := n2_; clear n0_ n1_ n2_; (try clear hb); (try clear hb2); (try clear hk); (try clear hi)) | ((with_reducible refine gate_callee (f := 10) rfl ?_); refine goesL_ (some 38) rfl rfl Try.func10 (by kernel_rfl) rfl #[.int .i64 a0, .slice A1 l1.length c1, .slice A2 l2.length c2, .int .i64 a3] rfl (by (try simp only [List.map_toArray, List.map_cons, List.map_nil]); first | done | rfl | (simp only [List.length_drop, List.length_take]; rfl)) ?_; (with_reducible refine (mlp_Hidden.calls a0 _ _ l1 _ _ l2 a3 t162 t163 _ ?side1 ?side2 ?side3 ?side4 A9.out).mono ?_); (case side1 => repeat (first | exact (Kd.C_below HR1.out HB.out) | (with_reducible refine ccA ?_ _) | (with_reducible refine ccN ?_ _) | (with_reducible refine ccD ?_))); (case side2 => exact HC1.out); (case side3 => repeat (first | exact (Kd.V_reads' HO2.out).2.2 | (with_reducible refine ccA ?_ _) | (with_reducible refine ccN ?_ _) | (with_reducible refine ccD ?_))); (case side4 => exact (Kd.V_reads' HO2.out).2.1); rintro e w77 ⟨v164, rfl, ho0, hb⟩; refine ⟨_, rfl, ?_⟩; have n0_ := Aside0.mk (Kd.V_elder' (by (with_reducible repeat (first | apply Kd.V_alloc | apply Kd.V_drewN | apply Kd.V_drew)); exact HO2.out) (Kd.R_base ho0) hb); have n1_ := Aside0.mk (Kd.N_elder' (by (with_reducible repeat (first | apply Kd.N_alloc | apply Kd.N_drewN | apply Kd.N_drew)); exact HO160.out) (Kd.R_base ho0) hb); have n2_ := Aside0.mk (Kd.R_lower (Kd.R_newM (M := fun k_ => (w.heap.size ≤ k_)) ho0 (zzS (by repeat (first | (with_reducible first | exact HB.out | apply zzA | apply zzN | apply zzD) | exact HB.out))) (fun k_ h_ => h_)) (zzS (by repeat (first | (with_reducible first | exact HB.out | apply zzA | apply zzN | apply zzD) | exact HB.out)))); have n3_ := Aside0.mk (zzT (by repeat (first | (with_reducible first | exact HB.out | apply zzA | apply zzN | apply zzD) | exact HB.out)) hb); clear HO2; clear HO160; clear HB; have HO2 := n0_; have HO160 := n1_; have HO165 := n2_; have HB := n3_; clear n0_ n1_ n2_ n3_; (try clear hb); (try clear hb2); (try clear hk); (try clear hi); (try clear ho0); obtain ⟨Ao78, co78, eo78⟩ := Kd.R_slice HO165.out; subst eo78))
    go_ret
    exact ⟨by first | rfl | (simp [errW_none, errW_some] <;> rfl) | (simp [*, errW_none, errW_some] <;> rfl), by repeat (first | (with_reducible first | exact HB.out | apply zzA | apply zzN | apply zzD) | exact HB.out)⟩
  ·
   replace c8 := Bool.eq_false_iff.mpr c8
   subst c8
   have H1 : (some true) = some r := by rw [if_neg (show ¬ (false = true) by decide)] at H; exact H
   clear H
   have H := H1
   clear H1
   obtain rfl := Option.some.inj H
   go_enter Try.func3, Try.ntmps3
   go_wp2_with (first | ((with_reducible refine gate_callee (f := 8) rfl ?_); refine goesL_ (some 23) rfl rfl Try.func8 (by kernel_rfl) rfl #[] rfl (by (try simp only [List.map_toArray, List.map_cons, List.map_nil]); first | done | rfl | (simp only [List.length_drop, List.length_take]; rfl)) ?_; (with_reducible refine (thrumlaw16_live.calls  true _ A5.out).mono ?_); rintro e w79 ⟨rfl, hb⟩; refine ⟨_, rfl, ?_⟩; have n0_ := Aside0.mk (Kd.V_below (by (with_reducible repeat (first | apply Kd.V_alloc | apply Kd.V_drewN | apply Kd.V_drew)); exact HO2.out) hb); have n1_ := Aside0.mk (zzT (by repeat (first | (with_reducible first | exact HB.out | apply zzA | apply zzN | apply zzD) | exact HB.out)) hb); clear HO2; clear HB; have HO2 := n0_; have HB := n1_; clear n0_ n1_; (try clear hb); (try clear hb2); (try clear hk); (try clear hi)) | ((with_reducible refine gate_dst (N := 29) rfl ?_); (try (refine gate_guard (by rfl) ?_; dsimp only)); refine Kd.N_lit k26 _ 26 ?hg (N' := 29) ?hd (xs := ([(⟨l2, 0⟩ : S26)] : List (S26))) (inner := [.slice A2 l2.length c2, .int .i64 0]) (ok := (fun k_ => (P2_ k_ ∨ w.heap.size ≤ k_))) (okp := (fun k_ => (P2_ k_ ∨ w.heap.size ≤ k_))) ?hr ?hp (fun _ hk => hk) ((show ∀ k_, w79.heap.size ≤ k_ → (fun k_ => (P2_ k_ ∨ w.heap.size ≤ k_)) k_ from fun k_ hk => (.inr (Nat.le_trans (zzS (by repeat (first | (with_reducible first | exact HB.out | apply zzA | apply zzN | apply zzD) | exact HB.out))) hk))) _ (Nat.le_refl _)) (Below.refl _ _) (Nat.le_refl _) (by simp) ?_; (case hd => rfl); (case hg => rfl); (case hr => first | (go_simp; done) | (go_simp; rfl)); (case hp => exact (Reps.c2 (show Kd.FK k26 _ _ (⟨l2, 0⟩ : S26) [.slice A2 l2.length c2, .int .i64 0] from (k26_mkF _ _ (⟨l2, 0⟩ : S26) (Kd.V_reads' (Kd.V_mono (ok' := (fun k_ => (P2_ k_ ∨ w.heap.size ≤ k_))) (HO2.out) (fun k_ hk => hk))).2.1 (Kd.V_F (base := w.heap.size) (e := 2) (Kd.V_mono (ok' := (fun k_ => (P2_ k_ ∨ w.heap.size ≤ k_))) (HO2.out) (fun k_ hk => hk))))) (Reps.none _ _))); intro v159 w80 ho81 hb hg_ hnew_; clear hg_ hnew_; (first | rw [← Ny158.out] at ho81 | (simp only [Int.reduceToNat] at ho81; rw [← Ny158.out] at ho81)); have n0_ := Aside0.mk (Kd.V_elder' (by (with_reducible repeat (first | apply Kd.V_alloc | apply Kd.V_drewN | apply Kd.V_drew)); exact HO2.out) (Kd.N_base ho81) hb); have n1_ := Aside0.mk (Kd.N_lower ho81 (zzS (by repeat (first | (with_reducible first | exact HB.out | apply zzA | apply zzN | apply zzD) | exact HB.out)))); have n2_ := Aside0.mk (zzT (by repeat (first | (with_reducible first | exact HB.out | apply zzA | apply zzN | apply zzD) | exact HB.out)) hb); clear HO2; clear HB; have HO2 := n0_; have HO160 := n1_; have HB := n2_; clear n0_ n1_ n2_; clear hb ho81; obtain ⟨Ao82, co82, eo82⟩ := Kd.N_slice HO160.out; subst eo82) | ((with_reducible refine gate_callee (f := 9) rfl ?_); refine goesL_ (some 30) rfl rfl Try.func9 (by kernel_rfl) rfl #[.slice A1 l1.length c1, .slice Ao82 y158.length co82] rfl (by (try simp only [List.map_toArray, List.map_cons, List.map_nil]); first | done | rfl | (simp only [List.length_drop, List.length_take]; rfl)) ?_; (with_reducible refine (thrumref14_Few.calls _ _ l1 _ _ y158 false _ ?side1 ?side2 ?side3 ?side4 A7.out).mono ?_); (case side1 => repeat (first | exact (Kd.C_below HR1.out HB.out) | (with_reducible refine ccA ?_ _) | (with_reducible refine ccN ?_ _) | (with_reducible refine ccD ?_))); (case side2 => exact HC1.out); (case side3 => repeat (first | exact (Kd.N_reads' HO160.out).2.2 | (with_reducible refine ccA ?_ _) | (with_reducible refine ccN ?_ _) | (with_reducible refine ccD ?_))); (case side4 => exact (Kd.N_reads' HO160.out).2.1); rintro e w83 ⟨rfl, hb⟩; refine ⟨_, rfl, ?_⟩; have n0_ := Aside0.mk (Kd.V_below (by (with_reducible repeat (first | apply Kd.V_alloc | apply Kd.V_drewN | apply Kd.V_drew)); exact HO2.out) hb); have n1_ := Aside0.mk (Kd.N_below (by (with_reducible repeat (first | apply Kd.N_alloc | apply Kd.N_drewN | apply Kd.N_drew)); exact HO160.out) hb); have n2_ := Aside0.mk (zzT (by repeat (first | (with_reducible first | exact HB.out | apply zzA | apply zzN | apply zzD) | exact HB.out)) hb); clear HO2; clear HO160; clear HB; have HO2 := n0_; have HO160 := n1_; have HB := n2_; clear n0_ n1_ n2_; (try clear hb); (try clear hb2); (try clear hk); (try clear hi)))
   go_ret
   exact ⟨by first | rfl | (simp [errW_none, errW_some] <;> rfl) | (simp [*, errW_none, errW_some] <;> rfl), by repeat (first | (with_reducible first | exact HB.out | apply zzA | apply zzN | apply zzD) | exact HB.out)⟩
 ·
  replace c6 := Bool.eq_false_iff.mpr c6
  subst c6
  have H1 : (some false) = some r := by rw [if_neg (show ¬ (false = true) by decide)] at H; exact H
  exact absurd (Option.some.inj H1) (by rw [HR_.out]; decide)

/-- THE ONE PURE STATEMENT of thrumlaw16_MlpHides: yours. -/
def thrumlaw16_MlpHides.Pure : Prop := ∀ (a0 : Int) (l1 : List Int) (l2 : List Int) (a3 : Int), (Lit.int .i64 a0).wf = true → l1.length ≤ maxLen → l1.length * 8 ≤ 140737488351232 → (∀ x ∈ l1, (Lit.int .i64 x).wf = true) → l2.length ≤ maxLen → l2.length * 8 ≤ 140737488351232 → (∀ x ∈ l2, (Lit.int .i64 x).wf = true) → (Lit.int .i64 a3).wf = true → ∃ k, thrumlaw16_MlpHides.f k a0 l1 l2 a3 = some true
theorem thrumlaw16_MlpHides.walk (P : thrumlaw16_MlpHides.Pure) (a0 : Int) (a1 : Option Addr) (len1 cap1 : Nat) (z1 : List Int) (a2 : Option Addr) (len2 cap2 : Nat) (z2 : List Int) (a3 : Int) (w : World) (w0 : (Lit.int .i64 a0).wf = true) (w1 : (a1 = none ∧ len1 = 0 ∧ cap1 = 0 ∧ z1 = []) ∨ ∃ x, a1 = some x ∧ len1 ≤ cap1 ∧ cap1 ≤ maxLen ∧ z1.length = cap1 ∧ (∀ i, i < z1.length → w.cell? (x.add i) = some (.int .i64 (z1.getD i 0))) ∧ ∀ n ∈ z1, (Lit.int .i64 n).wf = true) (y1 : len1 * 8 ≤ 140737488351232) (w2 : (a2 = none ∧ len2 = 0 ∧ cap2 = 0 ∧ z2 = []) ∨ ∃ x, a2 = some x ∧ len2 ≤ cap2 ∧ cap2 ≤ maxLen ∧ z2.length = cap2 ∧ (∀ i, i < z2.length → w.cell? (x.add i) = some (.int .i64 (z2.getD i 0))) ∧ ∀ n ∈ z2, (Lit.int .i64 n).wf = true) (y2 : len2 * 8 ≤ 140737488351232) (w3 : (Lit.int .i64 a3).wf = true) :
  Calls Try.prog 3 #[.int .i64 a0, .slice a1 len1 cap1, .slice a2 len2 cap2, .int .i64 a3] w fun e w' => e = .returned (.bool true) ∧ Below w.heap.size w w' := by
 obtain ⟨l1, rfl, hr1, hm1, hw1, hc1⟩ := ReadsInt.ofRowC w1
 obtain ⟨l2, rfl, hr2, hm2, hw2, hc2⟩ := ReadsInt.ofRowC w2
 obtain ⟨k, h⟩ := P a0 l1 l2 a3 w0 hm1 y1 hw1 hm2 y2 hw2 w3
 refine (thrumlaw16_MlpHides.calls k a0 _ _ l1 (fun k_ => k_ < w.heap.size) _ _ l2 a3 true w (Kd.C_of_reads (d := (0 : Int)) (h1 := fun _ => rfl) hr1) hc1 (Kd.V_mk hc2 (Kd.C_F (Kd.heap_int _) (Kd.C_of_reads (d := (0 : Int)) (h1 := fun _ => rfl) hr2))) h rfl).mono ?_
 rintro e w' ⟨rfl, hd⟩
 exact ⟨rfl, hd⟩



















































































































































































































































































































































































































































































































































































































































































































































































































































































































































































































































end Go.Proofs.Ytalamamjodihaaa.HM
