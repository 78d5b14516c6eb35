/- What Go functions do, each as a plain Lean function with the same answers, and the proof of it, in every world: printed by the session's driver over the kit's print, with texts by hand. -/
import Derived.Test.YtalamamjodihaaaHPx0
import Derived.Test.YtalamamjodihaaaHPx2
import Derived.Test.YtalamamjodihaaaHPx3
import Derived.Test.YtalamamjodihaaaHPx7
import Derived.Test.YtalamamjodihaaaHPx8
namespace Go.Proofs.Ytalamamjodihaaa.HP
open Go.RowKit Go.Proofs.YtalamamjodihaaaW.PrintWords Go.Proofs.YtalamamjodihaaaW.PrintLast Go.Proofs.YtalamamjodihaaaW.PrintMore
attribute [local go_sem] max2_int min2_int max_two min_two max_three min_three max_four min_four   -- for this text's walks alone
open Go.Proofs.Ytalamamjodihaaa.Sp
attribute [local go_sem] Go.Proofs.Ytalamamjodihaaa.Sp.u64_not
set_option linter.unusedVariables false
set_option linter.unusedSimpArgs false

/-! ### thrumlaw16_MlpTurns: function 7 -/
mutual
def thrumlaw16_MlpTurns.j0 : Nat → List Int → Int → List (S26) → Bool → Int → Bool → Option (Bool)
 | 0, _, _, _, _, _, _ => none
 | k + 1, x0, x1, x2, x7, x10, x53 => if x53 = true then (if x7 = true then (if x10 = 0 then (some ((x2.length : Int) == 0)) else (some true)) else (some false)) else ((thrumlaw16_MlpTurns_1.f x0).bind fun t205 => (if ([] : List Int).length + x0.length < 17592186044416 then ((some (([] : List Int) ++ x0 : List Int)).bind fun y208 => (if 0 < (x2.length : Int) then (if y208.length + ((rd_T26 x2 0).f0).length < 17592186044416 then ((some (y208 ++ ((rd_T26 x2 0).f0) : List Int)).bind fun y212 => (thrumlaw16_MlpTurns.l0 k x0 x1 x2 x7 t205 y212 (y212.length : Int) 0)) else (none)) else (none))) else (none)))
def thrumlaw16_MlpTurns.l0 : Nat → List Int → Int → List (S26) → Bool → List Int → List Int → Int → Int → Option (Bool)
 | 0, _, _, _, _, _, _, _, _ => none
 | k + 1, x0, x1, x2, x7, x12, x73, x74, x75 => if x75 < x74 then (if 0 ≤ x75 then (if x75 < (x73.length : Int) then (if (rd x73 x75) > 4096 then (some x7) else (if (rd x73 x75) < (-4096) then (some x7) else (thrumlaw16_MlpTurns.l0 k x0 x1 x2 x7 x12 x73 x74 (wrap64 (x75 + 1))))) else (none)) else (none)) else (if 0 < (x2.length : Int) then ((mlp_Tell.f 2 x0 ((rd_T26 x2 0).f0) x1).bind fun bt217 => ((mlp_Tell.f 2 x12 ((rd_T26 x2 0).f0) x1).bind fun bt220 => ((mlp_Grad.f 2 x0 x1 (([(⟨(rd_T26 x2 0).f0, (rd_T26 x2 0).f1⟩ : S26)] : List (S26)))).bind fun bt226 => ((mlp_Grad.f 2 x12 x1 (([(⟨(rd_T26 x2 0).f0, (rd_T26 x2 0).f1⟩ : S26)] : List (S26)))).bind fun bt234 => (if bt217.1 = bt220.1 then (if bt217.2 = bt220.2 then (thrumlaw16_MlpTurns.j2 k x0 x7 bt226.1 bt226.2 bt234.1 (bt226.2 != bt234.2)) else (thrumlaw16_MlpTurns.j2 k x0 x7 bt226.1 bt226.2 bt234.1 true)) else (thrumlaw16_MlpTurns.j2 k x0 x7 bt226.1 bt226.2 bt234.1 true)))))) else (none))
def thrumlaw16_MlpTurns.j2 : Nat → List Int → Bool → List Int → Int → List Int → Bool → Option (Bool)
 | 0, _, _, _, _, _, _ => none
 | k + 1, x0, x7, x19, x20, x21, x139 => if x139 = true then (some false) else (if x7 = true then (if x20 = 0 then (if (x19.length : Int) = (x0.length : Int) then ((thrumlaw16_MlpTurns_1.f x19).bind fun t238 => ((thrumref02_Same.f t238 x21).bind fun t241 => (some t241))) else (some false)) else (some true)) else (some false))
end
def thrumlaw16_MlpTurns.f (k : Nat) (l0 : List Int) (a1 : Int) (l2 : List (S26)) : Option (Bool) := (thrumlaw16_live.f).bind fun t196 => (if t196 = true then ((thrumref14_Few.f l0 l2).bind fun t197 => (if t197 = true then ((mlp_Split.f 2 l0).bind fun bt198 => (if bt198.2.2 = 0 then (if (bt198.1.length : Int) = 2 then (if (bt198.2.1.length : Int) = 3 then (thrumlaw16_MlpTurns.j0 k l0 a1 l2 t196 bt198.2.2 ((l2.length : Int) == 0)) else (thrumlaw16_MlpTurns.j0 k l0 a1 l2 t196 bt198.2.2 true)) else (thrumlaw16_MlpTurns.j0 k l0 a1 l2 t196 bt198.2.2 true)) else (thrumlaw16_MlpTurns.j0 k l0 a1 l2 t196 bt198.2.2 true))) else (some t196))) else (some false))
theorem thrumlaw16_MlpTurns.mono_l : ∀ k, (∀ y0 y1 y2 y3 y4 y5, LeO (thrumlaw16_MlpTurns.j0 k y0 y1 y2 y3 y4 y5) (thrumlaw16_MlpTurns.j0 (k + 1) y0 y1 y2 y3 y4 y5)) ∧ (∀ y0 y1 y2 y3 y4 y5 y6 y7, LeO (thrumlaw16_MlpTurns.l0 k y0 y1 y2 y3 y4 y5 y6 y7) (thrumlaw16_MlpTurns.l0 (k + 1) y0 y1 y2 y3 y4 y5 y6 y7)) ∧ (∀ y0 y1 y2 y3 y4 y5, LeO (thrumlaw16_MlpTurns.j2 k y0 y1 y2 y3 y4 y5) (thrumlaw16_MlpTurns.j2 (k + 1) y0 y1 y2 y3 y4 y5))
 | 0 => ⟨fun _ _ _ _ _ _ r h => by simp [thrumlaw16_MlpTurns.j0] at h, fun _ _ _ _ _ _ _ _ r h => by simp [thrumlaw16_MlpTurns.l0] at h, fun _ _ _ _ _ _ r h => by simp [thrumlaw16_MlpTurns.j2] at h⟩
 | k + 1 => by
  obtain ⟨ih0, ih1, ih2⟩ := thrumlaw16_MlpTurns.mono_l k
  refine ⟨?_, ?_, ?_⟩
  ·
   intro y0 y1 y2 y3 y4 y5
   unfold thrumlaw16_MlpTurns.j0
   repeat' first
   | (with_reducible exact ih0 _ _ _ _ _ _)
   | (with_reducible exact ih1 _ _ _ _ _ _ _ _)
   | (with_reducible exact ih2 _ _ _ _ _ _)
   | (with_reducible exact LeO.refl _)
   | (with_reducible exact LeO.none _)
   | (with_reducible refine LeO.ite ?_ ?_)
   | (with_reducible refine LeO.bind ?_ (fun _ => ?_))
   | exact ih0 _ _ _ _ _ _
   | exact ih1 _ _ _ _ _ _ _ _
   | exact ih2 _ _ _ _ _ _
   | exact LeO.none _
   | refine LeO.ite ?_ ?_
   | refine LeO.bind ?_ (fun _ => ?_)
  ·
   intro y0 y1 y2 y3 y4 y5 y6 y7
   unfold thrumlaw16_MlpTurns.l0
   repeat' first
   | (with_reducible exact ih0 _ _ _ _ _ _)
   | (with_reducible exact ih1 _ _ _ _ _ _ _ _)
   | (with_reducible exact ih2 _ _ _ _ _ _)
   | (with_reducible exact LeO.refl _)
   | (with_reducible exact LeO.none _)
   | (with_reducible refine LeO.ite ?_ ?_)
   | (with_reducible refine LeO.bind ?_ (fun _ => ?_))
   | exact ih0 _ _ _ _ _ _
   | exact ih1 _ _ _ _ _ _ _ _
   | exact ih2 _ _ _ _ _ _
   | exact LeO.none _
   | refine LeO.ite ?_ ?_
   | refine LeO.bind ?_ (fun _ => ?_)
  ·
   intro y0 y1 y2 y3 y4 y5
   unfold thrumlaw16_MlpTurns.j2
   repeat' first
   | (with_reducible exact ih0 _ _ _ _ _ _)
   | (with_reducible exact ih1 _ _ _ _ _ _ _ _)
   | (with_reducible exact ih2 _ _ _ _ _ _)
   | (with_reducible exact LeO.refl _)
   | (with_reducible exact LeO.none _)
   | (with_reducible refine LeO.ite ?_ ?_)
   | (with_reducible refine LeO.bind ?_ (fun _ => ?_))
   | exact ih0 _ _ _ _ _ _
   | exact ih1 _ _ _ _ _ _ _ _
   | exact ih2 _ _ _ _ _ _
   | exact LeO.none _
   | refine LeO.ite ?_ ?_
   | refine LeO.bind ?_ (fun _ => ?_)
theorem thrumlaw16_MlpTurns.mono : ∀ a0 a1 a2 k, LeO (thrumlaw16_MlpTurns.f k a0 a1 a2) (thrumlaw16_MlpTurns.f (k + 1) a0 a1 a2) := by
 intro a0 a1 a2 k
 obtain ⟨ih0, ih1, ih2⟩ := thrumlaw16_MlpTurns.mono_l k
 unfold thrumlaw16_MlpTurns.f
 repeat' first
   | (with_reducible exact ih0 _ _ _ _ _ _)
   | (with_reducible exact ih1 _ _ _ _ _ _ _ _)
   | (with_reducible exact ih2 _ _ _ _ _ _)
   | (with_reducible exact LeO.refl _)
   | (with_reducible exact LeO.none _)
   | (with_reducible refine LeO.ite ?_ ?_)
   | (with_reducible refine LeO.bind ?_ (fun _ => ?_))
   | exact ih0 _ _ _ _ _ _
   | exact ih1 _ _ _ _ _ _ _ _
   | exact ih2 _ _ _ _ _ _
   | exact LeO.none _
   | refine LeO.ite ?_ ?_
   | refine LeO.bind ?_ (fun _ => ?_)
def thrumlaw16_MlpTurns.T11 : Bool × List (List Nat × List Nat) := (true, [([], []), ([0], [0]), ([], []), ([2], [2]), ([3], [3]), ([4], [4]), ([1, 5, 1], [1, 5]), ([6], [6]), ([], [])])
def thrumlaw16_MlpTurns.B11 : List Nat := [0, 1, 0, 4, 12, 28, 63, 127, 0]
theorem thrumlaw16_MlpTurns.tab11 : rtab .any (opsOf Try.f7 11) = thrumlaw16_MlpTurns.T11 := by kernel_rfl
theorem thrumlaw16_MlpTurns.bits11 : waitsOk thrumlaw16_MlpTurns.T11.2 thrumlaw16_MlpTurns.B11 = true := by kernel_rfl
theorem thrumlaw16_MlpTurns.j2_not {k : Nat} {y0} {y1} {y2} {y3} {y4} (h : thrumlaw16_MlpTurns.j2 k y0 y1 y2 y3 y4 true = some true) : False := by cases k <;> simp [thrumlaw16_MlpTurns.j2] at h
set_option maxHeartbeats 80000000 in
set_option maxRecDepth 100000 in
theorem thrumlaw16_MlpTurns.calls (k : Nat) (A0 : Option Addr) (c0 : Nat) (l0 : List Int) (a1 : Int) (P2_ : Nat → Prop) (A2 : Option Addr) (c2 : Nat) (l2 : List (S26)) (r : Bool) (w : World) (hr0 : Kd.C (Kd.int .i64) w A0 l0.length l0) (hc0 : l0.length ≤ c0) (hs2 : Kd.V k26 26 w w.heap.size (fun k_ => P2_ k_) (.slice A2 l2.length c2) l2) (h : thrumlaw16_MlpTurns.f k l0 a1 l2 = some r) (hr_ : r = true) :
  Calls Try.prog 7 #[.slice A0 l0.length c0, .int .i64 a1, .slice A2 l2.length c2] w fun e w' => e = .returned (.bool r) ∧ Below w.heap.size w w' := by
 have HR_ := Aside0.mk hr_
 clear hr_
 have hu26 := Try.underlying26
 have HR0 := Aside0.mk hr0
 have HC0 := Aside0.mk hc0
 clear hr0 hc0
 have HO2 := Aside0.mk (show Kd.V k26 26 w w.heap.size (fun k_ => (P2_ k_ ∨ w.heap.size ≤ k_)) (.slice A2 l2.length c2) l2 from Kd.V_mono hs2 (fun k_ hk => .inl hk))
 have HB := Aside0.mk (Below.refl w.heap.size w)
 have H : ((thrumlaw16_live.f).bind fun t196 => (if t196 = true then ((thrumref14_Few.f l0 l2).bind fun t197 => (if t197 = true then ((mlp_Split.f 2 l0).bind fun bt198 => (if bt198.2.2 = 0 then (if (bt198.1.length : Int) = 2 then (if (bt198.2.1.length : Int) = 3 then (thrumlaw16_MlpTurns.j0 k l0 a1 l2 t196 bt198.2.2 ((l2.length : Int) == 0)) else (thrumlaw16_MlpTurns.j0 k l0 a1 l2 t196 bt198.2.2 true)) else (thrumlaw16_MlpTurns.j0 k l0 a1 l2 t196 bt198.2.2 true)) else (thrumlaw16_MlpTurns.j0 k l0 a1 l2 t196 bt198.2.2 true))) else (some t196))) else (some false))) = some r := h
 clear h
 replace H := Option.bind_eq_some_iff.mp H
 obtain ⟨t196, A40, H⟩ := H
 replace H : (if t196 = true then ((thrumref14_Few.f l0 l2).bind fun t197 => (if t197 = true then ((mlp_Split.f 2 l0).bind fun bt198 => (if bt198.2.2 = 0 then (if (bt198.1.length : Int) = 2 then (if (bt198.2.1.length : Int) = 3 then (thrumlaw16_MlpTurns.j0 k l0 a1 l2 t196 bt198.2.2 ((l2.length : Int) == 0)) else (thrumlaw16_MlpTurns.j0 k l0 a1 l2 t196 bt198.2.2 true)) else (thrumlaw16_MlpTurns.j0 k l0 a1 l2 t196 bt198.2.2 true)) else (thrumlaw16_MlpTurns.j0 k l0 a1 l2 t196 bt198.2.2 true))) else (some t196))) else (some false)) = some r := H
 have A4 := Aside0.mk A40
 clear A40
 by_cases c5 : t196 = true
 ·
  subst c5
  have H1 : ((thrumref14_Few.f l0 l2).bind fun t197 => (if t197 = true then ((mlp_Split.f 2 l0).bind fun bt198 => (if bt198.2.2 = 0 then (if (bt198.1.length : Int) = 2 then (if (bt198.2.1.length : Int) = 3 then (thrumlaw16_MlpTurns.j0 k l0 a1 l2 true bt198.2.2 ((l2.length : Int) == 0)) else (thrumlaw16_MlpTurns.j0 k l0 a1 l2 true bt198.2.2 true)) else (thrumlaw16_MlpTurns.j0 k l0 a1 l2 true bt198.2.2 true)) else (thrumlaw16_MlpTurns.j0 k l0 a1 l2 true bt198.2.2 true))) else (some true))) = some r := by rw [if_pos rfl] at H; exact H
  clear H
  have H := H1
  clear H1
  replace H := Option.bind_eq_some_iff.mp H
  obtain ⟨t197, A60, H⟩ := H
  replace H : (if t197 = true then ((mlp_Split.f 2 l0).bind fun bt198 => (if bt198.2.2 = 0 then (if (bt198.1.length : Int) = 2 then (if (bt198.2.1.length : Int) = 3 then (thrumlaw16_MlpTurns.j0 k l0 a1 l2 true bt198.2.2 ((l2.length : Int) == 0)) else (thrumlaw16_MlpTurns.j0 k l0 a1 l2 true bt198.2.2 true)) else (thrumlaw16_MlpTurns.j0 k l0 a1 l2 true bt198.2.2 true)) else (thrumlaw16_MlpTurns.j0 k l0 a1 l2 true bt198.2.2 true))) else (some true)) = some r := H
  have A6 := Aside0.mk A60
  clear A60
  by_cases c7 : t197 = true
  ·
   subst c7
   have H1 : ((mlp_Split.f 2 l0).bind fun bt198 => (if bt198.2.2 = 0 then (if (bt198.1.length : Int) = 2 then (if (bt198.2.1.length : Int) = 3 then (thrumlaw16_MlpTurns.j0 k l0 a1 l2 true bt198.2.2 ((l2.length : Int) == 0)) else (thrumlaw16_MlpTurns.j0 k l0 a1 l2 true bt198.2.2 true)) else (thrumlaw16_MlpTurns.j0 k l0 a1 l2 true bt198.2.2 true)) else (thrumlaw16_MlpTurns.j0 k l0 a1 l2 true bt198.2.2 true))) = some r := by rw [if_pos rfl] at H; exact H
   clear H
   have H := H1
   clear H1
   replace H := Option.bind_eq_some_iff.mp H
   obtain ⟨⟨t198, t199, t200⟩, A80, H⟩ := H
   replace H : (if t200 = 0 then (if (t198.length : Int) = 2 then (if (t199.length : Int) = 3 then (thrumlaw16_MlpTurns.j0 k l0 a1 l2 true t200 ((l2.length : Int) == 0)) else (thrumlaw16_MlpTurns.j0 k l0 a1 l2 true t200 true)) else (thrumlaw16_MlpTurns.j0 k l0 a1 l2 true t200 true)) else (thrumlaw16_MlpTurns.j0 k l0 a1 l2 true t200 true)) = some r := H
   have A8 := Aside0.mk A80
   clear A80
   have HC9 := Aside0.mk H
   clear H
   go_enter Try.func7, Try.ntmps7
   go_upto_region 7 with (first | ((with_reducible refine gate_callee (f := 8) rfl ?_); refine goesL_ (some 23) rfl rfl Try.func8 (by kernel_rfl) rfl #[] rfl (by (try simp only [List.map_toArray, List.map_cons, List.map_nil]); first | done | rfl | (simp only [List.length_drop, List.length_take]; rfl)) ?_; (with_reducible refine (thrumlaw16_live.calls  true _ A4.out).mono ?_); rintro e w10 ⟨rfl, hb⟩; refine ⟨_, rfl, ?_⟩; have n0_ := Aside0.mk (Kd.V_below (by (with_reducible repeat (first | apply Kd.V_alloc | apply Kd.V_drewN | apply Kd.V_drew)); exact HO2.out) hb); have n1_ := Aside0.mk (zzT (by repeat (first | (with_reducible first | exact HB.out | apply zzA | apply zzN | apply zzD) | exact HB.out)) hb); clear HO2; clear HB; have HO2 := n0_; have HB := n1_; clear n0_ n1_; (try clear hb); (try clear hb2); (try clear hk); (try clear hi)) | ((with_reducible refine gate_callee (f := 9) rfl ?_); refine goesL_ (some 28) rfl rfl Try.func9 (by kernel_rfl) rfl #[.slice A0 l0.length c0, .slice A2 l2.length c2] rfl (by (try simp only [List.map_toArray, List.map_cons, List.map_nil]); first | done | rfl | (simp only [List.length_drop, List.length_take]; rfl)) ?_; (with_reducible refine (thrumref14_Few.calls _ _ l0 _ _ l2 true _ ?side1 ?side2 ?side3 ?side4 A6.out).mono ?_); (case side1 => repeat (first | exact (Kd.C_below HR0.out HB.out) | (with_reducible refine ccA ?_ _) | (with_reducible refine ccN ?_ _) | (with_reducible refine ccD ?_))); (case side2 => exact HC0.out); (case side3 => repeat (first | exact (Kd.V_reads' HO2.out).2.2 | (with_reducible refine ccA ?_ _) | (with_reducible refine ccN ?_ _) | (with_reducible refine ccD ?_))); (case side4 => exact (Kd.V_reads' HO2.out).2.1); rintro e w11 ⟨rfl, hb⟩; refine ⟨_, rfl, ?_⟩; have n0_ := Aside0.mk (Kd.V_below (by (with_reducible repeat (first | apply Kd.V_alloc | apply Kd.V_drewN | apply Kd.V_drew)); exact HO2.out) hb); have n1_ := Aside0.mk (zzT (by repeat (first | (with_reducible first | exact HB.out | apply zzA | apply zzN | apply zzD) | exact HB.out)) hb); clear HO2; clear HB; have HO2 := n0_; have HB := n1_; clear n0_ n1_; (try clear hb); (try clear hb2); (try clear hk); (try clear hi)) | ((with_reducible refine gate_callee (f := 11) rfl ?_); refine goesL_ (some 33) rfl rfl Try.func11 (by kernel_rfl) rfl #[.int .i64 2, .slice A0 l0.length c0] rfl (by (try simp only [List.map_toArray, List.map_cons, List.map_nil]); first | done | rfl | (simp only [List.length_drop, List.length_take]; rfl)) ?_; (with_reducible refine (mlp_Split.calls 2 _ _ l0 t198 t199 t200 _ ?side1 ?side2 A8.out).mono ?_); (case side1 => repeat (first | exact (Kd.C_below HR0.out HB.out) | (with_reducible refine ccA ?_ _) | (with_reducible refine ccN ?_ _) | (with_reducible refine ccD ?_))); (case side2 => exact HC0.out); rintro e w12 ⟨v201, v203, rfl, ho0, ho1, hb⟩; refine ⟨_, rfl, ?_⟩; have n0_ := Aside0.mk (Kd.V_mono (Kd.V_told (Kd.V_told (Kd.V_old (by (with_reducible repeat (first | apply Kd.V_alloc | apply Kd.V_drewN | apply Kd.V_drew)); exact HO2.out) hb) (Kd.N_base (Kd.S_N ho0))) (Kd.R_base ho1)) (fun _ h_ => h_.1)); have n1_ := Aside0.mk (Kd.N_lower (Kd.N_mono (ok' := fun k_ => (P2_ k_ ∨ w.heap.size ≤ k_) ∧ some k_ ≠ (v203 : Value).ownBlock) (Kd.S_N (Kd.S_bound ho0)) (fun k_ hk_ => ⟨(.inr (Nat.le_trans (zzS (by repeat (first | (with_reducible first | exact HB.out | apply zzA | apply zzN | apply zzD) | exact HB.out))) hk_.2.1)), hk_.1⟩)) (zzS (by repeat (first | (with_reducible first | exact HB.out | apply zzA | apply zzN | apply zzD) | exact HB.out)))); have n2_ := Aside0.mk (Kd.R_lower (Kd.R_newM (M := fun k_ => (w.heap.size ≤ k_)) ho1 (zzS (by repeat (first | (with_reducible first | exact HB.out | apply zzA | apply zzN | apply zzD) | exact HB.out))) (fun k_ h_ => h_)) (zzS (by repeat (first | (with_reducible first | exact HB.out | apply zzA | apply zzN | apply zzD) | exact HB.out)))); have n3_ := Aside0.mk (zzT (by repeat (first | (with_reducible first | exact HB.out | apply zzA | apply zzN | apply zzD) | exact HB.out)) hb); clear HO2; clear HB; have HO2 := n0_; have HO202 := n1_; have HO204 := n2_; have HB := n3_; clear n0_ n1_ n2_ n3_; (try clear hb); (try clear hb2); (try clear hk); (try clear hi); (try clear ho0); (try clear ho1)))
   (try simp only [Act.put, List.setIfInBounds_toArray, List.set_cons_zero, List.set_cons_succ])
   go_cut [53] (fun v53 wc => ∃ (kq : Nat) (x53_8 : Bool), v53 = .bool x53_8 ∧ Aside0 (thrumlaw16_MlpTurns.j0 kq l0 a1 l2 true t200 x53_8 = some r) ∧ Aside0 (kq ≤ k) ∧ Aside0 (Kd.V k26 26 wc w.heap.size (fun k_ => (P2_ k_ ∨ w.heap.size ≤ k_)) (.slice A2 l2.length c2) l2) ∧ Aside0 (Below w.heap.size w wc))
   case first =>
    have H := HC9.out
    clear HC9
    by_cases c13 : t200 = 0
    ·
     rw [if_pos c13] at H
     have c13b0 : (t200 == 0) = true := beq_iff_eq.mpr c13
     have c13b1 : (t200 != 0) = false := bne_eq_false_iff_eq.mpr c13
     clear c13
     (first | rw [c13b0] | (simp only [i64_w, i32_w]; rw [c13b0]) | skip)
     by_cases c14 : (t198.length : Int) = 2
     ·
      rw [if_pos c14] at H
      have c14b0 : ((t198.length : Int) == 2) = true := beq_iff_eq.mpr c14
      have c14b1 : ((t198.length : Int) != 2) = false := bne_eq_false_iff_eq.mpr c14
      clear c14
      by_cases c15 : (t199.length : Int) = 3
      ·
       rw [if_pos c15] at H
       have c15b0 : ((t199.length : Int) == 3) = true := beq_iff_eq.mpr c15
       have c15b1 : ((t199.length : Int) != 3) = false := bne_eq_false_iff_eq.mpr c15
       clear c15
       focus
        have H' := Aside0.mk H
        clear H
        obtain ⟨Ao16, co16, eo16⟩ := Kd.N_slice HO202.out
        subst eo16
        obtain ⟨Ao17, co17, eo17⟩ := Kd.R_slice HO204.out
        subst eo17
        go_wp2
        go_meet
        case rel => exact ⟨_, (((l2.length : Int) == 0)), (by first | rfl | (simp; done) | (simp [*]; done)), H', ⟨by first | omega | exact Nat.le_refl _⟩, ⟨by (with_reducible repeat (first | apply Kd.V_alloc | apply Kd.V_drewN | apply Kd.V_drew)); exact Kd.V_mono HO2.out (fun _ hk => hk.1.1)⟩, ⟨by repeat (first | (with_reducible first | exact HB.out | apply zzA | apply zzN | apply zzD) | exact HB.out)⟩⟩
      ·
       rw [if_neg c15] at H
       have c15b0 : ((t199.length : Int) == 3) = false := beq_eq_false_iff_ne.mpr c15
       have c15b1 : ((t199.length : Int) != 3) = true := bne_iff_ne.mpr c15
       focus
        have H' := Aside0.mk H
        clear H
        obtain ⟨Ao18, co18, eo18⟩ := Kd.N_slice HO202.out
        subst eo18
        obtain ⟨Ao19, co19, eo19⟩ := Kd.R_slice HO204.out
        subst eo19
        go_wp2
        go_meet
        case rel => exact ⟨_, (true), (by first | rfl | (simp; done) | (simp [*]; done)), H', ⟨by first | omega | exact Nat.le_refl _⟩, ⟨by (with_reducible repeat (first | apply Kd.V_alloc | apply Kd.V_drewN | apply Kd.V_drew)); exact Kd.V_mono HO2.out (fun _ hk => hk.1.1)⟩, ⟨by repeat (first | (with_reducible first | exact HB.out | apply zzA | apply zzN | apply zzD) | exact HB.out)⟩⟩
     ·
      rw [if_neg c14] at H
      have c14b0 : ((t198.length : Int) == 2) = false := beq_eq_false_iff_ne.mpr c14
      have c14b1 : ((t198.length : Int) != 2) = true := bne_iff_ne.mpr c14
      focus
       have H' := Aside0.mk H
       clear H
       obtain ⟨Ao20, co20, eo20⟩ := Kd.N_slice HO202.out
       subst eo20
       go_wp2
       go_meet
       case rel => exact ⟨_, (true), (by first | rfl | (simp; done) | (simp [*]; done)), H', ⟨by first | omega | exact Nat.le_refl _⟩, ⟨by (with_reducible repeat (first | apply Kd.V_alloc | apply Kd.V_drewN | apply Kd.V_drew)); exact Kd.V_mono HO2.out (fun _ hk => hk.1.1)⟩, ⟨by repeat (first | (with_reducible first | exact HB.out | apply zzA | apply zzN | apply zzD) | exact HB.out)⟩⟩
    ·
     rw [if_neg c13] at H
     have c13b0 : (t200 == 0) = false := beq_eq_false_iff_ne.mpr c13
     have c13b1 : (t200 != 0) = true := bne_iff_ne.mpr c13
     (first | rw [c13b0] | (simp only [i64_w, i32_w]; rw [c13b0]) | skip)
     focus
      have H' := Aside0.mk H
      clear H
      go_wp2
      go_meet
      case rel => exact ⟨_, (true), (by first | rfl | (simp; done) | (simp [*]; done)), H', ⟨by first | omega | exact Nat.le_refl _⟩, ⟨by (with_reducible repeat (first | apply Kd.V_alloc | apply Kd.V_drewN | apply Kd.V_drew)); exact Kd.V_mono HO2.out (fun _ hk => hk.1.1)⟩, ⟨by repeat (first | (with_reducible first | exact HB.out | apply zzA | apply zzN | apply zzD) | exact HB.out)⟩⟩
   case rest =>
    clear HC9
    try clear c1
    try clear c2
    try clear p2
    try clear c5
    try clear c7
    try clear c8
    try clear c9
    try clear c11
    try clear c13
    try clear c13b0
    try clear c13b1
    try clear c14
    try clear c14b0
    try clear c14b1
    try clear c15
    try clear c15b0
    try clear c15b1
    obtain ⟨kq, x53_8, rfl, HA, HJ8, HO_2, HB⟩ := hcut
    cases kq with
    | zero => exact absurd HA.out (by simp [thrumlaw16_MlpTurns.j0])
    | succ kj8 =>
     have H := HA.out
     clear HA
     simp only [thrumlaw16_MlpTurns.j0] at H
     by_cases c21 : x53_8 = true
     ·
      subst c21
      have H1 : (if true = true then (if t200 = 0 then (some ((l2.length : Int) == 0)) else (some true)) else (some false)) = some r := by rw [if_pos rfl] at H; exact H
      clear H
      have H := H1
      clear H1
      first | rw [if_pos rfl] at H | rw [if_pos trivial] at H
      by_cases c22 : t200 = 0
      ·
       rw [if_pos c22] at H
       have c22b0 : (t200 == 0) = true := beq_iff_eq.mpr c22
       have c22b1 : (t200 != 0) = false := bne_eq_false_iff_eq.mpr c22
       clear c22
       focus
        obtain rfl := Option.some.inj H
        go_wp2
        go_ret
        exact ⟨by first | rfl | (simp [errW_none, errW_some] <;> rfl) | (simp [*, errW_none, errW_some] <;> rfl), by repeat (first | (with_reducible first | exact HB.out | apply zzA | apply zzN | apply zzD) | exact HB.out)⟩
      ·
       rw [if_neg c22] at H
       have c22b0 : (t200 == 0) = false := beq_eq_false_iff_ne.mpr c22
       have c22b1 : (t200 != 0) = true := bne_iff_ne.mpr c22
       focus
        obtain rfl := Option.some.inj H
        go_wp2
        go_ret
        exact ⟨by first | rfl | (simp [errW_none, errW_some] <;> rfl) | (simp [*, errW_none, errW_some] <;> rfl), by repeat (first | (with_reducible first | exact HB.out | apply zzA | apply zzN | apply zzD) | exact HB.out)⟩
     ·
      replace c21 := Bool.eq_false_iff.mpr c21
      subst c21
      have H1 : ((thrumlaw16_MlpTurns_1.f l0).bind fun t205 => (if ([] : List Int).length + l0.length < 17592186044416 then ((some (([] : List Int) ++ l0 : List Int)).bind fun y208 => (if 0 < (l2.length : Int) then (if y208.length + ((rd_T26 l2 0).f0).length < 17592186044416 then ((some (y208 ++ ((rd_T26 l2 0).f0) : List Int)).bind fun y212 => (thrumlaw16_MlpTurns.l0 kj8 l0 a1 l2 true t205 y212 (y212.length : Int) 0)) else (none)) else (none))) else (none))) = some r := by rw [if_neg (show ¬ (false = true) by decide)] at H; exact H
      clear H
      have H := H1
      clear H1
      replace H := Option.bind_eq_some_iff.mp H
      obtain ⟨t205, A230, H⟩ := H
      replace H : (if ([] : List Int).length + l0.length < 17592186044416 then ((some (([] : List Int) ++ l0 : List Int)).bind fun y208 => (if 0 < (l2.length : Int) then (if y208.length + ((rd_T26 l2 0).f0).length < 17592186044416 then ((some (y208 ++ ((rd_T26 l2 0).f0) : List Int)).bind fun y212 => (thrumlaw16_MlpTurns.l0 kj8 l0 a1 l2 true t205 y212 (y212.length : Int) 0)) else (none)) else (none))) else (none)) = some r := H
      have A23 := Aside0.mk A230
      clear A230
      by_cases c24 : ([] : List Int).length + l0.length < 17592186044416
      ·
       rw [if_pos c24] at H
       have LMc24 := Aside0.mk c24
       clear c24
       obtain ⟨y208, hy208⟩ : ∃ y_ : List Int, y_ = (([] : List Int) ++ l0) := ⟨_, rfl⟩
       replace H : (if 0 < (l2.length : Int) then (if y208.length + ((rd_T26 l2 0).f0).length < 17592186044416 then ((some (y208 ++ ((rd_T26 l2 0).f0) : List Int)).bind fun y212 => (thrumlaw16_MlpTurns.l0 kj8 l0 a1 l2 true t205 y212 (y212.length : Int) 0)) else (none)) else (none)) = some r := by first | (rw [hy208]; with_reducible exact H) | (have H2_ := (Option.bind_some _ _).symm.trans H; rw [hy208]; with_reducible exact H2_) | (have H2_ := (Option.bind_some _ _).symm.trans H; with_reducible exact H2_) | with_reducible exact H | (rw [hy208]; exact H) | exact H
       have Ny208 := Aside0.mk hy208
       clear hy208
       by_cases c25 : 0 < (l2.length : Int)
       ·
        rw [if_pos c25] at H
        have c25b0 : decide (0 < (l2.length : Int)) = true := decide_eq_true c25
        have c25b1 : decide (0 < l2.length) = true := decide_eq_true (by omega)
        clear c25
        by_cases c26 : y208.length + ((rd_T26 l2 0).f0).length < 17592186044416
        ·
         rw [if_pos c26] at H
         have LMc26 := Aside0.mk c26
         clear c26
         obtain ⟨y212, hy212⟩ : ∃ y_ : List Int, y_ = (y208 ++ ((rd_T26 l2 0).f0)) := ⟨_, rfl⟩
         replace H : (thrumlaw16_MlpTurns.l0 kj8 l0 a1 l2 true t205 y212 (y212.length : Int) 0) = some r := by first | (rw [hy212]; with_reducible exact H) | (have H2_ := (Option.bind_some _ _).symm.trans H; rw [hy212]; with_reducible exact H2_) | (have H2_ := (Option.bind_some _ _).symm.trans H; with_reducible exact H2_) | with_reducible exact H | (rw [hy212]; exact H) | exact H
         have Ny212 := Aside0.mk hy212
         clear hy212
         have H' := Aside0.mk H
         clear H
         try go_wp2_with (first | (go_at_call 29; (with_reducible refine (thrumlaw16_MlpTurns_1.calls _ _ l0 t205 _ ?side1 ?side2 A23.out).mono ?_); (case side1 => repeat (first | exact (Kd.C_below HR0.out HB.out) | (with_reducible refine ccA ?_ _) | (with_reducible refine ccN ?_ _) | (with_reducible refine ccD ?_))); (case side2 => exact HC0.out); rintro e w27 ⟨v206, rfl, ho0, hb⟩; have n0_ := Aside0.mk (Kd.V_elder' (by (with_reducible repeat (first | apply Kd.V_alloc | apply Kd.V_drewN | apply Kd.V_drew)); exact HO_2.out) (Kd.R_base ho0) hb); have n1_ := Aside0.mk (Kd.R_lower (Kd.R_newM (M := fun k_ => (w.heap.size ≤ k_)) ho0 (zzS (by repeat (first | (with_reducible first | exact HB.out | apply zzA | apply zzN | apply zzD) | exact HB.out))) (fun k_ h_ => h_)) (zzS (by repeat (first | (with_reducible first | exact HB.out | apply zzA | apply zzN | apply zzD) | exact HB.out)))); have n2_ := Aside0.mk (zzT (by repeat (first | (with_reducible first | exact HB.out | apply zzA | apply zzN | apply zzD) | exact HB.out)) hb); clear HO_2; clear HB; have HO_2 := n0_; have HO207 := n1_; have HB := n2_; clear n0_ n1_ n2_; (try clear hb); (try clear hb2); (try clear hk); (try clear hi); (try clear ho0)))
         have n0_ := Aside0.mk (Kd.V_drew HO_2.out)
         have n1_ := Aside0.mk (rrD HO207.out)
         have n2_ := Aside0.mk (zzD HB.out)
         clear HO_2
         clear HO207
         clear HB
         have HO_2 := n0_
         have HO207 := n1_
         have HB := n2_
         clear n0_ n1_ n2_
         have p211 : 0 ≤ (0 : Int) := (by omega)
         have q211 : 0 < (l2.length : Int) := of_decide_eq_true (by first | (with_reducible assumption) | assumption)
         obtain ⟨ad211, A211_0, c211_0, e211, hx211_0, hx211_1, hl211_0, hi211_0⟩ := at_T26 (Kd.V_reads' HO_2.out).2.2 0 p211 q211
         cases e211
         obtain ⟨ce211, hce211, hMe211, hcc211⟩ := Kd.V_get HO_2.out z26 0 p211 (by first | exact q211 | exact of_decide_eq_true (by first | (with_reducible assumption) | assumption) | (have e_ := (Kd.V_reads' HO_2.out).1; omega))
         obtain ⟨ua211_0, uc211_0, rfl, ul211_0, ge211_0⟩ := k26_openF hMe211
         have hv211_0 := hcc211 0 _ rfl
         rw [Nat.add_zero] at hv211_0
         replace hv211_0 := Option.some.inj (hv211_0.symm.trans hx211_0)
         injection hv211_0 with hva_ hvn_ hvc_
         rw [hva_] at ge211_0
         rw [hvc_] at ul211_0
         have HL211_0 := Aside0.mk (show Kd.V (Kd.int .i64) 2 _ w.heap.size _ _ ((rd_T26 l2 0).f0) from Kd.V_mk ul211_0 ge211_0)
         clear hva_ hvn_ hvc_ ge211_0 ul211_0
         clear hcc211 hce211
         have qi211 : (0 < l2.length) = True := eq_true (by omega)
         (try rw [show ((0 : Int)).toNat = 0 from rfl] at hx211_0)
         (try rw [show 0 * 2 = 0 from rfl] at hx211_0)
         (try rw [Addr.add_zero'] at hx211_0)
         (try rw [show ((0 : Int)).toNat = 0 from rfl] at hx211_1)
         (try rw [show 0 * 2 = 0 from rfl] at hx211_1)
         (try rw [Addr.add_zero'] at hx211_1)
         have HR211_0 := Aside0.mk hi211_0
         have HC211_0 := Aside0.mk hl211_0
         clear hi211_0 hl211_0
         replace p211 := eq_true p211
         replace q211 := eq_true q211
         refine start_ (n := 9) (S := fun w' => w'.cell? ad211 = some (.slice A211_0 ((rd_T26 l2 0).f0).length c211_0) ∧ w'.cell? ⟨ad211.block, ad211.off + 1, none⟩ = some (.int .i64 ((rd_T26 l2 0).f1))) (ds := [6]) #[false, false, false, false, false, false, false, false, false] (by kernel_rfl) rfl rfl ⟨hx211_0, hx211_1⟩ (fun hHeld => ?_); refine with_tabW thrumlaw16_MlpTurns.tab11 thrumlaw16_MlpTurns.bits11 (fun HT_ HW_ => ?_)
         generalize w27.drew = w28 at HO_2 HO207 HB HL211_0 HR211_0 hx211_0 hx211_1 hHeld ⊢
         refine pure_ (i := 0) (N := some 67) (v := ?_) (a' := ?_) #[true, false, false, false, false, false, false, false, false] rfl rfl (any_of HT_.out (by kernel_rfl)) (fun _ _ _ h => h) (Or.inl ⟨by rfl, ?_⟩) ?_ ?_
         rotate_left
         ·
          intro w'
          go_simp
          with_reducible rfl
         rotate_left
         ·
          simp only [Act.put, List.setIfInBounds_toArray, List.set_cons_zero, List.set_cons_succ, i64_w, i32_w]
          rfl
         refine pure_ (i := 2) (N := some 69) (v := ?_) (a' := ?_) #[true, false, true, false, false, false, false, false, false] rfl rfl (any_of HT_.out (by kernel_rfl)) (fun _ _ _ h => h) (Or.inl ⟨by rfl, ?_⟩) ?_ ?_
         rotate_left
         ·
          intro w'
          go_simp
          with_reducible rfl
         rotate_left
         ·
          simp only [Act.put, List.setIfInBounds_toArray, List.set_cons_zero, List.set_cons_succ, i64_w, i32_w]
          rfl
         refine pure_ (i := 3) (N := some 70) (v := ?_) (a' := ?_) #[true, false, true, true, false, false, false, false, false] rfl rfl (any_of HT_.out (by kernel_rfl)) (fun _ _ _ h => h) (Or.inl ⟨by rfl, ?_⟩) ?_ ?_
         rotate_left
         ·
          intro w'
          go_simp
          with_reducible rfl
         rotate_left
         ·
          simp only [Act.put, List.setIfInBounds_toArray, List.set_cons_zero, List.set_cons_succ, i64_w, i32_w]
          rfl
         refine pure_ (i := 4) (N := some 71) (v := ?_) (a' := ?_) #[true, false, true, true, true, false, false, false, false] rfl rfl (any_of HT_.out (by kernel_rfl)) (fun _ _ _ h => h) (Or.inl ⟨by rfl, ?_⟩) ?_ ?_
         rotate_left
         ·
          intro w'
          go_simp
          with_reducible rfl
         rotate_left
         ·
          simp only [Act.put, List.setIfInBounds_toArray, List.set_cons_zero, List.set_cons_succ, i64_w, i32_w]
          rfl
         refine pure_ (i := 8) (N := some 75) (v := ?_) (a' := ?_) #[true, false, true, true, true, false, false, false, true] rfl rfl (any_of HT_.out (by kernel_rfl)) (fun _ _ _ h => h) (Or.inl ⟨by rfl, ?_⟩) ?_ ?_
         rotate_left
         ·
          intro w'
          go_simp
          with_reducible rfl
         rotate_left
         ·
          simp only [Act.put, List.setIfInBounds_toArray, List.set_cons_zero, List.set_cons_succ, i64_w, i32_w]
          rfl
         refine take_ (i := 5) (N := some 72) (v := ?_) (a' := ?_) #[true, false, true, true, true, true, false, false, true] rfl rfl (take_ofW HT_.out HW_.out (by kernel_rfl)) (fun _ _ _ h => h) (Or.inl ⟨by rfl, ?_⟩) hHeld ?_ ?_
         rotate_left
         ·
          rintro w' ⟨s0, s1⟩
          go_simp
          with_reducible rfl
         rotate_left
         ·
          simp only [Act.put, List.setIfInBounds_toArray, List.set_cons_zero, List.set_cons_succ, i64_w, i32_w]
          rfl
         refine one_ (i := 1) (N := some 68) #[true, true, true, true, true, true, false, false, true] rfl rfl (one_of HT_.out (by kernel_rfl)) (by decide) (fun K hK => ?_)
         refine Kd.R_append_rows_step (Kd.int .i64) (w0 := w) w.heap.size (by rfl) (.const (.slice none 0 0)) (.tmp 67) 22 2 (.int .i64 0) 8 rfl Try.underlying22 info2 rfl (by decide) (by omega) (.slice none 0 0) ([] : List Int) l0 _ _ _ (fun k_ => (w.heap.size ≤ k_) ∧ some k_ ≠ (v206 : Value).ownBlock) (fun _ => False) rfl rfl ?aO ?aR (fun _ _ h => h) (fun _ h => h.elim) ?aF ?aB ?aS ?aL ?_
         (case aR => repeat (first | exact (Kd.C_below HR0.out HB.out) | (with_reducible refine ccA ?_ _) | (with_reducible refine ccN ?_ _) | (with_reducible refine ccD ?_)))
         (case aB => exact (by repeat (first | (with_reducible first | exact HB.out | apply zzA | apply zzN | apply zzD) | exact HB.out)))
         (case aF => exact (fun k_ hk => ⟨(Nat.le_trans (zzS (by repeat (first | (with_reducible first | exact HB.out | apply zzA | apply zzN | apply zzD) | exact HB.out))) hk), Kd.fresh' (Kd.R_lt (by (with_reducible repeat (first | apply rrA | apply rrN | apply rrD)); exact HO207.out)) k_ hk⟩))
         (case aO => exact ((Kd.R_nil _ _ _ _ (fun k_ => (w.heap.size ≤ k_) ∧ some k_ ≠ (v206 : Value).ownBlock))))
         (case aS => exact (zzS (by repeat (first | (with_reducible first | exact HB.out | apply zzA | apply zzN | apply zzD) | exact HB.out))))
         (case aL => have := LMc24.out; omega)
         intro v209 w29 ho hb hg hat
         have HS0_ := cell_grown hg (hHeld.1) (by intro h_; first | exact nomatch h_ | simp [Value.ownBlock] at h_)
         have HS1_ := cell_grown hg (hHeld.2) (by intro h_; first | exact nomatch h_ | simp [Value.ownBlock] at h_)
         rw [← Ny208.out] at ho
         have n0_ := Aside0.mk (Kd.V_afterv (Kd.V_apart_nil (by (with_reducible repeat (first | apply Kd.V_alloc | apply Kd.V_drewN | apply Kd.V_drew)); exact HO_2.out)) hg hat)
         have n1_ := Aside0.mk (Kd.R_after (Kd.R_apart_nil (by (with_reducible repeat (first | apply rrA | apply rrN | apply rrD)); exact HO207.out)) hg hat)
         have n2_ := Aside0.mk (Kd.V_afterv (Kd.V_apart_nil (by (with_reducible repeat (first | apply Kd.V_alloc | apply Kd.V_drewN | apply Kd.V_drew)); exact HL211_0.out)) hg hat)
         have n3_ := Aside0.mk (hb)
         have n4_ := Aside0.mk (ho)
         clear HO_2
         clear HO207
         clear HL211_0
         clear HB
         have HO_2 := n0_
         have HO207 := n1_
         have HL211_0 := n2_
         have HB := n3_
         have HO210 := n4_
         clear n0_ n1_ n2_ n3_ n4_
         clear ho hb hg hat
         refine hK.out _ _ ⟨HS0_, HS1_⟩ (fun hHeld => ?_)
         clear hK K
         refine norm_ (a' := ?_) ?_ ?_
         rotate_left
         ·
          show Act.put _ (some 68) _ = _
          simp only [Act.put, List.setIfInBounds_toArray, List.set_cons_zero, List.set_cons_succ, i64_w, i32_w]
          rfl
         refine last_ (i := 6) (N := some 73) #[true, true, true, true, true, true, true, false, true] rfl rfl (one_of HT_.out (by kernel_rfl)) (by decide) (fun K hK => ?_)
         refine Kd.R_append_rows_step (Kd.int .i64) (w0 := w) w.heap.size (by rfl) (.tmp 68) (.tmp 72) 22 2 (.int .i64 0) 8 rfl Try.underlying22 info2 rfl (by decide) (by omega) v209 y208 ((rd_T26 l2 0).f0) _ _ _ (fun k_ => (w.heap.size ≤ k_) ∧ some k_ ≠ (v206 : Value).ownBlock) (fun _ => False) rfl rfl ?aO ?aR (fun _ _ h => h) (fun _ h => h.elim) ?aF ?aB ?aS ?aL ?_
         (case aR => repeat (first | exact ((Kd.V_reads' (by (with_reducible repeat (first | apply Kd.V_alloc | apply Kd.V_drewN | apply Kd.V_drew)); exact HL211_0.out)).2.2) | (with_reducible refine ccA ?_ _) | (with_reducible refine ccN ?_ _) | (with_reducible refine ccD ?_)))
         (case aB => exact (by repeat (first | (with_reducible first | exact HB.out | apply zzA | apply zzN | apply zzD) | exact HB.out)))
         (case aF => exact (fun k_ hk => ⟨(Nat.le_trans (zzS (by repeat (first | (with_reducible first | exact HB.out | apply zzA | apply zzN | apply zzD) | exact HB.out))) hk), Kd.fresh' (Kd.R_lt (by (with_reducible repeat (first | apply rrA | apply rrN | apply rrD)); exact HO207.out)) k_ hk⟩))
         (case aO => exact (by (with_reducible repeat (first | apply rrA | apply rrN | apply rrD)); exact HO210.out))
         (case aS => exact (zzS (by repeat (first | (with_reducible first | exact HB.out | apply zzA | apply zzN | apply zzD) | exact HB.out))))
         (case aL => have := LMc26.out; omega)
         intro v213 w30 ho hb hg hat
         rw [← Ny212.out] at ho
         have n0_ := Aside0.mk (Kd.V_afterv (ok := (fun k_ => (P2_ k_ ∨ w.heap.size ≤ k_) ∧ some k_ ≠ (v206 : Value).ownBlock)) (by (with_reducible repeat (first | apply Kd.V_alloc | apply Kd.V_drewN | apply Kd.V_drew)); exact HO_2.out) hg hat)
         have n1_ := Aside0.mk (Kd.R_after (ok := (fun k_ => (w.heap.size ≤ k_))) (by (with_reducible repeat (first | apply rrA | apply rrN | apply rrD)); exact Kd.R_mono HO207.out (fun _ hk => ⟨hk.1.1, hk.2⟩)) hg hat)
         have n2_ := Aside0.mk (Kd.V_afterv (ok := (fun k_ => (P2_ k_ ∨ w.heap.size ≤ k_) ∧ some k_ ≠ (v206 : Value).ownBlock)) (by (with_reducible repeat (first | apply Kd.V_alloc | apply Kd.V_drewN | apply Kd.V_drew)); exact HL211_0.out) hg hat)
         have n3_ := Aside0.mk (hb)
         have n4_ := Aside0.mk (ho)
         clear HO_2
         clear HO207
         clear HL211_0
         clear HB
         clear HO210
         have HO_2 := n0_
         have HO207 := n1_
         have HL211_0 := n2_
         have HB := n3_
         have HO214 := n4_
         clear n0_ n1_ n2_ n3_ n4_
         clear ho hb hg hat
         obtain ⟨Ao31, co31, eo31⟩ := Kd.R_slice HO214.out
         (first | subst eo31 | (injection eo31 with f1_ f2_ f3_; have f4_ := f1_.symm; have f5_ := f3_.symm; clear f1_ f2_ f3_; subst f4_; subst f5_))
         refine hK.out _ _ ?_
         clear hK K
         refine norm_ (a' := ?_) ?_ ?_
         rotate_left
         ·
          show Act.put _ (some 73) _ = _
          simp only [Act.put, List.setIfInBounds_toArray, List.set_cons_zero, List.set_cons_succ, i64_w, i32_w]
          rfl
         refine pure_ (i := 7) (N := some 74) (v := ?_) (a' := ?_) #[true, true, true, true, true, true, true, true, true] rfl rfl (any_of HT_.out (by kernel_rfl)) (fun _ _ _ h => h) (Or.inl ⟨by rfl, ?_⟩) ?_ ?_
         rotate_left
         ·
          intro w'
          go_simp
          with_reducible rfl
         rotate_left
         ·
          simp only [Act.put, List.setIfInBounds_toArray, List.set_cons_zero, List.set_cons_succ, i64_w, i32_w]
          rfl
         refine done_ (done_of HT_.out (by kernel_rfl)) ?_
         try go_wp2
         go_loopg [75] kj8 (fun kq v75 w' => ∃ (x75_2 : Int), v75 = .int .i64 x75_2 ∧ Aside0 (thrumlaw16_MlpTurns.l0 kq l0 a1 l2 true t205 y212 (y212.length : Int) x75_2 = some r) ∧ Aside0 (kq ≤ kj8) ∧ Aside0 (Kd.V k26 26 w' w.heap.size (fun k_ => (P2_ k_ ∨ w.heap.size ≤ k_) ∧ some k_ ≠ (v206 : Value).ownBlock ∧ some k_ ≠ ((.slice Ao31 y212.length co31) : Value).ownBlock) (.slice (some ad211) l2.length c2) l2) ∧ Aside0 (Kd.R (Kd.int .i64) 2 w' w.heap.size (fun k_ => (w.heap.size ≤ k_) ∧ some k_ ≠ ((.slice Ao31 y212.length co31) : Value).ownBlock) v206 t205) ∧ Aside0 (Kd.R (Kd.int .i64) 2 w' w.heap.size (fun k_ => (w.heap.size ≤ k_) ∧ some k_ ≠ (v206 : Value).ownBlock) (.slice Ao31 y212.length co31) y212) ∧ Aside0 (Below w.heap.size w w'))
         case atStart => exact ⟨(0), (by first | rfl | (simp; done) | (simp [*]; done)), H', ⟨Nat.le_refl _⟩, ⟨by (with_reducible repeat (first | apply Kd.V_alloc | apply Kd.V_drewN | apply Kd.V_drew)); exact Kd.V_mono HO_2.out (fun _ hk => ⟨hk.1.1, ⟨hk.1.2, hk.2⟩⟩)⟩, ⟨by (with_reducible repeat (first | apply rrA | apply rrN | apply rrD)); exact HO207.out⟩, ⟨by (with_reducible repeat (first | apply rrA | apply rrN | apply rrD)); exact HO214.out⟩, ⟨by repeat (first | (with_reducible first | exact HB.out | apply zzA | apply zzN | apply zzD) | exact HB.out)⟩⟩
         case round =>
          clear H'
          try clear c1
          try clear c2
          try clear p2
          try clear q2
          try clear hx2
          try clear qi2
          try clear c5
          try clear c7
          try clear c8
          try clear c9
          try clear c11
          try clear c13
          try clear c13b0
          try clear c13b1
          try clear c14
          try clear c14b0
          try clear c14b1
          try clear c15
          try clear c15b0
          try clear c15b1
          try clear c21
          try clear p21
          try clear q21
          try clear hx21
          try clear qi21
          try clear c22
          try clear c22b0
          try clear c22b1
          try clear c24
          try clear c25
          try clear c25b0
          try clear c25b1
          try clear c26
          try clear c29
          try clear hx211_0
          try clear hx211_1
          try clear p2
          try clear p211
          try clear q211
          obtain ⟨x75_2, rfl, HA, HK2, HO_2, HO_12, HO_73, HB⟩ := hrel
          cases gk with
          | zero => exact absurd HA.out (by simp [thrumlaw16_MlpTurns.l0])
          | succ k2 =>
           have H := HA.out
           clear HA
           simp only [thrumlaw16_MlpTurns.l0] at H
           by_cases c32 : x75_2 < (y212.length : Int)
           ·
            rw [if_pos c32] at H
            have c32b0 : decide (x75_2 < (y212.length : Int)) = true := decide_eq_true c32
            clear c32
            by_cases c33 : 0 ≤ x75_2
            ·
             rw [if_pos c33] at H
             have c33b0 : decide (0 ≤ x75_2) = true := decide_eq_true c33
             clear c33
             by_cases c34 : x75_2 < (y212.length : Int)
             ·
              rw [if_pos c34] at H
              have c34b0 : decide (x75_2 < (y212.length : Int)) = true := decide_eq_true c34
              clear c34
              by_cases c35 : (rd y212 x75_2) > 4096
              ·
               rw [if_pos c35] at H
               have c35b0 : decide (4096 < (rd y212 x75_2)) = true := decide_eq_true c35
               clear c35
               focus
                obtain rfl := Option.some.inj H
                have p215 : 0 ≤ (x75_2 : Int) := of_decide_eq_true (by first | (with_reducible assumption) | assumption)
                have q215 : x75_2 < (y212.length : Int) := of_decide_eq_true (by first | (with_reducible assumption) | assumption)
                obtain ⟨ad215, e215, hx215_0⟩ := Kd.at_int (Kd.R_reads' HO_73.out).2.2 x75_2 p215 q215
                cases e215
                replace p215 := eq_true p215
                replace q215 := eq_true q215
                go_wp2
                go_ret
                exact ⟨by first | rfl | (simp [errW_none, errW_some] <;> rfl) | (simp [*, errW_none, errW_some] <;> rfl), by repeat (first | (with_reducible first | exact HB.out | apply zzA | apply zzN | apply zzD) | exact HB.out)⟩
              ·
               rw [if_neg c35] at H
               have c35b0 : decide (4096 < (rd y212 x75_2)) = false := decide_eq_false c35
               clear c35
               by_cases c36 : (rd y212 x75_2) < (-4096)
               ·
                rw [if_pos c36] at H
                have c36b0 : decide ((rd y212 x75_2) < (-4096)) = true := decide_eq_true c36
                clear c36
                focus
                 obtain rfl := Option.some.inj H
                 have p215 : 0 ≤ (x75_2 : Int) := of_decide_eq_true (by first | (with_reducible assumption) | assumption)
                 have q215 : x75_2 < (y212.length : Int) := of_decide_eq_true (by first | (with_reducible assumption) | assumption)
                 obtain ⟨ad215, e215, hx215_0⟩ := Kd.at_int (Kd.R_reads' HO_73.out).2.2 x75_2 p215 q215
                 cases e215
                 replace p215 := eq_true p215
                 replace q215 := eq_true q215
                 go_wp2
                 go_ret
                 exact ⟨by first | rfl | (simp [errW_none, errW_some] <;> rfl) | (simp [*, errW_none, errW_some] <;> rfl), by repeat (first | (with_reducible first | exact HB.out | apply zzA | apply zzN | apply zzD) | exact HB.out)⟩
               ·
                rw [if_neg c36] at H
                have c36b0 : decide ((rd y212 x75_2) < (-4096)) = false := decide_eq_false c36
                clear c36
                focus
                 have H' := Aside0.mk H
                 clear H
                 have p215 : 0 ≤ (x75_2 : Int) := of_decide_eq_true (by first | (with_reducible assumption) | assumption)
                 have q215 : x75_2 < (y212.length : Int) := of_decide_eq_true (by first | (with_reducible assumption) | assumption)
                 obtain ⟨ad215, e215, hx215_0⟩ := Kd.at_int (Kd.R_reads' HO_73.out).2.2 x75_2 p215 q215
                 cases e215
                 replace p215 := eq_true p215
                 replace q215 := eq_true q215
                 go_wp2
                 go_roundg k2
                 case measure => have := HJ8.out; have := HK2.out; omega
                 case rel => exact ⟨(wrap64 (x75_2 + 1)), (by first | rfl | (simp; done) | (simp [*]; done)), H', ⟨by have := HJ8.out; have := HK2.out; omega⟩, ⟨by (with_reducible repeat (first | apply Kd.V_alloc | apply Kd.V_drewN | apply Kd.V_drew)); exact HO_2.out⟩, ⟨by (with_reducible repeat (first | apply rrA | apply rrN | apply rrD)); exact HO_12.out⟩, ⟨by (with_reducible repeat (first | apply rrA | apply rrN | apply rrD)); exact HO_73.out⟩, ⟨by repeat (first | (with_reducible first | exact HB.out | apply zzA | apply zzN | apply zzD) | exact HB.out)⟩⟩
             ·
              rw [if_neg c34] at H
              exact absurd H (by simp)
            ·
             rw [if_neg c33] at H
             exact absurd H (by simp)
           ·
            rw [if_neg c32] at H
            have c32b0 : decide (x75_2 < (y212.length : Int)) = false := decide_eq_false c32
            clear c32
            by_cases c37 : 0 < (l2.length : Int)
            ·
             rw [if_pos c37] at H
             have c37b0 : decide (0 < (l2.length : Int)) = true := decide_eq_true c37
             have c37b1 : decide (0 < l2.length) = true := decide_eq_true (by omega)
             clear c37
             replace H := Option.bind_eq_some_iff.mp H
             obtain ⟨⟨t217, t218⟩, A380, H⟩ := H
             replace H : ((mlp_Tell.f 2 t205 ((rd_T26 l2 0).f0) a1).bind fun bt220 => ((mlp_Grad.f 2 l0 a1 (([(⟨(rd_T26 l2 0).f0, (rd_T26 l2 0).f1⟩ : S26)] : List (S26)))).bind fun bt226 => ((mlp_Grad.f 2 t205 a1 (([(⟨(rd_T26 l2 0).f0, (rd_T26 l2 0).f1⟩ : S26)] : List (S26)))).bind fun bt234 => (if t217 = bt220.1 then (if t218 = bt220.2 then (thrumlaw16_MlpTurns.j2 k2 l0 true bt226.1 bt226.2 bt234.1 (bt226.2 != bt234.2)) else (thrumlaw16_MlpTurns.j2 k2 l0 true bt226.1 bt226.2 bt234.1 true)) else (thrumlaw16_MlpTurns.j2 k2 l0 true bt226.1 bt226.2 bt234.1 true))))) = some r := H
             have A38 := Aside0.mk A380
             clear A380
             replace H := Option.bind_eq_some_iff.mp H
             obtain ⟨⟨t220, t221⟩, A390, H⟩ := H
             replace H : ((mlp_Grad.f 2 l0 a1 (([(⟨(rd_T26 l2 0).f0, (rd_T26 l2 0).f1⟩ : S26)] : List (S26)))).bind fun bt226 => ((mlp_Grad.f 2 t205 a1 (([(⟨(rd_T26 l2 0).f0, (rd_T26 l2 0).f1⟩ : S26)] : List (S26)))).bind fun bt234 => (if t217 = t220 then (if t218 = t221 then (thrumlaw16_MlpTurns.j2 k2 l0 true bt226.1 bt226.2 bt234.1 (bt226.2 != bt234.2)) else (thrumlaw16_MlpTurns.j2 k2 l0 true bt226.1 bt226.2 bt234.1 true)) else (thrumlaw16_MlpTurns.j2 k2 l0 true bt226.1 bt226.2 bt234.1 true)))) = some r := H
             have A39 := Aside0.mk A390
             clear A390
             obtain ⟨y223, hy223⟩ : ∃ y_ : List (S26), y_ = (([(⟨(rd_T26 l2 0).f0, (rd_T26 l2 0).f1⟩ : S26)] : List (S26))) := ⟨_, rfl⟩
             replace H : ((mlp_Grad.f 2 l0 a1 y223).bind fun bt226 => ((mlp_Grad.f 2 t205 a1 (([(⟨(rd_T26 l2 0).f0, (rd_T26 l2 0).f1⟩ : S26)] : List (S26)))).bind fun bt234 => (if t217 = t220 then (if t218 = t221 then (thrumlaw16_MlpTurns.j2 k2 l0 true bt226.1 bt226.2 bt234.1 (bt226.2 != bt234.2)) else (thrumlaw16_MlpTurns.j2 k2 l0 true bt226.1 bt226.2 bt234.1 true)) else (thrumlaw16_MlpTurns.j2 k2 l0 true bt226.1 bt226.2 bt234.1 true)))) = some r := by first | (rw [hy223]; with_reducible exact H) | (have H2_ := (Option.bind_some _ _).symm.trans H; rw [hy223]; with_reducible exact H2_) | (have H2_ := (Option.bind_some _ _).symm.trans H; with_reducible exact H2_) | with_reducible exact H | (rw [hy223]; exact H) | exact H
             have Ny223 := Aside0.mk hy223
             clear hy223
             replace H := Option.bind_eq_some_iff.mp H
             obtain ⟨⟨t226, t227⟩, A400, H⟩ := H
             replace H : ((mlp_Grad.f 2 t205 a1 (([(⟨(rd_T26 l2 0).f0, (rd_T26 l2 0).f1⟩ : S26)] : List (S26)))).bind fun bt234 => (if t217 = t220 then (if t218 = t221 then (thrumlaw16_MlpTurns.j2 k2 l0 true t226 t227 bt234.1 (t227 != bt234.2)) else (thrumlaw16_MlpTurns.j2 k2 l0 true t226 t227 bt234.1 true)) else (thrumlaw16_MlpTurns.j2 k2 l0 true t226 t227 bt234.1 true))) = some r := H
             have A40 := Aside0.mk A400
             clear A400
             obtain ⟨y231, hy231⟩ : ∃ y_ : List (S26), y_ = (([(⟨(rd_T26 l2 0).f0, (rd_T26 l2 0).f1⟩ : S26)] : List (S26))) := ⟨_, rfl⟩
             replace H : ((mlp_Grad.f 2 t205 a1 y231).bind fun bt234 => (if t217 = t220 then (if t218 = t221 then (thrumlaw16_MlpTurns.j2 k2 l0 true t226 t227 bt234.1 (t227 != bt234.2)) else (thrumlaw16_MlpTurns.j2 k2 l0 true t226 t227 bt234.1 true)) else (thrumlaw16_MlpTurns.j2 k2 l0 true t226 t227 bt234.1 true))) = some r := by first | (rw [hy231]; with_reducible exact H) | (have H2_ := (Option.bind_some _ _).symm.trans H; rw [hy231]; with_reducible exact H2_) | (have H2_ := (Option.bind_some _ _).symm.trans H; with_reducible exact H2_) | with_reducible exact H | (rw [hy231]; exact H) | exact H
             have Ny231 := Aside0.mk hy231
             clear hy231
             replace H := Option.bind_eq_some_iff.mp H
             obtain ⟨⟨t234, t235⟩, A410, H⟩ := H
             replace H : (if t217 = t220 then (if t218 = t221 then (thrumlaw16_MlpTurns.j2 k2 l0 true t226 t227 t234 (t227 != t235)) else (thrumlaw16_MlpTurns.j2 k2 l0 true t226 t227 t234 true)) else (thrumlaw16_MlpTurns.j2 k2 l0 true t226 t227 t234 true)) = some r := H
             have A41 := Aside0.mk A410
             clear A410
             have HC42 := Aside0.mk H
             clear H
             have p216 : 0 ≤ (0 : Int) := (by omega)
             have q216 : 0 < (l2.length : Int) := of_decide_eq_true (by first | (with_reducible assumption) | assumption)
             obtain ⟨ad216, A216_0, c216_0, e216, hx216_0, hx216_1, hl216_0, hi216_0⟩ := at_T26 (Kd.V_reads' HO_2.out).2.2 0 p216 q216
             obtain rfl : ad211 = ad216 := (by injection e216)
             obtain ⟨ce216, hce216, hMe216, hcc216⟩ := Kd.V_get HO_2.out z26 0 p216 (by first | exact q216 | exact of_decide_eq_true (by first | (with_reducible assumption) | assumption) | (have e_ := (Kd.V_reads' HO_2.out).1; omega))
             obtain ⟨ua216_0, uc216_0, rfl, ul216_0, ge216_0⟩ := k26_openF hMe216
             have hv216_0 := hcc216 0 _ rfl
             rw [Nat.add_zero] at hv216_0
             replace hv216_0 := Option.some.inj (hv216_0.symm.trans hx216_0)
             injection hv216_0 with hva_ hvn_ hvc_
             rw [hva_] at ge216_0
             rw [hvc_] at ul216_0
             have HL216_0 := Aside0.mk (show Kd.V (Kd.int .i64) 2 _ w.heap.size _ _ ((rd_T26 l2 0).f0) from Kd.V_mk ul216_0 ge216_0)
             clear hva_ hvn_ hvc_ ge216_0 ul216_0
             clear hcc216 hce216
             have qi216 : (0 < l2.length) = True := eq_true (by omega)
             (try rw [show ((0 : Int)).toNat = 0 from rfl] at hx216_0)
             (try rw [show 0 * 2 = 0 from rfl] at hx216_0)
             (try rw [Addr.add_zero'] at hx216_0)
             (try rw [show ((0 : Int)).toNat = 0 from rfl] at hx216_1)
             (try rw [show 0 * 2 = 0 from rfl] at hx216_1)
             (try rw [Addr.add_zero'] at hx216_1)
             have HR216_0 := Aside0.mk hi216_0
             have HC216_0 := Aside0.mk hl216_0
             clear hi216_0 hl216_0
             replace p216 := eq_true p216
             replace q216 := eq_true q216
             go_upto_region 21 with (first | ((with_reducible refine gate_callee (f := 13) rfl ?_); refine goesL_ (some 94) rfl rfl Try.func13 (by kernel_rfl) rfl #[.int .i64 2, .slice A0 l0.length c0, .slice A216_0 ((rd_T26 l2 0).f0).length c216_0, .int .i64 a1] rfl (by (try simp only [List.map_toArray, List.map_cons, List.map_nil]); first | done | rfl | (simp only [List.length_drop, List.length_take]; rfl)) ?_; (with_reducible refine (mlp_Tell.calls 2 _ _ l0 _ _ ((rd_T26 l2 0).f0) a1 t217 t218 _ ?side1 ?side2 ?side3 ?side4 A38.out).mono ?_); (case side1 => repeat (first | exact (Kd.C_below HR0.out HB.out) | (with_reducible refine ccA ?_ _) | (with_reducible refine ccN ?_ _) | (with_reducible refine ccD ?_))); (case side2 => exact HC0.out); (case side3 => repeat (first | exact (by repeat (first | (with_reducible exact HR216_0.out) | (with_reducible refine ccA ?_ _) | (with_reducible refine ccN ?_ _) | (with_reducible refine ccD ?_) | exact HR216_0.out)) | (with_reducible refine ccA ?_ _) | (with_reducible refine ccN ?_ _) | (with_reducible refine ccD ?_))); (case side4 => exact HC216_0.out); rintro e w43 ⟨rfl, hb⟩; refine ⟨_, rfl, ?_⟩; have n0_ := Aside0.mk (Kd.V_below (by (with_reducible repeat (first | apply Kd.V_alloc | apply Kd.V_drewN | apply Kd.V_drew)); exact HO_2.out) hb); have n1_ := Aside0.mk (Kd.R_below (by (with_reducible repeat (first | apply rrA | apply rrN | apply rrD)); exact HO_12.out) hb); have n2_ := Aside0.mk (Kd.R_below (by (with_reducible repeat (first | apply rrA | apply rrN | apply rrD)); exact HO_73.out) hb); have n3_ := Aside0.mk (Kd.V_below (by (with_reducible repeat (first | apply Kd.V_alloc | apply Kd.V_drewN | apply Kd.V_drew)); exact HL216_0.out) hb); have n4_ := Aside0.mk (Kd.C_below (by repeat (first | (with_reducible exact HR216_0.out) | (with_reducible refine ccA ?_ _) | (with_reducible refine ccN ?_ _) | (with_reducible refine ccD ?_) | exact HR216_0.out)) hb); have n5_ := Aside0.mk (zzT (by repeat (first | (with_reducible first | exact HB.out | apply zzA | apply zzN | apply zzD) | exact HB.out)) hb); clear HO_2; clear HO_12; clear HO_73; clear HL216_0; clear HR216_0; clear HB; have HO_2 := n0_; have HO_12 := n1_; have HO_73 := n2_; have HL216_0 := n3_; have HR216_0 := n4_; have HB := n5_; clear n0_ n1_ n2_ n3_ n4_ n5_; (try clear hb); (try clear hb2); (try clear hk); (try clear hi); have p219 : 0 ≤ (0 : Int) := (by omega); have q219 : 0 < (l2.length : Int) := of_decide_eq_true (by first | (with_reducible assumption) | assumption); obtain ⟨ad219, A219_0, c219_0, e219, hx219_0, hx219_1, hl219_0, hi219_0⟩ := at_T26 (Kd.V_reads' HO_2.out).2.2 0 p219 q219; obtain rfl : ad211 = ad219 := (by injection e219); obtain ⟨ce219, hce219, hMe219, hcc219⟩ := Kd.V_get HO_2.out z26 0 p219 (by first | exact q219 | exact of_decide_eq_true (by first | (with_reducible assumption) | assumption) | (have e_ := (Kd.V_reads' HO_2.out).1; omega)); obtain ⟨ua219_0, uc219_0, rfl, ul219_0, ge219_0⟩ := k26_openF hMe219; have hv219_0 := hcc219 0 _ rfl; rw [Nat.add_zero] at hv219_0; replace hv219_0 := Option.some.inj (hv219_0.symm.trans hx219_0); injection hv219_0 with hva_ hvn_ hvc_; rw [hva_] at ge219_0; rw [hvc_] at ul219_0; have HL219_0 := Aside0.mk (show Kd.V (Kd.int .i64) 2 _ w.heap.size _ _ ((rd_T26 l2 0).f0) from Kd.V_mk ul219_0 ge219_0); clear hva_ hvn_ hvc_ ge219_0 ul219_0; clear hcc219 hce219; have qi219 : (0 < l2.length) = True := eq_true (by omega); (try rw [show ((0 : Int)).toNat = 0 from rfl] at hx219_0); (try rw [show 0 * 2 = 0 from rfl] at hx219_0); (try rw [Addr.add_zero'] at hx219_0); (try rw [show ((0 : Int)).toNat = 0 from rfl] at hx219_1); (try rw [show 0 * 2 = 0 from rfl] at hx219_1); (try rw [Addr.add_zero'] at hx219_1); have HR219_0 := Aside0.mk hi219_0; have HC219_0 := Aside0.mk hl219_0; clear hi219_0 hl219_0; replace p219 := eq_true p219; replace q219 := eq_true q219; obtain ⟨Ao44, co44, eo44⟩ := Kd.R_slice HO_12.out; subst eo44) | ((with_reducible refine gate_callee (f := 13) rfl ?_); refine goesL_ (some 104) rfl rfl Try.func13 (by kernel_rfl) rfl #[.int .i64 2, .slice Ao44 t205.length co44, .slice A219_0 ((rd_T26 l2 0).f0).length c219_0, .int .i64 a1] rfl (by (try simp only [List.map_toArray, List.map_cons, List.map_nil]); first | done | rfl | (simp only [List.length_drop, List.length_take]; rfl)) ?_; (with_reducible refine (mlp_Tell.calls 2 _ _ t205 _ _ ((rd_T26 l2 0).f0) a1 t220 t221 _ ?side1 ?side2 ?side3 ?side4 A39.out).mono ?_); (case side1 => repeat (first | exact (Kd.R_reads' HO_12.out).2.2 | (with_reducible refine ccA ?_ _) | (with_reducible refine ccN ?_ _) | (with_reducible refine ccD ?_))); (case side2 => exact (Kd.R_reads' HO_12.out).2.1); (case side3 => repeat (first | exact (by repeat (first | (with_reducible exact HR219_0.out) | (with_reducible refine ccA ?_ _) | (with_reducible refine ccN ?_ _) | (with_reducible refine ccD ?_) | exact HR219_0.out)) | (with_reducible refine ccA ?_ _) | (with_reducible refine ccN ?_ _) | (with_reducible refine ccD ?_))); (case side4 => exact HC219_0.out); rintro e w45 ⟨rfl, hb⟩; refine ⟨_, rfl, ?_⟩; have n0_ := Aside0.mk (Kd.V_below (by (with_reducible repeat (first | apply Kd.V_alloc | apply Kd.V_drewN | apply Kd.V_drew)); exact HO_2.out) hb); have n1_ := Aside0.mk (Kd.R_below (by (with_reducible repeat (first | apply rrA | apply rrN | apply rrD)); exact HO_12.out) hb); have n2_ := Aside0.mk (Kd.R_below (by (with_reducible repeat (first | apply rrA | apply rrN | apply rrD)); exact HO_73.out) hb); have n3_ := Aside0.mk (Kd.V_below (by (with_reducible repeat (first | apply Kd.V_alloc | apply Kd.V_drewN | apply Kd.V_drew)); exact HL216_0.out) hb); have n4_ := Aside0.mk (Kd.V_below (by (with_reducible repeat (first | apply Kd.V_alloc | apply Kd.V_drewN | apply Kd.V_drew)); exact HL219_0.out) hb); have n5_ := Aside0.mk (Kd.C_below (by repeat (first | (with_reducible exact HR216_0.out) | (with_reducible refine ccA ?_ _) | (with_reducible refine ccN ?_ _) | (with_reducible refine ccD ?_) | exact HR216_0.out)) hb); have n6_ := Aside0.mk (Kd.C_below (by repeat (first | (with_reducible exact HR219_0.out) | (with_reducible refine ccA ?_ _) | (with_reducible refine ccN ?_ _) | (with_reducible refine ccD ?_) | exact HR219_0.out)) hb); have n7_ := Aside0.mk (zzT (by repeat (first | (with_reducible first | exact HB.out | apply zzA | apply zzN | apply zzD) | exact HB.out)) hb); clear HO_2; clear HO_12; clear HO_73; clear HL216_0; clear HL219_0; clear HR216_0; clear HR219_0; clear HB; have HO_2 := n0_; have HO_12 := n1_; have HO_73 := n2_; have HL216_0 := n3_; have HL219_0 := n4_; have HR216_0 := n5_; have HR219_0 := n6_; have HB := n7_; clear n0_ n1_ n2_ n3_ n4_ n5_ n6_ n7_; (try clear hb); (try clear hb2); (try clear hk); (try clear hi); have p222 : 0 ≤ (0 : Int) := (by omega); have q222 : 0 < (l2.length : Int) := of_decide_eq_true (by first | (with_reducible assumption) | assumption); obtain ⟨ad222, A222_0, c222_0, e222, hx222_0, hx222_1, hl222_0, hi222_0⟩ := at_T26 (Kd.V_reads' HO_2.out).2.2 0 p222 q222; obtain rfl : ad211 = ad222 := (by injection e222); obtain ⟨ce222, hce222, hMe222, hcc222⟩ := Kd.V_get HO_2.out z26 0 p222 (by first | exact q222 | exact of_decide_eq_true (by first | (with_reducible assumption) | assumption) | (have e_ := (Kd.V_reads' HO_2.out).1; omega)); obtain ⟨ua222_0, uc222_0, rfl, ul222_0, ge222_0⟩ := k26_openF hMe222; have hv222_0 := hcc222 0 _ rfl; rw [Nat.add_zero] at hv222_0; replace hv222_0 := Option.some.inj (hv222_0.symm.trans hx222_0); injection hv222_0 with hva_ hvn_ hvc_; rw [hva_] at ge222_0; rw [hvc_] at ul222_0; have HL222_0 := Aside0.mk (show Kd.V (Kd.int .i64) 2 _ w.heap.size _ _ ((rd_T26 l2 0).f0) from Kd.V_mk ul222_0 ge222_0); clear hva_ hvn_ hvc_ ge222_0 ul222_0; clear hcc222 hce222; have qi222 : (0 < l2.length) = True := eq_true (by omega); (try rw [show ((0 : Int)).toNat = 0 from rfl] at hx222_0); (try rw [show 0 * 2 = 0 from rfl] at hx222_0); (try rw [Addr.add_zero'] at hx222_0); (try rw [show ((0 : Int)).toNat = 0 from rfl] at hx222_1); (try rw [show 0 * 2 = 0 from rfl] at hx222_1); (try rw [Addr.add_zero'] at hx222_1); have HR222_0 := Aside0.mk hi222_0; have HC222_0 := Aside0.mk hl222_0; clear hi222_0 hl222_0; replace p222 := eq_true p222; replace q222 := eq_true q222) | ((with_reducible refine gate_dst (N := 113) rfl ?_); (try (refine gate_guard (by rfl) ?_; dsimp only)); refine Kd.N_lit k26 _ 26 ?hg (N' := 113) ?hd (xs := ([(⟨(rd_T26 l2 0).f0, (rd_T26 l2 0).f1⟩ : S26)] : List (S26))) (inner := [.slice A222_0 ((rd_T26 l2 0).f0).length c222_0, .int .i64 ((rd_T26 l2 0).f1)]) (ok := (fun k_ => (P2_ k_ ∨ w.heap.size ≤ k_) ∧ some k_ ≠ (.slice Ao44 t205.length co44 : Value).ownBlock ∧ some k_ ≠ (.slice Ao31 y212.length co31 : Value).ownBlock)) (okp := (fun k_ => (P2_ k_ ∨ w.heap.size ≤ k_) ∧ some k_ ≠ (.slice Ao44 t205.length co44 : Value).ownBlock ∧ some k_ ≠ (.slice Ao31 y212.length co31 : Value).ownBlock)) ?hr ?hp (fun _ hk => hk) ((show ∀ k_, w45.heap.size ≤ k_ → (fun k_ => (P2_ k_ ∨ w.heap.size ≤ k_) ∧ some k_ ≠ (.slice Ao44 t205.length co44 : Value).ownBlock ∧ some k_ ≠ (.slice Ao31 y212.length co31 : Value).ownBlock) k_ from fun k_ hk => ⟨(.inr (Nat.le_trans (zzS (by repeat (first | (with_reducible first | exact HB.out | apply zzA | apply zzN | apply zzD) | exact HB.out))) hk)), Kd.fresh' (Kd.R_lt (by (with_reducible repeat (first | apply rrA | apply rrN | apply rrD)); exact HO_12.out)) k_ hk, Kd.fresh' (Kd.R_lt (by (with_reducible repeat (first | apply rrA | apply rrN | apply rrD)); exact HO_73.out)) k_ hk⟩) _ (Nat.le_refl _)) (Below.refl _ _) (Nat.le_refl _) (by simp) ?_; (case hd => rfl); (case hg => rfl); (case hr => first | (go_simp; done) | (go_simp; rfl)); (case hp => exact (Reps.c2 (show Kd.FK k26 _ _ (⟨(rd_T26 l2 0).f0, (rd_T26 l2 0).f1⟩ : S26) [.slice A222_0 ((rd_T26 l2 0).f0).length c222_0, .int .i64 ((rd_T26 l2 0).f1)] from (k26_mkF _ _ (⟨(rd_T26 l2 0).f0, (rd_T26 l2 0).f1⟩ : S26) (Kd.V_reads' (Kd.V_mono (ok' := (fun k_ => (P2_ k_ ∨ w.heap.size ≤ k_) ∧ some k_ ≠ (.slice Ao44 t205.length co44 : Value).ownBlock ∧ some k_ ≠ (.slice Ao31 y212.length co31 : Value).ownBlock)) (HL222_0.out) (fun k_ hk => ⟨hk.1, ⟨hk.2.1, hk.2.2⟩⟩))).2.1 (Kd.V_F (base := w.heap.size) (e := 2) (Kd.V_mono (ok' := (fun k_ => (P2_ k_ ∨ w.heap.size ≤ k_) ∧ some k_ ≠ (.slice Ao44 t205.length co44 : Value).ownBlock ∧ some k_ ≠ (.slice Ao31 y212.length co31 : Value).ownBlock)) (HL222_0.out) (fun k_ hk => ⟨hk.1, ⟨hk.2.1, hk.2.2⟩⟩))))) (Reps.none _ _))); intro v224 w46 ho47 hb hg_ hnew_; clear hg_ hnew_; (first | rw [← Ny223.out] at ho47 | (simp only [Int.reduceToNat] at ho47; rw [← Ny223.out] at ho47)); have n0_ := Aside0.mk (Kd.V_elder' (by (with_reducible repeat (first | apply Kd.V_alloc | apply Kd.V_drewN | apply Kd.V_drew)); exact HO_2.out) (Kd.N_base ho47) hb); have n1_ := Aside0.mk (Kd.R_below (by (with_reducible repeat (first | apply rrA | apply rrN | apply rrD)); exact HO_12.out) hb); have n2_ := Aside0.mk (Kd.R_below (by (with_reducible repeat (first | apply rrA | apply rrN | apply rrD)); exact HO_73.out) hb); have n3_ := Aside0.mk (Kd.V_elder' (by (with_reducible repeat (first | apply Kd.V_alloc | apply Kd.V_drewN | apply Kd.V_drew)); exact HL216_0.out) (Kd.N_base ho47) hb); have n4_ := Aside0.mk (Kd.V_elder' (by (with_reducible repeat (first | apply Kd.V_alloc | apply Kd.V_drewN | apply Kd.V_drew)); exact HL219_0.out) (Kd.N_base ho47) hb); have n5_ := Aside0.mk (Kd.V_elder' (by (with_reducible repeat (first | apply Kd.V_alloc | apply Kd.V_drewN | apply Kd.V_drew)); exact HL222_0.out) (Kd.N_base ho47) hb); have n6_ := Aside0.mk (Kd.N_lower ho47 (zzS (by repeat (first | (with_reducible first | exact HB.out | apply zzA | apply zzN | apply zzD) | exact HB.out)))); have n7_ := Aside0.mk (Kd.C_below (by repeat (first | (with_reducible exact HR216_0.out) | (with_reducible refine ccA ?_ _) | (with_reducible refine ccN ?_ _) | (with_reducible refine ccD ?_) | exact HR216_0.out)) hb); have n8_ := Aside0.mk (Kd.C_below (by repeat (first | (with_reducible exact HR219_0.out) | (with_reducible refine ccA ?_ _) | (with_reducible refine ccN ?_ _) | (with_reducible refine ccD ?_) | exact HR219_0.out)) hb); have n9_ := Aside0.mk (Kd.C_below (by repeat (first | (with_reducible exact HR222_0.out) | (with_reducible refine ccA ?_ _) | (with_reducible refine ccN ?_ _) | (with_reducible refine ccD ?_) | exact HR222_0.out)) hb); have n10_ := Aside0.mk (zzT (by repeat (first | (with_reducible first | exact HB.out | apply zzA | apply zzN | apply zzD) | exact HB.out)) hb); clear HO_2; clear HO_12; clear HO_73; clear HL216_0; clear HL219_0; clear HL222_0; clear HR216_0; clear HR219_0; clear HR222_0; clear HB; have HO_2 := n0_; have HO_12 := n1_; have HO_73 := n2_; have HL216_0 := n3_; have HL219_0 := n4_; have HL222_0 := n5_; have HO225 := n6_; have HR216_0 := n7_; have HR219_0 := n8_; have HR222_0 := n9_; have HB := n10_; clear n0_ n1_ n2_ n3_ n4_ n5_ n6_ n7_ n8_ n9_ n10_; clear hb ho47; obtain ⟨Ao48, co48, eo48⟩ := Kd.N_slice HO225.out; subst eo48) | ((with_reducible refine gate_callee (f := 27) rfl ?_); refine goesL_ (some 114) rfl rfl Try.func27 (by kernel_rfl) rfl #[.int .i64 2, .slice A0 l0.length c0, .int .i64 a1, .slice Ao48 y223.length co48] rfl (by (try simp only [List.map_toArray, List.map_cons, List.map_nil]); first | done | rfl | (simp only [List.length_drop, List.length_take]; rfl)) ?_; (with_reducible refine (mlp_Grad.calls 2 _ _ l0 a1 _ _ y223 t226 t227 _ ?side1 ?side2 ?side3 ?side4 A40.out).mono ?_); (case side1 => repeat (first | exact (Kd.C_below HR0.out HB.out) | (with_reducible refine ccA ?_ _) | (with_reducible refine ccN ?_ _) | (with_reducible refine ccD ?_))); (case side2 => exact HC0.out); (case side3 => repeat (first | exact (Kd.N_reads' HO225.out).2.2 | (with_reducible refine ccA ?_ _) | (with_reducible refine ccN ?_ _) | (with_reducible refine ccD ?_))); (case side4 => exact (Kd.N_reads' HO225.out).2.1); rintro e w49 ⟨v228, rfl, ho0, hb⟩; refine ⟨_, rfl, ?_⟩; have n0_ := Aside0.mk (Kd.V_elder' (by (with_reducible repeat (first | apply Kd.V_alloc | apply Kd.V_drewN | apply Kd.V_drew)); exact HO_2.out) (Kd.R_base ho0) hb); have n1_ := Aside0.mk (Kd.R_elder' (by (with_reducible repeat (first | apply rrA | apply rrN | apply rrD)); exact HO_12.out) (Kd.R_base ho0) hb); have n2_ := Aside0.mk (Kd.R_elder' (by (with_reducible repeat (first | apply rrA | apply rrN | apply rrD)); exact HO_73.out) (Kd.R_base ho0) hb); have n3_ := Aside0.mk (Kd.V_elder' (by (with_reducible repeat (first | apply Kd.V_alloc | apply Kd.V_drewN | apply Kd.V_drew)); exact HL216_0.out) (Kd.R_base ho0) hb); have n4_ := Aside0.mk (Kd.V_elder' (by (with_reducible repeat (first | apply Kd.V_alloc | apply Kd.V_drewN | apply Kd.V_drew)); exact HL219_0.out) (Kd.R_base ho0) hb); have n5_ := Aside0.mk (Kd.V_elder' (by (with_reducible repeat (first | apply Kd.V_alloc | apply Kd.V_drewN | apply Kd.V_drew)); exact HL222_0.out) (Kd.R_base ho0) hb); have n6_ := Aside0.mk (Kd.N_elder' (by (with_reducible repeat (first | apply Kd.N_alloc | apply Kd.N_drewN | apply Kd.N_drew)); exact HO225.out) (Kd.R_base ho0) hb); have n7_ := Aside0.mk (Kd.R_lower (Kd.R_new' (Kd.R_new' (Kd.R_newM (M := fun k_ => (w.heap.size ≤ k_)) ho0 (zzS (by repeat (first | (with_reducible first | exact HB.out | apply zzA | apply zzN | apply zzD) | exact HB.out))) (fun k_ h_ => h_)) (Kd.R_lt (by (with_reducible repeat (first | apply rrA | apply rrN | apply rrD)); exact HO_12.out))) (Kd.R_lt (by (with_reducible repeat (first | apply rrA | apply rrN | apply rrD)); exact HO_73.out))) (zzS (by repeat (first | (with_reducible first | exact HB.out | apply zzA | apply zzN | apply zzD) | exact HB.out)))); have n8_ := Aside0.mk (Kd.C_below (by repeat (first | (with_reducible exact HR216_0.out) | (with_reducible refine ccA ?_ _) | (with_reducible refine ccN ?_ _) | (with_reducible refine ccD ?_) | exact HR216_0.out)) hb); have n9_ := Aside0.mk (Kd.C_below (by repeat (first | (with_reducible exact HR219_0.out) | (with_reducible refine ccA ?_ _) | (with_reducible refine ccN ?_ _) | (with_reducible refine ccD ?_) | exact HR219_0.out)) hb); have n10_ := Aside0.mk (Kd.C_below (by repeat (first | (with_reducible exact HR222_0.out) | (with_reducible refine ccA ?_ _) | (with_reducible refine ccN ?_ _) | (with_reducible refine ccD ?_) | exact HR222_0.out)) hb); have n11_ := Aside0.mk (zzT (by repeat (first | (with_reducible first | exact HB.out | apply zzA | apply zzN | apply zzD) | exact HB.out)) hb); clear HO_2; clear HO_12; clear HO_73; clear HL216_0; clear HL219_0; clear HL222_0; clear HO225; clear HR216_0; clear HR219_0; clear HR222_0; clear HB; have HO_2 := n0_; have HO_12 := n1_; have HO_73 := n2_; have HL216_0 := n3_; have HL219_0 := n4_; have HL222_0 := n5_; have HO225 := n6_; have HO229 := n7_; have HR216_0 := n8_; have HR219_0 := n9_; have HR222_0 := n10_; have HB := n11_; clear n0_ n1_ n2_ n3_ n4_ n5_ n6_ n7_ n8_ n9_ n10_ n11_; (try clear hb); (try clear hb2); (try clear hk); (try clear hi); (try clear ho0); have p230 : 0 ≤ (0 : Int) := (by omega); have q230 : 0 < (l2.length : Int) := of_decide_eq_true (by first | (with_reducible assumption) | assumption); obtain ⟨ad230, A230_0, c230_0, e230, hx230_0, hx230_1, hl230_0, hi230_0⟩ := at_T26 (Kd.V_reads' HO_2.out).2.2 0 p230 q230; obtain rfl : ad211 = ad230 := (by injection e230); obtain ⟨ce230, hce230, hMe230, hcc230⟩ := Kd.V_get HO_2.out z26 0 p230 (by first | exact q230 | exact of_decide_eq_true (by first | (with_reducible assumption) | assumption) | (have e_ := (Kd.V_reads' HO_2.out).1; omega)); obtain ⟨ua230_0, uc230_0, rfl, ul230_0, ge230_0⟩ := k26_openF hMe230; have hv230_0 := hcc230 0 _ rfl; rw [Nat.add_zero] at hv230_0; replace hv230_0 := Option.some.inj (hv230_0.symm.trans hx230_0); injection hv230_0 with hva_ hvn_ hvc_; rw [hva_] at ge230_0; rw [hvc_] at ul230_0; have HL230_0 := Aside0.mk (show Kd.V (Kd.int .i64) 2 _ w.heap.size _ _ ((rd_T26 l2 0).f0) from Kd.V_mk ul230_0 ge230_0); clear hva_ hvn_ hvc_ ge230_0 ul230_0; clear hcc230 hce230; have qi230 : (0 < l2.length) = True := eq_true (by omega); (try rw [show ((0 : Int)).toNat = 0 from rfl] at hx230_0); (try rw [show 0 * 2 = 0 from rfl] at hx230_0); (try rw [Addr.add_zero'] at hx230_0); (try rw [show ((0 : Int)).toNat = 0 from rfl] at hx230_1); (try rw [show 0 * 2 = 0 from rfl] at hx230_1); (try rw [Addr.add_zero'] at hx230_1); have HR230_0 := Aside0.mk hi230_0; have HC230_0 := Aside0.mk hl230_0; clear hi230_0 hl230_0; replace p230 := eq_true p230; replace q230 := eq_true q230) | ((with_reducible refine gate_dst (N := 123) rfl ?_); (try (refine gate_guard (by rfl) ?_; dsimp only)); refine Kd.N_lit k26 _ 26 ?hg (N' := 123) ?hd (xs := ([(⟨(rd_T26 l2 0).f0, (rd_T26 l2 0).f1⟩ : S26)] : List (S26))) (inner := [.slice A230_0 ((rd_T26 l2 0).f0).length c230_0, .int .i64 ((rd_T26 l2 0).f1)]) (ok := (fun k_ => (P2_ k_ ∨ w.heap.size ≤ k_) ∧ some k_ ≠ (.slice Ao44 t205.length co44 : Value).ownBlock ∧ some k_ ≠ (.slice Ao31 y212.length co31 : Value).ownBlock ∧ some k_ ≠ (.slice Ao48 y223.length co48 : Value).ownBlock ∧ some k_ ≠ (v228 : Value).ownBlock)) (okp := (fun k_ => (P2_ k_ ∨ w.heap.size ≤ k_) ∧ some k_ ≠ (.slice Ao44 t205.length co44 : Value).ownBlock ∧ some k_ ≠ (.slice Ao31 y212.length co31 : Value).ownBlock ∧ some k_ ≠ (.slice Ao48 y223.length co48 : Value).ownBlock ∧ some k_ ≠ (v228 : Value).ownBlock)) ?hr ?hp (fun _ hk => hk) ((show ∀ k_, w49.heap.size ≤ k_ → (fun k_ => (P2_ k_ ∨ w.heap.size ≤ k_) ∧ some k_ ≠ (.slice Ao44 t205.length co44 : Value).ownBlock ∧ some k_ ≠ (.slice Ao31 y212.length co31 : Value).ownBlock ∧ some k_ ≠ (.slice Ao48 y223.length co48 : Value).ownBlock ∧ some k_ ≠ (v228 : Value).ownBlock) k_ from fun k_ hk => ⟨(.inr (Nat.le_trans (zzS (by repeat (first | (with_reducible first | exact HB.out | apply zzA | apply zzN | apply zzD) | exact HB.out))) hk)), Kd.fresh' (Kd.R_lt (by (with_reducible repeat (first | apply rrA | apply rrN | apply rrD)); exact HO_12.out)) k_ hk, Kd.fresh' (Kd.R_lt (by (with_reducible repeat (first | apply rrA | apply rrN | apply rrD)); exact HO_73.out)) k_ hk, Kd.fresh' (Kd.N_lt (by (with_reducible repeat (first | apply Kd.N_alloc | apply Kd.N_drewN | apply Kd.N_drew)); exact HO225.out)) k_ hk, Kd.fresh' (Kd.R_lt (by (with_reducible repeat (first | apply rrA | apply rrN | apply rrD)); exact HO229.out)) k_ hk⟩) _ (Nat.le_refl _)) (Below.refl _ _) (Nat.le_refl _) (by simp) ?_; (case hd => rfl); (case hg => rfl); (case hr => first | (go_simp; done) | (go_simp; rfl)); (case hp => exact (Reps.c2 (show Kd.FK k26 _ _ (⟨(rd_T26 l2 0).f0, (rd_T26 l2 0).f1⟩ : S26) [.slice A230_0 ((rd_T26 l2 0).f0).length c230_0, .int .i64 ((rd_T26 l2 0).f1)] from (k26_mkF _ _ (⟨(rd_T26 l2 0).f0, (rd_T26 l2 0).f1⟩ : S26) (Kd.V_reads' (Kd.V_mono (ok' := (fun k_ => (P2_ k_ ∨ w.heap.size ≤ k_) ∧ some k_ ≠ (.slice Ao44 t205.length co44 : Value).ownBlock ∧ some k_ ≠ (.slice Ao31 y212.length co31 : Value).ownBlock ∧ some k_ ≠ (.slice Ao48 y223.length co48 : Value).ownBlock ∧ some k_ ≠ (v228 : Value).ownBlock)) (HL230_0.out) (fun k_ hk => ⟨hk.1.1.1, ⟨hk.1.1.2.1, ⟨hk.1.1.2.2, ⟨hk.1.2, hk.2⟩⟩⟩⟩))).2.1 (Kd.V_F (base := w.heap.size) (e := 2) (Kd.V_mono (ok' := (fun k_ => (P2_ k_ ∨ w.heap.size ≤ k_) ∧ some k_ ≠ (.slice Ao44 t205.length co44 : Value).ownBlock ∧ some k_ ≠ (.slice Ao31 y212.length co31 : Value).ownBlock ∧ some k_ ≠ (.slice Ao48 y223.length co48 : Value).ownBlock ∧ some k_ ≠ (v228 : Value).ownBlock)) (HL230_0.out) (fun k_ hk => ⟨hk.1.1.1, ⟨hk.1.1.2.1, ⟨hk.1.1.2.2, ⟨hk.1.2, hk.2⟩⟩⟩⟩))))) (Reps.none _ _))); intro v232 w50 ho51 hb hg_ hnew_; clear hg_ hnew_; (first | rw [← Ny231.out] at ho51 | (simp only [Int.reduceToNat] at ho51; rw [← Ny231.out] at ho51)); have n0_ := Aside0.mk (Kd.V_elder' (by (with_reducible repeat (first | apply Kd.V_alloc | apply Kd.V_drewN | apply Kd.V_drew)); exact HO_2.out) (Kd.N_base ho51) hb); have n1_ := Aside0.mk (Kd.R_below (by (with_reducible repeat (first | apply rrA | apply rrN | apply rrD)); exact HO_12.out) hb); have n2_ := Aside0.mk (Kd.R_below (by (with_reducible repeat (first | apply rrA | apply rrN | apply rrD)); exact HO_73.out) hb); have n3_ := Aside0.mk (Kd.V_elder' (by (with_reducible repeat (first | apply Kd.V_alloc | apply Kd.V_drewN | apply Kd.V_drew)); exact HL216_0.out) (Kd.N_base ho51) hb); have n4_ := Aside0.mk (Kd.V_elder' (by (with_reducible repeat (first | apply Kd.V_alloc | apply Kd.V_drewN | apply Kd.V_drew)); exact HL219_0.out) (Kd.N_base ho51) hb); have n5_ := Aside0.mk (Kd.V_elder' (by (with_reducible repeat (first | apply Kd.V_alloc | apply Kd.V_drewN | apply Kd.V_drew)); exact HL222_0.out) (Kd.N_base ho51) hb); have n6_ := Aside0.mk (Kd.N_elder' (by (with_reducible repeat (first | apply Kd.N_alloc | apply Kd.N_drewN | apply Kd.N_drew)); exact HO225.out) (Kd.N_base ho51) hb); have n7_ := Aside0.mk (Kd.R_below (by (with_reducible repeat (first | apply rrA | apply rrN | apply rrD)); exact HO229.out) hb); have n8_ := Aside0.mk (Kd.V_elder' (by (with_reducible repeat (first | apply Kd.V_alloc | apply Kd.V_drewN | apply Kd.V_drew)); exact HL230_0.out) (Kd.N_base ho51) hb); have n9_ := Aside0.mk (Kd.N_lower ho51 (zzS (by repeat (first | (with_reducible first | exact HB.out | apply zzA | apply zzN | apply zzD) | exact HB.out)))); have n10_ := Aside0.mk (Kd.C_below (by repeat (first | (with_reducible exact HR216_0.out) | (with_reducible refine ccA ?_ _) | (with_reducible refine ccN ?_ _) | (with_reducible refine ccD ?_) | exact HR216_0.out)) hb); have n11_ := Aside0.mk (Kd.C_below (by repeat (first | (with_reducible exact HR219_0.out) | (with_reducible refine ccA ?_ _) | (with_reducible refine ccN ?_ _) | (with_reducible refine ccD ?_) | exact HR219_0.out)) hb); have n12_ := Aside0.mk (Kd.C_below (by repeat (first | (with_reducible exact HR222_0.out) | (with_reducible refine ccA ?_ _) | (with_reducible refine ccN ?_ _) | (with_reducible refine ccD ?_) | exact HR222_0.out)) hb); have n13_ := Aside0.mk (Kd.C_below (by repeat (first | (with_reducible exact HR230_0.out) | (with_reducible refine ccA ?_ _) | (with_reducible refine ccN ?_ _) | (with_reducible refine ccD ?_) | exact HR230_0.out)) hb); have n14_ := Aside0.mk (zzT (by repeat (first | (with_reducible first | exact HB.out | apply zzA | apply zzN | apply zzD) | exact HB.out)) hb); clear HO_2; clear HO_12; clear HO_73; clear HL216_0; clear HL219_0; clear HL222_0; clear HO225; clear HO229; clear HL230_0; clear HR216_0; clear HR219_0; clear HR222_0; clear HR230_0; clear HB; have HO_2 := n0_; have HO_12 := n1_; have HO_73 := n2_; have HL216_0 := n3_; have HL219_0 := n4_; have HL222_0 := n5_; have HO225 := n6_; have HO229 := n7_; have HL230_0 := n8_; have HO233 := n9_; have HR216_0 := n10_; have HR219_0 := n11_; have HR222_0 := n12_; have HR230_0 := n13_; have HB := n14_; clear n0_ n1_ n2_ n3_ n4_ n5_ n6_ n7_ n8_ n9_ n10_ n11_ n12_ n13_ n14_; clear hb ho51; obtain ⟨Ao52, co52, eo52⟩ := Kd.N_slice HO233.out; subst eo52) | ((with_reducible refine gate_callee (f := 27) rfl ?_); refine goesL_ (some 124) rfl rfl Try.func27 (by kernel_rfl) rfl #[.int .i64 2, .slice Ao44 t205.length co44, .int .i64 a1, .slice Ao52 y231.length co52] rfl (by (try simp only [List.map_toArray, List.map_cons, List.map_nil]); first | done | rfl | (simp only [List.length_drop, List.length_take]; rfl)) ?_; (with_reducible refine (mlp_Grad.calls 2 _ _ t205 a1 _ _ y231 t234 t235 _ ?side1 ?side2 ?side3 ?side4 A41.out).mono ?_); (case side1 => repeat (first | exact (Kd.R_reads' HO_12.out).2.2 | (with_reducible refine ccA ?_ _) | (with_reducible refine ccN ?_ _) | (with_reducible refine ccD ?_))); (case side2 => exact (Kd.R_reads' HO_12.out).2.1); (case side3 => repeat (first | exact (Kd.N_reads' HO233.out).2.2 | (with_reducible refine ccA ?_ _) | (with_reducible refine ccN ?_ _) | (with_reducible refine ccD ?_))); (case side4 => exact (Kd.N_reads' HO233.out).2.1); rintro e w53 ⟨v236, rfl, ho0, hb⟩; refine ⟨_, rfl, ?_⟩; have n0_ := Aside0.mk (Kd.V_elder' (by (with_reducible repeat (first | apply Kd.V_alloc | apply Kd.V_drewN | apply Kd.V_drew)); exact HO_2.out) (Kd.R_base ho0) hb); have n1_ := Aside0.mk (Kd.R_elder' (by (with_reducible repeat (first | apply rrA | apply rrN | apply rrD)); exact HO_12.out) (Kd.R_base ho0) hb); have n2_ := Aside0.mk (Kd.R_elder' (by (with_reducible repeat (first | apply rrA | apply rrN | apply rrD)); exact HO_73.out) (Kd.R_base ho0) hb); have n3_ := Aside0.mk (Kd.V_elder' (by (with_reducible repeat (first | apply Kd.V_alloc | apply Kd.V_drewN | apply Kd.V_drew)); exact HL216_0.out) (Kd.R_base ho0) hb); have n4_ := Aside0.mk (Kd.V_elder' (by (with_reducible repeat (first | apply Kd.V_alloc | apply Kd.V_drewN | apply Kd.V_drew)); exact HL219_0.out) (Kd.R_base ho0) hb); have n5_ := Aside0.mk (Kd.V_elder' (by (with_reducible repeat (first | apply Kd.V_alloc | apply Kd.V_drewN | apply Kd.V_drew)); exact HL222_0.out) (Kd.R_base ho0) hb); have n6_ := Aside0.mk (Kd.N_elder' (by (with_reducible repeat (first | apply Kd.N_alloc | apply Kd.N_drewN | apply Kd.N_drew)); exact HO225.out) (Kd.R_base ho0) hb); have n7_ := Aside0.mk (Kd.R_elder' (by (with_reducible repeat (first | apply rrA | apply rrN | apply rrD)); exact HO229.out) (Kd.R_base ho0) hb); have n8_ := Aside0.mk (Kd.V_elder' (by (with_reducible repeat (first | apply Kd.V_alloc | apply Kd.V_drewN | apply Kd.V_drew)); exact HL230_0.out) (Kd.R_base ho0) hb); have n9_ := Aside0.mk (Kd.N_elder' (by (with_reducible repeat (first | apply Kd.N_alloc | apply Kd.N_drewN | apply Kd.N_drew)); exact HO233.out) (Kd.R_base ho0) hb); have n10_ := Aside0.mk (Kd.R_lower (Kd.R_new' (Kd.R_new' (Kd.R_new' (Kd.R_newM (M := fun k_ => (w.heap.size ≤ k_)) ho0 (zzS (by repeat (first | (with_reducible first | exact HB.out | apply zzA | apply zzN | apply zzD) | exact HB.out))) (fun k_ h_ => h_)) (Kd.R_lt (by (with_reducible repeat (first | apply rrA | apply rrN | apply rrD)); exact HO_12.out))) (Kd.R_lt (by (with_reducible repeat (first | apply rrA | apply rrN | apply rrD)); exact HO_73.out))) (Kd.R_lt (by (with_reducible repeat (first | apply rrA | apply rrN | apply rrD)); exact HO229.out))) (zzS (by repeat (first | (with_reducible first | exact HB.out | apply zzA | apply zzN | apply zzD) | exact HB.out)))); have n11_ := Aside0.mk (Kd.C_below (by repeat (first | (with_reducible exact HR216_0.out) | (with_reducible refine ccA ?_ _) | (with_reducible refine ccN ?_ _) | (with_reducible refine ccD ?_) | exact HR216_0.out)) hb); have n12_ := Aside0.mk (Kd.C_below (by repeat (first | (with_reducible exact HR219_0.out) | (with_reducible refine ccA ?_ _) | (with_reducible refine ccN ?_ _) | (with_reducible refine ccD ?_) | exact HR219_0.out)) hb); have n13_ := Aside0.mk (Kd.C_below (by repeat (first | (with_reducible exact HR222_0.out) | (with_reducible refine ccA ?_ _) | (with_reducible refine ccN ?_ _) | (with_reducible refine ccD ?_) | exact HR222_0.out)) hb); have n14_ := Aside0.mk (Kd.C_below (by repeat (first | (with_reducible exact HR230_0.out) | (with_reducible refine ccA ?_ _) | (with_reducible refine ccN ?_ _) | (with_reducible refine ccD ?_) | exact HR230_0.out)) hb); have n15_ := Aside0.mk (zzT (by repeat (first | (with_reducible first | exact HB.out | apply zzA | apply zzN | apply zzD) | exact HB.out)) hb); clear HO_2; clear HO_12; clear HO_73; clear HL216_0; clear HL219_0; clear HL222_0; clear HO225; clear HO229; clear HL230_0; clear HO233; clear HR216_0; clear HR219_0; clear HR222_0; clear HR230_0; clear HB; have HO_2 := n0_; have HO_12 := n1_; have HO_73 := n2_; have HL216_0 := n3_; have HL219_0 := n4_; have HL222_0 := n5_; have HO225 := n6_; have HO229 := n7_; have HL230_0 := n8_; have HO233 := n9_; have HO237 := n10_; have HR216_0 := n11_; have HR219_0 := n12_; have HR222_0 := n13_; have HR230_0 := n14_; have HB := n15_; clear n0_ n1_ n2_ n3_ n4_ n5_ n6_ n7_ n8_ n9_ n10_ n11_ n12_ n13_ n14_ n15_; (try clear hb); (try clear hb2); (try clear hk); (try clear hi); (try clear ho0)))
             (try simp only [Act.put, List.setIfInBounds_toArray, List.set_cons_zero, List.set_cons_succ])
             go_cut [139] (fun v139 wc => ∃ (kq : Nat) (x139_41 : Bool), v139 = .bool x139_41 ∧ Aside0 (thrumlaw16_MlpTurns.j2 kq l0 true t226 t227 t234 x139_41 = some r) ∧ Aside0 (kq ≤ k2) ∧ Aside0 (Kd.R (Kd.int .i64) 2 wc w.heap.size (fun k_ => (w.heap.size ≤ k_) ∧ some k_ ≠ (v236 : Value).ownBlock) v228 t226) ∧ Aside0 (Kd.R (Kd.int .i64) 2 wc w.heap.size (fun k_ => (w.heap.size ≤ k_) ∧ some k_ ≠ (v228 : Value).ownBlock) v236 t234) ∧ Aside0 (Kd.C (Kd.int .i64) wc A216_0 ((rd_T26 l2 0).f0).length ((rd_T26 l2 0).f0)) ∧ Aside0 (Kd.C (Kd.int .i64) wc A219_0 ((rd_T26 l2 0).f0).length ((rd_T26 l2 0).f0)) ∧ Aside0 (Kd.C (Kd.int .i64) wc A222_0 ((rd_T26 l2 0).f0).length ((rd_T26 l2 0).f0)) ∧ Aside0 (Kd.C (Kd.int .i64) wc A230_0 ((rd_T26 l2 0).f0).length ((rd_T26 l2 0).f0)) ∧ Aside0 (Below w.heap.size w wc))
             case first =>
              have H := HC42.out
              clear HC42
              by_cases c54 : t217 = t220
              ·
               rw [if_pos c54] at H
               have c54b0 : (t217 == t220) = true := beq_iff_eq.mpr c54
               have c54b1 : (t217 != t220) = false := bne_eq_false_iff_eq.mpr c54
               clear c54
               (first | rw [c54b0] | (simp only [i64_w, i32_w]; rw [c54b0]) | skip)
               by_cases c55 : t218 = t221
               ·
                rw [if_pos c55] at H
                have c55b0 : (t218 == t221) = true := beq_iff_eq.mpr c55
                have c55b1 : (t218 != t221) = false := bne_eq_false_iff_eq.mpr c55
                clear c55
                focus
                 have H' := Aside0.mk H
                 clear H
                 go_wp2
                 go_meet
                 case rel => exact ⟨_, ((t227 != t235)), (by first | rfl | (simp; done) | (simp [*]; done)), H', ⟨by have := HJ8.out; have := HK2.out; first | omega | exact Nat.le_refl _⟩, ⟨by (with_reducible repeat (first | apply rrA | apply rrN | apply rrD)); exact Kd.R_mono HO229.out (fun _ hk => ⟨hk.1.1.1.1, hk.2⟩)⟩, ⟨by (with_reducible repeat (first | apply rrA | apply rrN | apply rrD)); exact Kd.R_mono HO237.out (fun _ hk => ⟨hk.1.1.1.1, hk.2⟩)⟩, ⟨by repeat (first | (with_reducible exact HR216_0.out) | (with_reducible refine ccA ?_ _) | (with_reducible refine ccN ?_ _) | (with_reducible refine ccD ?_) | exact HR216_0.out)⟩, ⟨by repeat (first | (with_reducible exact HR219_0.out) | (with_reducible refine ccA ?_ _) | (with_reducible refine ccN ?_ _) | (with_reducible refine ccD ?_) | exact HR219_0.out)⟩, ⟨by repeat (first | (with_reducible exact HR222_0.out) | (with_reducible refine ccA ?_ _) | (with_reducible refine ccN ?_ _) | (with_reducible refine ccD ?_) | exact HR222_0.out)⟩, ⟨by repeat (first | (with_reducible exact HR230_0.out) | (with_reducible refine ccA ?_ _) | (with_reducible refine ccN ?_ _) | (with_reducible refine ccD ?_) | exact HR230_0.out)⟩, ⟨by repeat (first | (with_reducible first | exact HB.out | apply zzA | apply zzN | apply zzD) | exact HB.out)⟩⟩
               ·
                rw [if_neg c55] at H
                exact (thrumlaw16_MlpTurns.j2_not (H.trans (by rw [HR_.out]))).elim
              ·
               rw [if_neg c54] at H
               exact (thrumlaw16_MlpTurns.j2_not (H.trans (by rw [HR_.out]))).elim
             case rest =>
              clear HC42
              try clear c1
              try clear c2
              try clear p2
              try clear q2
              try clear hx2
              try clear qi2
              try clear c3
              try clear c5
              try clear p6
              try clear c7
              try clear c8
              try clear c9
              try clear c11
              try clear c13
              try clear c13b0
              try clear c13b1
              try clear c14
              try clear c14b0
              try clear c14b1
              try clear c15
              try clear c15b0
              try clear c15b1
              try clear c21
              try clear p21
              try clear q21
              try clear hx21
              try clear qi21
              try clear c22
              try clear c22b0
              try clear c22b1
              try clear p22
              try clear q22
              try clear hx22
              try clear qi22
              try clear c23
              try clear p23
              try clear q23
              try clear hx23
              try clear qi23
              try clear c24
              try clear c25
              try clear c25b0
              try clear c25b1
              try clear c26
              try clear c27
              try clear c29
              try clear c32
              try clear c32b0
              try clear c33
              try clear c33b0
              try clear c34
              try clear c34b0
              try clear c35
              try clear c35b0
              try clear c36
              try clear c36b0
              try clear c37
              try clear c37b0
              try clear c37b1
              try clear c54
              try clear c54b0
              try clear c54b1
              try clear c55
              try clear c55b0
              try clear c55b1
              try clear hx211_0
              try clear hx211_1
              try clear hx215_0
              try clear hx216_0
              try clear hx216_1
              try clear hx219_0
              try clear hx219_1
              try clear hx222_0
              try clear hx222_1
              try clear hx230_0
              try clear hx230_1
              try clear p2
              try clear p21
              try clear p211
              try clear p215
              try clear p216
              try clear p219
              try clear p222
              try clear p230
              try clear q2
              try clear q21
              try clear q211
              try clear q215
              try clear q216
              try clear q219
              try clear q222
              try clear q230
              obtain ⟨kq, x139_41, rfl, HA, HJ41, HO_19, HO_21, HR216_0, HR219_0, HR222_0, HR230_0, HB⟩ := hcut
              cases kq with
              | zero => exact absurd HA.out (by simp [thrumlaw16_MlpTurns.j2])
              | succ kj41 =>
               have H := HA.out
               clear HA
               simp only [thrumlaw16_MlpTurns.j2] at H
               by_cases c56 : x139_41 = true
               ·
                subst c56
                have H1 : (some false) = some r := by rw [if_pos rfl] at H; exact H
                exact absurd (Option.some.inj H1) (by rw [HR_.out]; decide)
               ·
                replace c56 := Bool.eq_false_iff.mpr c56
                subst c56
                have H1 : (if true = true then (if t227 = 0 then (if (t226.length : Int) = (l0.length : Int) then ((thrumlaw16_MlpTurns_1.f t226).bind fun t238 => ((thrumref02_Same.f t238 t234).bind fun t241 => (some t241))) else (some false)) else (some true)) else (some false)) = some r := by rw [if_neg (show ¬ (false = true) by decide)] at H; exact H
                clear H
                have H := H1
                clear H1
                first | rw [if_pos rfl] at H | rw [if_pos trivial] at H
                by_cases c57 : t227 = 0
                ·
                 rw [if_pos c57] at H
                 have c57b0 : (t227 == 0) = true := beq_iff_eq.mpr c57
                 have c57b1 : (t227 != 0) = false := bne_eq_false_iff_eq.mpr c57
                 clear c57
                 by_cases c58 : (t226.length : Int) = (l0.length : Int)
                 ·
                  rw [if_pos c58] at H
                  have c58b0 : ((t226.length : Int) == (l0.length : Int)) = true := beq_iff_eq.mpr c58
                  have c58b1 : ((t226.length : Int) != (l0.length : Int)) = false := bne_eq_false_iff_eq.mpr c58
                  have c58b2 : (t226.length == l0.length) = true := by first | simpa using c58 | (simp at c58 ⊢; omega)
                  clear c58
                  replace H := Option.bind_eq_some_iff.mp H
                  obtain ⟨t238, A590, H⟩ := H
                  replace H : ((thrumref02_Same.f t238 t234).bind fun t241 => (some t241)) = some r := H
                  have A59 := Aside0.mk A590
                  clear A590
                  replace H := Option.bind_eq_some_iff.mp H
                  obtain ⟨t241, A600, H⟩ := H
                  replace H : (some t241) = some r := H
                  have A60 := Aside0.mk A600
                  clear A600
                  focus
                   obtain rfl := Option.some.inj H
                   obtain ⟨Ao61, co61, eo61⟩ := Kd.R_slice HO_19.out
                   subst eo61
                   go_wp2_with (first | (go_at_call 29; (with_reducible refine (thrumlaw16_MlpTurns_1.calls _ _ t226 t238 _ ?side1 ?side2 A59.out).mono ?_); (case side1 => repeat (first | exact (Kd.R_reads' HO_19.out).2.2 | (with_reducible refine ccA ?_ _) | (with_reducible refine ccN ?_ _) | (with_reducible refine ccD ?_))); (case side2 => exact (Kd.R_reads' HO_19.out).2.1); rintro e w62 ⟨v239, rfl, ho0, hb⟩; have n0_ := Aside0.mk (Kd.R_elder' (by (with_reducible repeat (first | apply rrA | apply rrN | apply rrD)); exact HO_19.out) (Kd.R_base ho0) hb); have n1_ := Aside0.mk (Kd.R_elder' (by (with_reducible repeat (first | apply rrA | apply rrN | apply rrD)); exact HO_21.out) (Kd.R_base ho0) hb); have n2_ := Aside0.mk (Kd.R_lower (Kd.R_new' (Kd.R_new' (Kd.R_newM (M := fun k_ => (w.heap.size ≤ k_)) ho0 (zzS (by repeat (first | (with_reducible first | exact HB.out | apply zzA | apply zzN | apply zzD) | exact HB.out))) (fun k_ h_ => h_)) (Kd.R_lt (by (with_reducible repeat (first | apply rrA | apply rrN | apply rrD)); exact HO_19.out))) (Kd.R_lt (by (with_reducible repeat (first | apply rrA | apply rrN | apply rrD)); exact HO_21.out))) (zzS (by repeat (first | (with_reducible first | exact HB.out | apply zzA | apply zzN | apply zzD) | exact HB.out)))); have n3_ := Aside0.mk (Kd.C_below (by repeat (first | (with_reducible exact HR216_0.out) | (with_reducible refine ccA ?_ _) | (with_reducible refine ccN ?_ _) | (with_reducible refine ccD ?_) | exact HR216_0.out)) hb); have n4_ := Aside0.mk (Kd.C_below (by repeat (first | (with_reducible exact HR219_0.out) | (with_reducible refine ccA ?_ _) | (with_reducible refine ccN ?_ _) | (with_reducible refine ccD ?_) | exact HR219_0.out)) hb); have n5_ := Aside0.mk (Kd.C_below (by repeat (first | (with_reducible exact HR222_0.out) | (with_reducible refine ccA ?_ _) | (with_reducible refine ccN ?_ _) | (with_reducible refine ccD ?_) | exact HR222_0.out)) hb); have n6_ := Aside0.mk (Kd.C_below (by repeat (first | (with_reducible exact HR230_0.out) | (with_reducible refine ccA ?_ _) | (with_reducible refine ccN ?_ _) | (with_reducible refine ccD ?_) | exact HR230_0.out)) hb); have n7_ := Aside0.mk (zzT (by repeat (first | (with_reducible first | exact HB.out | apply zzA | apply zzN | apply zzD) | exact HB.out)) hb); clear HO_19; clear HO_21; clear HR216_0; clear HR219_0; clear HR222_0; clear HR230_0; clear HB; have HO_19 := n0_; have HO_21 := n1_; have HO240 := n2_; have HR216_0 := n3_; have HR219_0 := n4_; have HR222_0 := n5_; have HR230_0 := n6_; have HB := n7_; clear n0_ n1_ n2_ n3_ n4_ n5_ n6_ n7_; (try clear hb); (try clear hb2); (try clear hk); (try clear hi); (try clear ho0); obtain ⟨Ao63, co63, eo63⟩ := Kd.R_slice HO240.out; subst eo63; obtain ⟨Ao64, co64, eo64⟩ := Kd.R_slice HO_21.out; subst eo64) | (go_at_call 23; (with_reducible refine (thrumref02_Same.calls _ _ t238 _ _ t234 t241 _ ?side1 ?side2 ?side3 ?side4 A60.out).mono ?_); (case side1 => repeat (first | exact (Kd.R_reads' HO240.out).2.2 | (with_reducible refine ccA ?_ _) | (with_reducible refine ccN ?_ _) | (with_reducible refine ccD ?_))); (case side2 => exact (Kd.R_reads' HO240.out).2.1); (case side3 => repeat (first | exact (Kd.R_reads' HO_21.out).2.2 | (with_reducible refine ccA ?_ _) | (with_reducible refine ccN ?_ _) | (with_reducible refine ccD ?_))); (case side4 => exact (Kd.R_reads' HO_21.out).2.1); rintro e w' ⟨rfl, ⟨nd, rfl⟩⟩))
                   go_ret
                   exact ⟨by first | rfl | (simp [errW_none, errW_some] <;> rfl) | (simp [*, errW_none, errW_some] <;> rfl), by repeat (first | (with_reducible first | exact HB.out | apply zzA | apply zzN | apply zzD) | exact HB.out)⟩
                 ·
                  rw [if_neg c58] at H
                  exact absurd (Option.some.inj H) (by rw [HR_.out]; decide)
                ·
                 rw [if_neg c57] at H
                 have c57b0 : (t227 == 0) = false := beq_eq_false_iff_ne.mpr c57
                 have c57b1 : (t227 != 0) = true := bne_iff_ne.mpr c57
                 focus
                  obtain rfl := Option.some.inj H
                  go_wp2
                  go_ret
                  exact ⟨by first | rfl | (simp [errW_none, errW_some] <;> rfl) | (simp [*, errW_none, errW_some] <;> rfl), by repeat (first | (with_reducible first | exact HB.out | apply zzA | apply zzN | apply zzD) | exact HB.out)⟩
            ·
             rw [if_neg c37] at H
             exact absurd H (by simp)
        ·
         rw [if_neg c26] at H
         exact absurd H (by simp)
       ·
        rw [if_neg c25] at H
        exact absurd H (by simp)
      ·
       rw [if_neg c24] at H
       exact absurd H (by simp)
  ·
   replace c7 := Bool.eq_false_iff.mpr c7
   subst c7
   have H1 : (some true) = some r := by rw [if_neg (show ¬ (false = true) by decide)] at H; exact H
   clear H
   have H := H1
   clear H1
   focus
    obtain rfl := Option.some.inj H
    go_enter Try.func7, Try.ntmps7
    go_wp2_with (first | ((with_reducible refine gate_callee (f := 8) rfl ?_); refine goesL_ (some 23) rfl rfl Try.func8 (by kernel_rfl) rfl #[] rfl (by (try simp only [List.map_toArray, List.map_cons, List.map_nil]); first | done | rfl | (simp only [List.length_drop, List.length_take]; rfl)) ?_; (with_reducible refine (thrumlaw16_live.calls  true _ A4.out).mono ?_); rintro e w66 ⟨rfl, hb⟩; refine ⟨_, rfl, ?_⟩; have n0_ := Aside0.mk (Kd.V_below (by (with_reducible repeat (first | apply Kd.V_alloc | apply Kd.V_drewN | apply Kd.V_drew)); exact HO2.out) hb); have n1_ := Aside0.mk (zzT (by repeat (first | (with_reducible first | exact HB.out | apply zzA | apply zzN | apply zzD) | exact HB.out)) hb); clear HO2; clear HB; have HO2 := n0_; have HB := n1_; clear n0_ n1_; (try clear hb); (try clear hb2); (try clear hk); (try clear hi)) | ((with_reducible refine gate_callee (f := 9) rfl ?_); refine goesL_ (some 28) rfl rfl Try.func9 (by kernel_rfl) rfl #[.slice A0 l0.length c0, .slice A2 l2.length c2] rfl (by (try simp only [List.map_toArray, List.map_cons, List.map_nil]); first | done | rfl | (simp only [List.length_drop, List.length_take]; rfl)) ?_; (with_reducible refine (thrumref14_Few.calls _ _ l0 _ _ l2 false _ ?side1 ?side2 ?side3 ?side4 A6.out).mono ?_); (case side1 => repeat (first | exact (Kd.C_below HR0.out HB.out) | (with_reducible refine ccA ?_ _) | (with_reducible refine ccN ?_ _) | (with_reducible refine ccD ?_))); (case side2 => exact HC0.out); (case side3 => repeat (first | exact (Kd.V_reads' HO2.out).2.2 | (with_reducible refine ccA ?_ _) | (with_reducible refine ccN ?_ _) | (with_reducible refine ccD ?_))); (case side4 => exact (Kd.V_reads' HO2.out).2.1); rintro e w67 ⟨rfl, hb⟩; refine ⟨_, rfl, ?_⟩; have n0_ := Aside0.mk (Kd.V_below (by (with_reducible repeat (first | apply Kd.V_alloc | apply Kd.V_drewN | apply Kd.V_drew)); exact HO2.out) hb); have n1_ := Aside0.mk (zzT (by repeat (first | (with_reducible first | exact HB.out | apply zzA | apply zzN | apply zzD) | exact HB.out)) hb); clear HO2; clear HB; have HO2 := n0_; have HB := n1_; clear n0_ n1_; (try clear hb); (try clear hb2); (try clear hk); (try clear hi)))
    go_ret
    exact ⟨by first | rfl | (simp [errW_none, errW_some] <;> rfl) | (simp [*, errW_none, errW_some] <;> rfl), by repeat (first | (with_reducible first | exact HB.out | apply zzA | apply zzN | apply zzD) | exact HB.out)⟩
 ·
  replace c5 := Bool.eq_false_iff.mpr c5
  subst c5
  have H1 : (some false) = some r := by rw [if_neg (show ¬ (false = true) by decide)] at H; exact H
  exact absurd (Option.some.inj H1) (by rw [HR_.out]; decide)

/-- THE ONE PURE STATEMENT of thrumlaw16_MlpTurns: yours. -/
def thrumlaw16_MlpTurns.Pure : Prop := ∀ (l0 : List Int) (a1 : Int) (l2 : List (S26)), l0.length ≤ maxLen → l0.length * 8 ≤ 140737488351232 → (∀ x ∈ l0, (Lit.int .i64 x).wf = true) → (Lit.int .i64 a1).wf = true → (l2.length ≤ maxLen ∧ ∀ x__ ∈ l2, ((x__.f0.length ≤ maxLen ∧ ∀ x2__ ∈ x__.f0, (Lit.int .i64 x2__).wf = true) ∧ (Lit.int .i64 x__.f1).wf = true ∧ True)) → ∃ k, thrumlaw16_MlpTurns.f k l0 a1 l2 = some true
theorem thrumlaw16_MlpTurns.walk (P : thrumlaw16_MlpTurns.Pure) (a0 : Option Addr) (len0 cap0 : Nat) (z0 : List Int) (a1 : Int) (A2 : Option Addr) (c2 : Nat) (l2 : List (S26)) (w : World) (w0 : (a0 = none ∧ len0 = 0 ∧ cap0 = 0 ∧ z0 = []) ∨ ∃ x, a0 = some x ∧ len0 ≤ cap0 ∧ cap0 ≤ maxLen ∧ z0.length = cap0 ∧ (∀ i, i < z0.length → w.cell? (x.add i) = some (.int .i64 (z0.getD i 0))) ∧ ∀ n ∈ z0, (Lit.int .i64 n).wf = true) (y0 : len0 * 8 ≤ 140737488351232) (w1 : (Lit.int .i64 a1).wf = true) (hr2 : Kd.C k26 w A2 l2.length l2) (hc2 : l2.length ≤ c2) (hg2 : (l2.length ≤ maxLen ∧ ∀ x__ ∈ l2, ((x__.f0.length ≤ maxLen ∧ ∀ x2__ ∈ x__.f0, (Lit.int .i64 x2__).wf = true) ∧ (Lit.int .i64 x__.f1).wf = true ∧ True))) :
  Calls Try.prog 7 #[.slice a0 len0 cap0, .int .i64 a1, .slice A2 l2.length c2] w fun e w' => e = .returned (.bool true) ∧ Below w.heap.size w w' := by
 obtain ⟨l0, rfl, hr0, hm0, hw0, hc0⟩ := ReadsInt.ofRowC w0
 obtain ⟨k, h⟩ := P l0 a1 l2 hm0 y0 hw0 w1 hg2
 refine (thrumlaw16_MlpTurns.calls k _ _ l0 a1 (fun k_ => k_ < w.heap.size) _ _ l2 true w (Kd.C_of_reads (d := (0 : Int)) (h1 := fun _ => rfl) hr0) hc0 (Kd.V_mk hc2 (Kd.C_F k26_heap hr2)) h rfl).mono ?_
 rintro e w' ⟨rfl, hd⟩
 exact ⟨rfl, hd⟩



















































































































































































































































































































































































































































































































































































































































































































































































































































































































































































































































end Go.Proofs.Ytalamamjodihaaa.HP
