/- What Go functions do, each as a plain Lean function with the same answers, and the proof of it, in every world: printed by the session's driver over the kit's print, with texts by hand. -/
import Derived.Test.YtnhdeljkoackfaaHCx0
import Derived.Test.YtnhdeljkoackfaaHCx11
import Derived.Test.YtnhdeljkoackfaaHCx12
namespace Go.Proofs.Ytnhdeljkoackfaa.HC
open Go.RowKit Go.Proofs.YtnhdeljkoackfaaW.PrintWords Go.Proofs.YtnhdeljkoackfaaW.PrintLast Go.Proofs.YtnhdeljkoackfaaW.PrintMore
attribute [local go_sem] max2_int min2_int max_two min_two max_three min_three max_four min_four   -- for this text's walks alone
open Go.Proofs.Ytnhdeljkoackfaa.Sp
attribute [local go_sem] Go.Proofs.Ytnhdeljkoackfaa.Sp.u64_not
set_option linter.unusedVariables false
set_option linter.unusedSimpArgs false

/-! ### thrumref07_MayP: function 26 -/
mutual
def thrumref07_MayP.j0 : Nat → Bool → Int → Int → List Int → List Int → Int → Int → List Int → List Bool → Option (Bool)
 | 0, _, _, _, _, _, _, _, _, _ => none
 | k + 1, x15, x185000, x185001, x185002, x185003, x185004, x185005, x185006, x185007 => if x15 = true then (some false) else (if (x185002.length : Int) = 0 then (thrumref07_MayP.j1 k ((x185003.length : Int) == 0) x185000 x185001 x185002 x185003 x185004 x185005 x185006 x185007) else (thrumref07_MayP.j1 k false x185000 x185001 x185002 x185003 x185004 x185005 x185006 x185007))
def thrumref07_MayP.j1 : Nat → Bool → Int → Int → List Int → List Int → Int → Int → List Int → List Bool → Option (Bool)
 | 0, _, _, _, _, _, _, _, _, _ => none
 | k + 1, x3, x185000, x185001, x185002, x185003, x185004, x185005, x185006, x185007 => if x185005 = 0 then (thrumref07_MayP.j2 k x3 ((x185006.length : Int) == 0) x185000 x185001 x185002 x185003 x185004 x185005 x185006 x185007) else (thrumref07_MayP.j2 k x3 false x185000 x185001 x185002 x185003 x185004 x185005 x185006 x185007)
def thrumref07_MayP.j2 : Nat → Bool → Bool → Int → Int → List Int → List Int → Int → Int → List Int → List Bool → Option (Bool)
 | 0, _, _, _, _, _, _, _, _, _, _ => none
 | k + 1, x3, x4, x185000, x185001, x185002, x185003, x185004, x185005, x185006, x185007 => if x185004 = 0 then (thrumref07_MayP.j3 k x3 x4 ((x185007.length : Int) == 0) x185000 x185001 x185002 x185003 x185004 x185005 x185006 x185007) else (thrumref07_MayP.j3 k x3 x4 false x185000 x185001 x185002 x185003 x185004 x185005 x185006 x185007)
def thrumref07_MayP.j3 : Nat → Bool → Bool → Bool → Int → Int → List Int → List Int → Int → Int → List Int → List Bool → Option (Bool)
 | 0, _, _, _, _, _, _, _, _, _, _, _ => none
 | k + 1, x3, x4, x5, x185000, x185001, x185002, x185003, x185004, x185005, x185006, x185007 => if x185000 = 0 then (if (x185002.length : Int) = 0 then (if (x185003.length : Int) = x185001 then (if x4 = true then (some x5) else (some false)) else (some false)) else (some false)) else (if x185000 = 1 then ((thrumref06_Check.f x185001 x185002).bind fun t185 => (if t185 = 0 then (if (x185003.length : Int) = (x185002.length : Int) then (if x4 = true then (some x5) else (some false)) else (some false)) else (some false))) else (if x185000 = 2 then (if x185005 < 1 then (thrumref07_MayP.j4 k x3 true x185000 x185001 x185002 x185003 x185004 x185005 x185006 x185007) else (if x185005 > 8 then (thrumref07_MayP.j4 k x3 true x185000 x185001 x185002 x185003 x185004 x185005 x185006 x185007) else (thrumref07_MayP.j4 k x3 ((x185006.length : Int) != x185001) x185000 x185001 x185002 x185003 x185004 x185005 x185006 x185007))) else (if x185000 = 3 then (if x3 = true then (if x4 = true then (if x185004 ≥ 0 then (some ((x185007.length : Int) == x185001)) else (some false)) else (some false)) else (some false)) else (some false))))
def thrumref07_MayP.j4 : Nat → Bool → Bool → Int → Int → List Int → List Int → Int → Int → List Int → List Bool → Option (Bool)
 | 0, _, _, _, _, _, _, _, _, _, _ => none
 | k + 1, x3, x106, x185000, x185001, x185002, x185003, x185004, x185005, x185006, x185007 => if x106 = true then (some false) else (thrumref07_MayP.l0 k x3 x185006 (x185006.length : Int) 0 x185000 x185001 x185002 x185003 x185004 x185005 x185006 x185007)
def thrumref07_MayP.l0 : Nat → Bool → List Int → Int → Int → Int → Int → List Int → List Int → Int → Int → List Int → List Bool → Option (Bool)
 | 0, _, _, _, _, _, _, _, _, _, _, _, _ => none
 | k + 1, x3, x108, x109, x110, x185000, x185001, x185002, x185003, x185004, x185005, x185006, x185007 => if x110 < x109 then (if 0 ≤ x110 then (if x110 < (x108.length : Int) then ((thrumref05_Width.f (rd x108 x110)).bind fun t187 => (if t187 > x185005 then (some false) else (thrumref07_MayP.l0 k x3 x108 x109 (wrap64 (x110 + 1)) x185000 x185001 x185002 x185003 x185004 x185005 x185006 x185007))) else (none)) else (none)) else (if x3 = true then (if x185004 ≥ 0 then (some ((x185007.length : Int) == x185001)) else (some false)) else (some false))
end
def thrumref07_MayP.f (k : Nat) (a0_0 : Int) (a0_1 : Int) (l0_2 : List Int) (l0_3 : List Int) (a0_4 : Int) (a0_5 : Int) (l0_6 : List Int) (l0_7 : List Bool) : Option (Bool) := if a0_1 < 1 then (thrumref07_MayP.j0 k true a0_0 a0_1 l0_2 l0_3 a0_4 a0_5 l0_6 l0_7) else (thrumref07_MayP.j0 k (decide (a0_1 > 4096)) a0_0 a0_1 l0_2 l0_3 a0_4 a0_5 l0_6 l0_7)
theorem thrumref07_MayP.mono_l : ∀ k, (∀ y0 y1 y2 y3 y4 y5 y6 y7 y8, LeO (thrumref07_MayP.j0 k y0 y1 y2 y3 y4 y5 y6 y7 y8) (thrumref07_MayP.j0 (k + 1) y0 y1 y2 y3 y4 y5 y6 y7 y8)) ∧ (∀ y0 y1 y2 y3 y4 y5 y6 y7 y8, LeO (thrumref07_MayP.j1 k y0 y1 y2 y3 y4 y5 y6 y7 y8) (thrumref07_MayP.j1 (k + 1) y0 y1 y2 y3 y4 y5 y6 y7 y8)) ∧ (∀ y0 y1 y2 y3 y4 y5 y6 y7 y8 y9, LeO (thrumref07_MayP.j2 k y0 y1 y2 y3 y4 y5 y6 y7 y8 y9) (thrumref07_MayP.j2 (k + 1) y0 y1 y2 y3 y4 y5 y6 y7 y8 y9)) ∧ (∀ y0 y1 y2 y3 y4 y5 y6 y7 y8 y9 y10, LeO (thrumref07_MayP.j3 k y0 y1 y2 y3 y4 y5 y6 y7 y8 y9 y10) (thrumref07_MayP.j3 (k + 1) y0 y1 y2 y3 y4 y5 y6 y7 y8 y9 y10)) ∧ (∀ y0 y1 y2 y3 y4 y5 y6 y7 y8 y9, LeO (thrumref07_MayP.j4 k y0 y1 y2 y3 y4 y5 y6 y7 y8 y9) (thrumref07_MayP.j4 (k + 1) y0 y1 y2 y3 y4 y5 y6 y7 y8 y9)) ∧ (∀ y0 y1 y2 y3 y4 y5 y6 y7 y8 y9 y10 y11, LeO (thrumref07_MayP.l0 k y0 y1 y2 y3 y4 y5 y6 y7 y8 y9 y10 y11) (thrumref07_MayP.l0 (k + 1) y0 y1 y2 y3 y4 y5 y6 y7 y8 y9 y10 y11))
 | 0 => ⟨fun _ _ _ _ _ _ _ _ _ r h => by simp [thrumref07_MayP.j0] at h, fun _ _ _ _ _ _ _ _ _ r h => by simp [thrumref07_MayP.j1] at h, fun _ _ _ _ _ _ _ _ _ _ r h => by simp [thrumref07_MayP.j2] at h, fun _ _ _ _ _ _ _ _ _ _ _ r h => by simp [thrumref07_MayP.j3] at h, fun _ _ _ _ _ _ _ _ _ _ r h => by simp [thrumref07_MayP.j4] at h, fun _ _ _ _ _ _ _ _ _ _ _ _ r h => by simp [thrumref07_MayP.l0] at h⟩
 | k + 1 => by
  obtain ⟨ih0, ih1, ih2, ih3, ih4, ih5⟩ := thrumref07_MayP.mono_l k
  refine ⟨?_, ?_, ?_, ?_, ?_, ?_⟩
  ·
   intro y0 y1 y2 y3 y4 y5 y6 y7 y8
   unfold thrumref07_MayP.j0
   repeat' first
   | (with_reducible exact ih0 _ _ _ _ _ _ _ _ _)
   | (with_reducible exact ih1 _ _ _ _ _ _ _ _ _)
   | (with_reducible exact ih2 _ _ _ _ _ _ _ _ _ _)
   | (with_reducible exact ih3 _ _ _ _ _ _ _ _ _ _ _)
   | (with_reducible exact ih4 _ _ _ _ _ _ _ _ _ _)
   | (with_reducible exact ih5 _ _ _ _ _ _ _ _ _ _ _ _)
   | (with_reducible exact LeO.refl _)
   | (with_reducible exact LeO.none _)
   | (with_reducible refine LeO.ite ?_ ?_)
   | (with_reducible refine LeO.bind ?_ (fun _ => ?_))
   | exact ih0 _ _ _ _ _ _ _ _ _
   | exact ih1 _ _ _ _ _ _ _ _ _
   | exact ih2 _ _ _ _ _ _ _ _ _ _
   | exact ih3 _ _ _ _ _ _ _ _ _ _ _
   | exact ih4 _ _ _ _ _ _ _ _ _ _
   | exact ih5 _ _ _ _ _ _ _ _ _ _ _ _
   | exact LeO.none _
   | refine LeO.ite ?_ ?_
   | refine LeO.bind ?_ (fun _ => ?_)
  ·
   intro y0 y1 y2 y3 y4 y5 y6 y7 y8
   unfold thrumref07_MayP.j1
   repeat' first
   | (with_reducible exact ih0 _ _ _ _ _ _ _ _ _)
   | (with_reducible exact ih1 _ _ _ _ _ _ _ _ _)
   | (with_reducible exact ih2 _ _ _ _ _ _ _ _ _ _)
   | (with_reducible exact ih3 _ _ _ _ _ _ _ _ _ _ _)
   | (with_reducible exact ih4 _ _ _ _ _ _ _ _ _ _)
   | (with_reducible exact ih5 _ _ _ _ _ _ _ _ _ _ _ _)
   | (with_reducible exact LeO.refl _)
   | (with_reducible exact LeO.none _)
   | (with_reducible refine LeO.ite ?_ ?_)
   | (with_reducible refine LeO.bind ?_ (fun _ => ?_))
   | exact ih0 _ _ _ _ _ _ _ _ _
   | exact ih1 _ _ _ _ _ _ _ _ _
   | exact ih2 _ _ _ _ _ _ _ _ _ _
   | exact ih3 _ _ _ _ _ _ _ _ _ _ _
   | exact ih4 _ _ _ _ _ _ _ _ _ _
   | exact ih5 _ _ _ _ _ _ _ _ _ _ _ _
   | exact LeO.none _
   | refine LeO.ite ?_ ?_
   | refine LeO.bind ?_ (fun _ => ?_)
  ·
   intro y0 y1 y2 y3 y4 y5 y6 y7 y8 y9
   unfold thrumref07_MayP.j2
   repeat' first
   | (with_reducible exact ih0 _ _ _ _ _ _ _ _ _)
   | (with_reducible exact ih1 _ _ _ _ _ _ _ _ _)
   | (with_reducible exact ih2 _ _ _ _ _ _ _ _ _ _)
   | (with_reducible exact ih3 _ _ _ _ _ _ _ _ _ _ _)
   | (with_reducible exact ih4 _ _ _ _ _ _ _ _ _ _)
   | (with_reducible exact ih5 _ _ _ _ _ _ _ _ _ _ _ _)
   | (with_reducible exact LeO.refl _)
   | (with_reducible exact LeO.none _)
   | (with_reducible refine LeO.ite ?_ ?_)
   | (with_reducible refine LeO.bind ?_ (fun _ => ?_))
   | exact ih0 _ _ _ _ _ _ _ _ _
   | exact ih1 _ _ _ _ _ _ _ _ _
   | exact ih2 _ _ _ _ _ _ _ _ _ _
   | exact ih3 _ _ _ _ _ _ _ _ _ _ _
   | exact ih4 _ _ _ _ _ _ _ _ _ _
   | exact ih5 _ _ _ _ _ _ _ _ _ _ _ _
   | exact LeO.none _
   | refine LeO.ite ?_ ?_
   | refine LeO.bind ?_ (fun _ => ?_)
  ·
   intro y0 y1 y2 y3 y4 y5 y6 y7 y8 y9 y10
   unfold thrumref07_MayP.j3
   repeat' first
   | (with_reducible exact ih0 _ _ _ _ _ _ _ _ _)
   | (with_reducible exact ih1 _ _ _ _ _ _ _ _ _)
   | (with_reducible exact ih2 _ _ _ _ _ _ _ _ _ _)
   | (with_reducible exact ih3 _ _ _ _ _ _ _ _ _ _ _)
   | (with_reducible exact ih4 _ _ _ _ _ _ _ _ _ _)
   | (with_reducible exact ih5 _ _ _ _ _ _ _ _ _ _ _ _)
   | (with_reducible exact LeO.refl _)
   | (with_reducible exact LeO.none _)
   | (with_reducible refine LeO.ite ?_ ?_)
   | (with_reducible refine LeO.bind ?_ (fun _ => ?_))
   | exact ih0 _ _ _ _ _ _ _ _ _
   | exact ih1 _ _ _ _ _ _ _ _ _
   | exact ih2 _ _ _ _ _ _ _ _ _ _
   | exact ih3 _ _ _ _ _ _ _ _ _ _ _
   | exact ih4 _ _ _ _ _ _ _ _ _ _
   | exact ih5 _ _ _ _ _ _ _ _ _ _ _ _
   | exact LeO.none _
   | refine LeO.ite ?_ ?_
   | refine LeO.bind ?_ (fun _ => ?_)
  ·
   intro y0 y1 y2 y3 y4 y5 y6 y7 y8 y9
   unfold thrumref07_MayP.j4
   repeat' first
   | (with_reducible exact ih0 _ _ _ _ _ _ _ _ _)
   | (with_reducible exact ih1 _ _ _ _ _ _ _ _ _)
   | (with_reducible exact ih2 _ _ _ _ _ _ _ _ _ _)
   | (with_reducible exact ih3 _ _ _ _ _ _ _ _ _ _ _)
   | (with_reducible exact ih4 _ _ _ _ _ _ _ _ _ _)
   | (with_reducible exact ih5 _ _ _ _ _ _ _ _ _ _ _ _)
   | (with_reducible exact LeO.refl _)
   | (with_reducible exact LeO.none _)
   | (with_reducible refine LeO.ite ?_ ?_)
   | (with_reducible refine LeO.bind ?_ (fun _ => ?_))
   | exact ih0 _ _ _ _ _ _ _ _ _
   | exact ih1 _ _ _ _ _ _ _ _ _
   | exact ih2 _ _ _ _ _ _ _ _ _ _
   | exact ih3 _ _ _ _ _ _ _ _ _ _ _
   | exact ih4 _ _ _ _ _ _ _ _ _ _
   | exact ih5 _ _ _ _ _ _ _ _ _ _ _ _
   | exact LeO.none _
   | refine LeO.ite ?_ ?_
   | refine LeO.bind ?_ (fun _ => ?_)
  ·
   intro y0 y1 y2 y3 y4 y5 y6 y7 y8 y9 y10 y11
   unfold thrumref07_MayP.l0
   repeat' first
   | (with_reducible exact ih0 _ _ _ _ _ _ _ _ _)
   | (with_reducible exact ih1 _ _ _ _ _ _ _ _ _)
   | (with_reducible exact ih2 _ _ _ _ _ _ _ _ _ _)
   | (with_reducible exact ih3 _ _ _ _ _ _ _ _ _ _ _)
   | (with_reducible exact ih4 _ _ _ _ _ _ _ _ _ _)
   | (with_reducible exact ih5 _ _ _ _ _ _ _ _ _ _ _ _)
   | (with_reducible exact LeO.refl _)
   | (with_reducible exact LeO.none _)
   | (with_reducible refine LeO.ite ?_ ?_)
   | (with_reducible refine LeO.bind ?_ (fun _ => ?_))
   | exact ih0 _ _ _ _ _ _ _ _ _
   | exact ih1 _ _ _ _ _ _ _ _ _
   | exact ih2 _ _ _ _ _ _ _ _ _ _
   | exact ih3 _ _ _ _ _ _ _ _ _ _ _
   | exact ih4 _ _ _ _ _ _ _ _ _ _
   | exact ih5 _ _ _ _ _ _ _ _ _ _ _ _
   | exact LeO.none _
   | refine LeO.ite ?_ ?_
   | refine LeO.bind ?_ (fun _ => ?_)
theorem thrumref07_MayP.mono : ∀ a0 a1 a2 a3 a4 a5 a6 a7 k, LeO (thrumref07_MayP.f k a0 a1 a2 a3 a4 a5 a6 a7) (thrumref07_MayP.f (k + 1) a0 a1 a2 a3 a4 a5 a6 a7) := by
 intro a0 a1 a2 a3 a4 a5 a6 a7 k
 obtain ⟨ih0, ih1, ih2, ih3, ih4, ih5⟩ := thrumref07_MayP.mono_l k
 unfold thrumref07_MayP.f
 repeat' first
   | (with_reducible exact ih0 _ _ _ _ _ _ _ _ _)
   | (with_reducible exact ih1 _ _ _ _ _ _ _ _ _)
   | (with_reducible exact ih2 _ _ _ _ _ _ _ _ _ _)
   | (with_reducible exact ih3 _ _ _ _ _ _ _ _ _ _ _)
   | (with_reducible exact ih4 _ _ _ _ _ _ _ _ _ _)
   | (with_reducible exact ih5 _ _ _ _ _ _ _ _ _ _ _ _)
   | (with_reducible exact LeO.refl _)
   | (with_reducible exact LeO.none _)
   | (with_reducible refine LeO.ite ?_ ?_)
   | (with_reducible refine LeO.bind ?_ (fun _ => ?_))
   | exact ih0 _ _ _ _ _ _ _ _ _
   | exact ih1 _ _ _ _ _ _ _ _ _
   | exact ih2 _ _ _ _ _ _ _ _ _ _
   | exact ih3 _ _ _ _ _ _ _ _ _ _ _
   | exact ih4 _ _ _ _ _ _ _ _ _ _
   | exact ih5 _ _ _ _ _ _ _ _ _ _ _ _
   | exact LeO.none _
   | refine LeO.ite ?_ ?_
   | refine LeO.bind ?_ (fun _ => ?_)
set_option maxHeartbeats 8000000 in
set_option maxRecDepth 100000 in
theorem thrumref07_MayP.calls (k : Nat) (a0_0 : Int) (a0_1 : Int) (A0_2 : Option Addr) (c0_2 : Nat) (l0_2 : List Int) (A0_3 : Option Addr) (c0_3 : Nat) (l0_3 : List Int) (a0_4 : Int) (a0_5 : Int) (A0_6 : Option Addr) (c0_6 : Nat) (l0_6 : List Int) (A0_7 : Option Addr) (c0_7 : Nat) (l0_7 : List Bool) (r : Bool) (w : World) (hr0_2 : Kd.C (Kd.int .i64) w A0_2 l0_2.length l0_2) (hc0_2 : l0_2.length ≤ c0_2) (hr0_3 : Kd.C (Kd.int .i64) w A0_3 l0_3.length l0_3) (hc0_3 : l0_3.length ≤ c0_3) (hr0_6 : Kd.C (Kd.int .u64) w A0_6 l0_6.length l0_6) (hc0_6 : l0_6.length ≤ c0_6) (hr0_7 : Kd.C Kd.bool w A0_7 l0_7.length l0_7) (hc0_7 : l0_7.length ≤ c0_7) (h : thrumref07_MayP.f k a0_0 a0_1 l0_2 l0_3 a0_4 a0_5 l0_6 l0_7 = some r) :
  Calls Try.prog 26 #[.agg #[.int .i64 a0_0, .int .i64 a0_1, .slice A0_2 l0_2.length c0_2, .slice A0_3 l0_3.length c0_3, .int .i64 a0_4, .int .i64 a0_5, .slice A0_6 l0_6.length c0_6, .slice A0_7 l0_7.length c0_7]] w fun e w' => e = .returned (.bool r) ∧ Below w.heap.size w w' := by
 have hu29 := Try.underlying29
 have HR0_2 := Aside0.mk hr0_2
 have HC0_2 := Aside0.mk hc0_2
 clear hr0_2 hc0_2
 have HR0_3 := Aside0.mk hr0_3
 have HC0_3 := Aside0.mk hc0_3
 clear hr0_3 hc0_3
 have HR0_6 := Aside0.mk hr0_6
 have HC0_6 := Aside0.mk hc0_6
 clear hr0_6 hc0_6
 have HR0_7 := Aside0.mk hr0_7
 have HC0_7 := Aside0.mk hc0_7
 clear hr0_7 hc0_7
 have HB := Aside0.mk (Below.refl w.heap.size w)
 have H : (if a0_1 < 1 then (thrumref07_MayP.j0 k true a0_0 a0_1 l0_2 l0_3 a0_4 a0_5 l0_6 l0_7) else (thrumref07_MayP.j0 k (decide (a0_1 > 4096)) a0_0 a0_1 l0_2 l0_3 a0_4 a0_5 l0_6 l0_7)) = some r := h
 clear h
 have HC2 := Aside0.mk H
 clear H
 go_enter Try.func26, Try.ntmps26
 go_upto_region 1 with (first | ((with_reducible refine gate_dst (N := 1) rfl ?_); (try (refine gate_guard (by rfl) ?_; dsimp only)); refine box_event ?hg (N := 1) ?hd (cs := #[.int .i64 a0_0, .int .i64 a0_1, .slice A0_2 l0_2.length c0_2, .slice A0_3 l0_3.length c0_3, .int .i64 a0_4, .int .i64 a0_5, .slice A0_6 l0_6.length c0_6, .slice A0_7 l0_7.length c0_7]) (t := 29) ?hr ?_; (case hd => rfl); (case hg => rfl); (case hr => first | (go_simp; done) | (go_simp; rfl)); intro gb184 hg w3 hbox hb; have n0_ := Aside0.mk (below_step (by repeat (first | (with_reducible first | exact HB.out | apply below_alloc | apply pw_below_drewN | apply below_drew1) | exact HB.out)) hb); have n1_ := Aside0.mk (hbox); have n2_ := Aside0.mk ((by rw [hg]; exact (below_size (by repeat (first | (with_reducible first | exact HB.out | apply below_alloc | apply pw_below_drewN | apply below_drew1) | exact HB.out))) : w.heap.size ≤ gb184)); have n3_ := Aside0.mk ((by rw [hg]; exact (below_size (by repeat (first | (with_reducible first | exact HB.out | apply below_alloc | apply pw_below_drewN | apply below_drew1) | exact HB.out))) : w.heap.size ≤ gb184)); clear HB; have HB := n0_; have BK184 := n1_; have GW184 := n2_; have GE184 := n3_; clear n0_ n1_ n2_ n3_; clear hb hbox hg))
 repeat (go_quiet (first | ((with_reducible refine gate_dst (N := 1) rfl ?_); (try (refine gate_guard (by rfl) ?_; dsimp only)); refine box_event ?hg (N := 1) ?hd (cs := #[.int .i64 a0_0, .int .i64 a0_1, .slice A0_2 l0_2.length c0_2, .slice A0_3 l0_3.length c0_3, .int .i64 a0_4, .int .i64 a0_5, .slice A0_6 l0_6.length c0_6, .slice A0_7 l0_7.length c0_7]) (t := 29) ?hr ?_; (case hd => rfl); (case hg => rfl); (case hr => first | (go_simp; done) | (go_simp; rfl)); intro gb184 hg w3 hbox hb; have n0_ := Aside0.mk (below_step (by repeat (first | (with_reducible first | exact HB.out | apply below_alloc | apply pw_below_drewN | apply below_drew1) | exact HB.out)) hb); have n1_ := Aside0.mk (hbox); have n2_ := Aside0.mk ((by rw [hg]; exact (below_size (by repeat (first | (with_reducible first | exact HB.out | apply below_alloc | apply pw_below_drewN | apply below_drew1) | exact HB.out))) : w.heap.size ≤ gb184)); have n3_ := Aside0.mk ((by rw [hg]; exact (below_size (by repeat (first | (with_reducible first | exact HB.out | apply below_alloc | apply pw_below_drewN | apply below_drew1) | exact HB.out))) : w.heap.size ≤ gb184)); clear HB; have HB := n0_; have BK184 := n1_; have GW184 := n2_; have GE184 := n3_; clear n0_ n1_ n2_ n3_; clear hb hbox hg)); go_upto_region 1 with (first | ((with_reducible refine gate_dst (N := 1) rfl ?_); (try (refine gate_guard (by rfl) ?_; dsimp only)); refine box_event ?hg (N := 1) ?hd (cs := #[.int .i64 a0_0, .int .i64 a0_1, .slice A0_2 l0_2.length c0_2, .slice A0_3 l0_3.length c0_3, .int .i64 a0_4, .int .i64 a0_5, .slice A0_6 l0_6.length c0_6, .slice A0_7 l0_7.length c0_7]) (t := 29) ?hr ?_; (case hd => rfl); (case hg => rfl); (case hr => first | (go_simp; done) | (go_simp; rfl)); intro gb184 hg w3 hbox hb; have n0_ := Aside0.mk (below_step (by repeat (first | (with_reducible first | exact HB.out | apply below_alloc | apply pw_below_drewN | apply below_drew1) | exact HB.out)) hb); have n1_ := Aside0.mk (hbox); have n2_ := Aside0.mk ((by rw [hg]; exact (below_size (by repeat (first | (with_reducible first | exact HB.out | apply below_alloc | apply pw_below_drewN | apply below_drew1) | exact HB.out))) : w.heap.size ≤ gb184)); have n3_ := Aside0.mk ((by rw [hg]; exact (below_size (by repeat (first | (with_reducible first | exact HB.out | apply below_alloc | apply pw_below_drewN | apply below_drew1) | exact HB.out))) : w.heap.size ≤ gb184)); clear HB; have HB := n0_; have BK184 := n1_; have GW184 := n2_; have GE184 := n3_; clear n0_ n1_ n2_ n3_; clear hb hbox hg)))
 (try simp only [Act.put, List.setIfInBounds_toArray, List.set_cons_zero, List.set_cons_succ])
 go_cut [15] (fun v15 wc => ∃ (kq : Nat) (x15_1 : Bool), v15 = .bool x15_1 ∧ Aside0 (thrumref07_MayP.j0 kq x15_1 a0_0 a0_1 l0_2 l0_3 a0_4 a0_5 l0_6 l0_7 = some r) ∧ Aside0 (kq ≤ k) ∧ Aside0 (wc.heap[gb184]? = some (.cells #[.int .i64 a0_0, .int .i64 a0_1, (.slice A0_2 l0_2.length c0_2), (.slice A0_3 l0_3.length c0_3), .int .i64 a0_4, .int .i64 a0_5, (.slice A0_6 l0_6.length c0_6), (.slice A0_7 l0_7.length c0_7)] 29 (0, 0))) ∧ Aside0 (Below w.heap.size w wc))
 case first =>
  have H := HC2.out
  clear HC2
  by_cases c4 : a0_1 < 1
  ·
   rw [if_pos c4] at H
   have c4b0 : decide (a0_1 < 1) = true := decide_eq_true c4
   clear c4
   (first | rw [c4b0] | (simp only [i64_w, i32_w]; rw [c4b0]) | skip)
   have H' := Aside0.mk H
   clear H
   have hcz5_0 : w3.cell? ⟨gb184, 0, none⟩ = some (.int .i64 a0_0) := (blk_cell BK184.out 0).trans rfl
   have hcz5_1 : w3.cell? ⟨gb184, 1, none⟩ = some (.int .i64 a0_1) := (blk_cell BK184.out 1).trans rfl
   have hcz5_2 : w3.cell? ⟨gb184, 2, none⟩ = some (.slice A0_2 l0_2.length c0_2) := (blk_cell BK184.out 2).trans rfl
   have hcz5_3 : w3.cell? ⟨gb184, 3, none⟩ = some (.slice A0_3 l0_3.length c0_3) := (blk_cell BK184.out 3).trans rfl
   have hcz5_4 : w3.cell? ⟨gb184, 4, none⟩ = some (.int .i64 a0_4) := (blk_cell BK184.out 4).trans rfl
   have hcz5_5 : w3.cell? ⟨gb184, 5, none⟩ = some (.int .i64 a0_5) := (blk_cell BK184.out 5).trans rfl
   have hcz5_6 : w3.cell? ⟨gb184, 6, none⟩ = some (.slice A0_6 l0_6.length c0_6) := (blk_cell BK184.out 6).trans rfl
   have hcz5_7 : w3.cell? ⟨gb184, 7, none⟩ = some (.slice A0_7 l0_7.length c0_7) := (blk_cell BK184.out 7).trans rfl
   have hfz5_0 := blk_frozen BK184.out 0
   have hfz5_1 := blk_frozen BK184.out 1
   have hfz5_2 := blk_frozen BK184.out 2
   have hfz5_3 := blk_frozen BK184.out 3
   have hfz5_4 := blk_frozen BK184.out 4
   have hfz5_5 := blk_frozen BK184.out 5
   have hfz5_6 := blk_frozen BK184.out 6
   have hfz5_7 := blk_frozen BK184.out 7
   go_wp2
   repeat (go_quiet (fail); try go_wp2)
   go_meet
   case rel => exact ⟨_, (true), (by first | rfl | (simp; done) | (simp [*]; done)), H', ⟨by first | omega | exact Nat.le_refl _⟩, ⟨by (with_reducible repeat (first | refine blk_drewN ?_ _ | refine blk_drew ?_ | refine blk_alloc ?_ _)); exact BK184.out⟩, ⟨by repeat (first | (with_reducible first | exact HB.out | apply below_alloc | apply pw_below_drewN | apply below_drew1 | refine below_set ?_ GE184.out) | exact HB.out)⟩⟩
  ·
   rw [if_neg c4] at H
   have c4b0 : decide (a0_1 < 1) = false := decide_eq_false c4
   clear c4
   (first | rw [c4b0] | (simp only [i64_w, i32_w]; rw [c4b0]) | skip)
   have H' := Aside0.mk H
   clear H
   have hcz6_0 : w3.cell? ⟨gb184, 0, none⟩ = some (.int .i64 a0_0) := (blk_cell BK184.out 0).trans rfl
   have hcz6_1 : w3.cell? ⟨gb184, 1, none⟩ = some (.int .i64 a0_1) := (blk_cell BK184.out 1).trans rfl
   have hcz6_2 : w3.cell? ⟨gb184, 2, none⟩ = some (.slice A0_2 l0_2.length c0_2) := (blk_cell BK184.out 2).trans rfl
   have hcz6_3 : w3.cell? ⟨gb184, 3, none⟩ = some (.slice A0_3 l0_3.length c0_3) := (blk_cell BK184.out 3).trans rfl
   have hcz6_4 : w3.cell? ⟨gb184, 4, none⟩ = some (.int .i64 a0_4) := (blk_cell BK184.out 4).trans rfl
   have hcz6_5 : w3.cell? ⟨gb184, 5, none⟩ = some (.int .i64 a0_5) := (blk_cell BK184.out 5).trans rfl
   have hcz6_6 : w3.cell? ⟨gb184, 6, none⟩ = some (.slice A0_6 l0_6.length c0_6) := (blk_cell BK184.out 6).trans rfl
   have hcz6_7 : w3.cell? ⟨gb184, 7, none⟩ = some (.slice A0_7 l0_7.length c0_7) := (blk_cell BK184.out 7).trans rfl
   have hfz6_0 := blk_frozen BK184.out 0
   have hfz6_1 := blk_frozen BK184.out 1
   have hfz6_2 := blk_frozen BK184.out 2
   have hfz6_3 := blk_frozen BK184.out 3
   have hfz6_4 := blk_frozen BK184.out 4
   have hfz6_5 := blk_frozen BK184.out 5
   have hfz6_6 := blk_frozen BK184.out 6
   have hfz6_7 := blk_frozen BK184.out 7
   go_wp2
   repeat (go_quiet (fail); try go_wp2)
   go_meet
   case rel => exact ⟨_, (decide (a0_1 > 4096)), (by first | rfl | (simp; done) | (simp [*]; done)), H', ⟨by first | omega | exact Nat.le_refl _⟩, ⟨by (with_reducible repeat (first | refine blk_drewN ?_ _ | refine blk_drew ?_ | refine blk_alloc ?_ _)); exact BK184.out⟩, ⟨by repeat (first | (with_reducible first | exact HB.out | apply below_alloc | apply pw_below_drewN | apply below_drew1 | refine below_set ?_ GE184.out) | exact HB.out)⟩⟩
 case rest =>
  clear HC2
  try clear c2
  try clear p2
  try clear c4
  try clear c4b0
  try clear hcz5_0
  try clear hcz5_1
  try clear hcz5_2
  try clear hcz5_3
  try clear hcz5_4
  try clear hcz5_5
  try clear hcz5_6
  try clear hcz5_7
  try clear hcz6_0
  try clear hcz6_1
  try clear hcz6_2
  try clear hcz6_3
  try clear hcz6_4
  try clear hcz6_5
  try clear hcz6_6
  try clear hcz6_7
  try clear hfz5_0
  try clear hfz5_1
  try clear hfz5_2
  try clear hfz5_3
  try clear hfz5_4
  try clear hfz5_5
  try clear hfz5_6
  try clear hfz5_7
  try clear hfz6_0
  try clear hfz6_1
  try clear hfz6_2
  try clear hfz6_3
  try clear hfz6_4
  try clear hfz6_5
  try clear hfz6_6
  try clear hfz6_7
  obtain ⟨kq, x15_1, rfl, HA, HJ1, BK184, HB⟩ := hcut
  cases kq with
  | zero => exact absurd HA.out (by simp [thrumref07_MayP.j0])
  | succ kj1 =>
   have H := HA.out
   clear HA
   simp only [thrumref07_MayP.j0] at H
   by_cases c7 : x15_1 = true
   ·
    subst c7
    have H1 : (some false) = some r := by rw [if_pos rfl] at H; exact H
    clear H
    have H := H1
    clear H1
    obtain rfl := Option.some.inj H
    go_wp2
    repeat (go_quiet (fail); try go_wp2)
    go_ret
    exact ⟨by first | rfl | (simp [errW_none, errW_some] <;> rfl) | (simp [*, errW_none, errW_some] <;> rfl), by repeat (first | (with_reducible first | exact HB.out | apply below_alloc | apply pw_below_drewN | apply below_drew1 | refine below_set ?_ GE184.out) | exact HB.out)⟩
   ·
    replace c7 := Bool.eq_false_iff.mpr c7
    subst c7
    have H1 : (if (l0_2.length : Int) = 0 then (thrumref07_MayP.j1 kj1 ((l0_3.length : Int) == 0) a0_0 a0_1 l0_2 l0_3 a0_4 a0_5 l0_6 l0_7) else (thrumref07_MayP.j1 kj1 false a0_0 a0_1 l0_2 l0_3 a0_4 a0_5 l0_6 l0_7)) = some r := by rw [if_neg (show ¬ (false = true) by decide)] at H; exact H
    clear H
    have H := H1
    clear H1
    have HC8 := Aside0.mk H
    clear H
    go_upto_region 3 with (fail)
    repeat (go_quiet (fail); go_upto_region 3 with (fail))
    go_cut [3] (fun v3 wc => ∃ (kq : Nat) (x3_7 : Bool), v3 = .bool x3_7 ∧ Aside0 (thrumref07_MayP.j1 kq x3_7 a0_0 a0_1 l0_2 l0_3 a0_4 a0_5 l0_6 l0_7 = some r) ∧ Aside0 (kq ≤ kj1) ∧ Aside0 (wc.heap[gb184]? = some (.cells #[.int .i64 a0_0, .int .i64 a0_1, (.slice A0_2 l0_2.length c0_2), (.slice A0_3 l0_3.length c0_3), .int .i64 a0_4, .int .i64 a0_5, (.slice A0_6 l0_6.length c0_6), (.slice A0_7 l0_7.length c0_7)] 29 (0, 0))) ∧ Aside0 (Below w.heap.size w wc))
    case first =>
     have H := HC8.out
     clear HC8
     by_cases c9 : (l0_2.length : Int) = 0
     ·
      rw [if_pos c9] at H
      have c9b0 : ((l0_2.length : Int) == 0) = true := beq_iff_eq.mpr c9
      have c9b1 : ((l0_2.length : Int) != 0) = false := bne_eq_false_iff_eq.mpr c9
      clear c9
      (first | rw [c9b0] | (simp only [i64_w, i32_w]; rw [c9b0]) | skip)
      have H' := Aside0.mk H
      clear H
      have hcz10_0 : wc.cell? ⟨gb184, 0, none⟩ = some (.int .i64 a0_0) := (blk_cell BK184.out 0).trans rfl
      have hcz10_1 : wc.cell? ⟨gb184, 1, none⟩ = some (.int .i64 a0_1) := (blk_cell BK184.out 1).trans rfl
      have hcz10_2 : wc.cell? ⟨gb184, 2, none⟩ = some (.slice A0_2 l0_2.length c0_2) := (blk_cell BK184.out 2).trans rfl
      have hcz10_3 : wc.cell? ⟨gb184, 3, none⟩ = some (.slice A0_3 l0_3.length c0_3) := (blk_cell BK184.out 3).trans rfl
      have hcz10_4 : wc.cell? ⟨gb184, 4, none⟩ = some (.int .i64 a0_4) := (blk_cell BK184.out 4).trans rfl
      have hcz10_5 : wc.cell? ⟨gb184, 5, none⟩ = some (.int .i64 a0_5) := (blk_cell BK184.out 5).trans rfl
      have hcz10_6 : wc.cell? ⟨gb184, 6, none⟩ = some (.slice A0_6 l0_6.length c0_6) := (blk_cell BK184.out 6).trans rfl
      have hcz10_7 : wc.cell? ⟨gb184, 7, none⟩ = some (.slice A0_7 l0_7.length c0_7) := (blk_cell BK184.out 7).trans rfl
      have hfz10_0 := blk_frozen BK184.out 0
      have hfz10_1 := blk_frozen BK184.out 1
      have hfz10_2 := blk_frozen BK184.out 2
      have hfz10_3 := blk_frozen BK184.out 3
      have hfz10_4 := blk_frozen BK184.out 4
      have hfz10_5 := blk_frozen BK184.out 5
      have hfz10_6 := blk_frozen BK184.out 6
      have hfz10_7 := blk_frozen BK184.out 7
      go_wp2
      repeat (go_quiet (fail); try go_wp2)
      go_meet
      case rel => exact ⟨_, (((l0_3.length : Int) == 0)), (by first | rfl | (simp; done) | (simp [*]; done)), H', ⟨by have := HJ1.out; first | omega | exact Nat.le_refl _⟩, ⟨by (with_reducible repeat (first | refine blk_drewN ?_ _ | refine blk_drew ?_ | refine blk_alloc ?_ _)); exact BK184.out⟩, ⟨by repeat (first | (with_reducible first | exact HB.out | apply below_alloc | apply pw_below_drewN | apply below_drew1 | refine below_set ?_ GE184.out) | exact HB.out)⟩⟩
     ·
      rw [if_neg c9] at H
      have c9b0 : ((l0_2.length : Int) == 0) = false := beq_eq_false_iff_ne.mpr c9
      have c9b1 : ((l0_2.length : Int) != 0) = true := bne_iff_ne.mpr c9
      have c9b2 : ¬ (l0_2 = []) := fun h_ => c9 (by rw [h_]; rfl)
      (first | rw [c9b0] | (simp only [i64_w, i32_w]; rw [c9b0]) | skip)
      have H' := Aside0.mk H
      clear H
      have hcz11_0 : wc.cell? ⟨gb184, 0, none⟩ = some (.int .i64 a0_0) := (blk_cell BK184.out 0).trans rfl
      have hcz11_1 : wc.cell? ⟨gb184, 1, none⟩ = some (.int .i64 a0_1) := (blk_cell BK184.out 1).trans rfl
      have hcz11_2 : wc.cell? ⟨gb184, 2, none⟩ = some (.slice A0_2 l0_2.length c0_2) := (blk_cell BK184.out 2).trans rfl
      have hcz11_3 : wc.cell? ⟨gb184, 3, none⟩ = some (.slice A0_3 l0_3.length c0_3) := (blk_cell BK184.out 3).trans rfl
      have hcz11_4 : wc.cell? ⟨gb184, 4, none⟩ = some (.int .i64 a0_4) := (blk_cell BK184.out 4).trans rfl
      have hcz11_5 : wc.cell? ⟨gb184, 5, none⟩ = some (.int .i64 a0_5) := (blk_cell BK184.out 5).trans rfl
      have hcz11_6 : wc.cell? ⟨gb184, 6, none⟩ = some (.slice A0_6 l0_6.length c0_6) := (blk_cell BK184.out 6).trans rfl
      have hcz11_7 : wc.cell? ⟨gb184, 7, none⟩ = some (.slice A0_7 l0_7.length c0_7) := (blk_cell BK184.out 7).trans rfl
      have hfz11_0 := blk_frozen BK184.out 0
      have hfz11_1 := blk_frozen BK184.out 1
      have hfz11_2 := blk_frozen BK184.out 2
      have hfz11_3 := blk_frozen BK184.out 3
      have hfz11_4 := blk_frozen BK184.out 4
      have hfz11_5 := blk_frozen BK184.out 5
      have hfz11_6 := blk_frozen BK184.out 6
      have hfz11_7 := blk_frozen BK184.out 7
      go_wp2
      repeat (go_quiet (fail); try go_wp2)
      go_meet
      case rel => exact ⟨_, (false), (by first | rfl | (simp; done) | (simp [*]; done)), H', ⟨by have := HJ1.out; first | omega | exact Nat.le_refl _⟩, ⟨by (with_reducible repeat (first | refine blk_drewN ?_ _ | refine blk_drew ?_ | refine blk_alloc ?_ _)); exact BK184.out⟩, ⟨by repeat (first | (with_reducible first | exact HB.out | apply below_alloc | apply pw_below_drewN | apply below_drew1 | refine below_set ?_ GE184.out) | exact HB.out)⟩⟩
    case rest =>
     clear HC8
     try clear c2
     try clear p2
     try clear c4
     try clear c4b0
     try clear c7
     try clear c9
     try clear c9b0
     try clear c9b1
     try clear c9b2
     try clear hcz10_0
     try clear hcz10_1
     try clear hcz10_2
     try clear hcz10_3
     try clear hcz10_4
     try clear hcz10_5
     try clear hcz10_6
     try clear hcz10_7
     try clear hcz11_0
     try clear hcz11_1
     try clear hcz11_2
     try clear hcz11_3
     try clear hcz11_4
     try clear hcz11_5
     try clear hcz11_6
     try clear hcz11_7
     try clear hcz5_0
     try clear hcz5_1
     try clear hcz5_2
     try clear hcz5_3
     try clear hcz5_4
     try clear hcz5_5
     try clear hcz5_6
     try clear hcz5_7
     try clear hcz6_0
     try clear hcz6_1
     try clear hcz6_2
     try clear hcz6_3
     try clear hcz6_4
     try clear hcz6_5
     try clear hcz6_6
     try clear hcz6_7
     try clear hfz10_0
     try clear hfz10_1
     try clear hfz10_2
     try clear hfz10_3
     try clear hfz10_4
     try clear hfz10_5
     try clear hfz10_6
     try clear hfz10_7
     try clear hfz11_0
     try clear hfz11_1
     try clear hfz11_2
     try clear hfz11_3
     try clear hfz11_4
     try clear hfz11_5
     try clear hfz11_6
     try clear hfz11_7
     try clear hfz5_0
     try clear hfz5_1
     try clear hfz5_2
     try clear hfz5_3
     try clear hfz5_4
     try clear hfz5_5
     try clear hfz5_6
     try clear hfz5_7
     try clear hfz6_0
     try clear hfz6_1
     try clear hfz6_2
     try clear hfz6_3
     try clear hfz6_4
     try clear hfz6_5
     try clear hfz6_6
     try clear hfz6_7
     try clear p2
     obtain ⟨kq, x3_7, rfl, HA, HJ7, BK184, HB⟩ := hcut
     cases kq with
     | zero => exact absurd HA.out (by simp [thrumref07_MayP.j1])
     | succ kj7 =>
      have H := HA.out
      clear HA
      simp only [thrumref07_MayP.j1] at H
      have HC12 := Aside0.mk H
      clear H
      go_upto_region 4 with (fail)
      repeat (go_quiet (fail); go_upto_region 4 with (fail))
      go_cut [4] (fun v4 wc => ∃ (kq : Nat) (x4_11 : Bool), v4 = .bool x4_11 ∧ Aside0 (thrumref07_MayP.j2 kq x3_7 x4_11 a0_0 a0_1 l0_2 l0_3 a0_4 a0_5 l0_6 l0_7 = some r) ∧ Aside0 (kq ≤ kj7) ∧ Aside0 (wc.heap[gb184]? = some (.cells #[.int .i64 a0_0, .int .i64 a0_1, (.slice A0_2 l0_2.length c0_2), (.slice A0_3 l0_3.length c0_3), .int .i64 a0_4, .int .i64 a0_5, (.slice A0_6 l0_6.length c0_6), (.slice A0_7 l0_7.length c0_7)] 29 (0, 0))) ∧ Aside0 (Below w.heap.size w wc))
      case first =>
       have H := HC12.out
       clear HC12
       by_cases c13 : a0_5 = 0
       ·
        rw [if_pos c13] at H
        have c13b0 : (a0_5 == 0) = true := beq_iff_eq.mpr c13
        have c13b1 : (a0_5 != 0) = false := bne_eq_false_iff_eq.mpr c13
        clear c13
        (first | rw [c13b0] | (simp only [i64_w, i32_w]; rw [c13b0]) | skip)
        have H' := Aside0.mk H
        clear H
        have hcz14_0 : wc.cell? ⟨gb184, 0, none⟩ = some (.int .i64 a0_0) := (blk_cell BK184.out 0).trans rfl
        have hcz14_1 : wc.cell? ⟨gb184, 1, none⟩ = some (.int .i64 a0_1) := (blk_cell BK184.out 1).trans rfl
        have hcz14_2 : wc.cell? ⟨gb184, 2, none⟩ = some (.slice A0_2 l0_2.length c0_2) := (blk_cell BK184.out 2).trans rfl
        have hcz14_3 : wc.cell? ⟨gb184, 3, none⟩ = some (.slice A0_3 l0_3.length c0_3) := (blk_cell BK184.out 3).trans rfl
        have hcz14_4 : wc.cell? ⟨gb184, 4, none⟩ = some (.int .i64 a0_4) := (blk_cell BK184.out 4).trans rfl
        have hcz14_5 : wc.cell? ⟨gb184, 5, none⟩ = some (.int .i64 a0_5) := (blk_cell BK184.out 5).trans rfl
        have hcz14_6 : wc.cell? ⟨gb184, 6, none⟩ = some (.slice A0_6 l0_6.length c0_6) := (blk_cell BK184.out 6).trans rfl
        have hcz14_7 : wc.cell? ⟨gb184, 7, none⟩ = some (.slice A0_7 l0_7.length c0_7) := (blk_cell BK184.out 7).trans rfl
        have hfz14_0 := blk_frozen BK184.out 0
        have hfz14_1 := blk_frozen BK184.out 1
        have hfz14_2 := blk_frozen BK184.out 2
        have hfz14_3 := blk_frozen BK184.out 3
        have hfz14_4 := blk_frozen BK184.out 4
        have hfz14_5 := blk_frozen BK184.out 5
        have hfz14_6 := blk_frozen BK184.out 6
        have hfz14_7 := blk_frozen BK184.out 7
        go_wp2
        repeat (go_quiet (fail); try go_wp2)
        go_meet
        case rel => exact ⟨_, (((l0_6.length : Int) == 0)), (by first | rfl | (simp; done) | (simp [*]; done)), H', ⟨by have := HJ1.out; have := HJ7.out; first | omega | exact Nat.le_refl _⟩, ⟨by (with_reducible repeat (first | refine blk_drewN ?_ _ | refine blk_drew ?_ | refine blk_alloc ?_ _)); exact BK184.out⟩, ⟨by repeat (first | (with_reducible first | exact HB.out | apply below_alloc | apply pw_below_drewN | apply below_drew1 | refine below_set ?_ GE184.out) | exact HB.out)⟩⟩
       ·
        rw [if_neg c13] at H
        have c13b0 : (a0_5 == 0) = false := beq_eq_false_iff_ne.mpr c13
        have c13b1 : (a0_5 != 0) = true := bne_iff_ne.mpr c13
        (first | rw [c13b0] | (simp only [i64_w, i32_w]; rw [c13b0]) | skip)
        have H' := Aside0.mk H
        clear H
        have hcz15_0 : wc.cell? ⟨gb184, 0, none⟩ = some (.int .i64 a0_0) := (blk_cell BK184.out 0).trans rfl
        have hcz15_1 : wc.cell? ⟨gb184, 1, none⟩ = some (.int .i64 a0_1) := (blk_cell BK184.out 1).trans rfl
        have hcz15_2 : wc.cell? ⟨gb184, 2, none⟩ = some (.slice A0_2 l0_2.length c0_2) := (blk_cell BK184.out 2).trans rfl
        have hcz15_3 : wc.cell? ⟨gb184, 3, none⟩ = some (.slice A0_3 l0_3.length c0_3) := (blk_cell BK184.out 3).trans rfl
        have hcz15_4 : wc.cell? ⟨gb184, 4, none⟩ = some (.int .i64 a0_4) := (blk_cell BK184.out 4).trans rfl
        have hcz15_5 : wc.cell? ⟨gb184, 5, none⟩ = some (.int .i64 a0_5) := (blk_cell BK184.out 5).trans rfl
        have hcz15_6 : wc.cell? ⟨gb184, 6, none⟩ = some (.slice A0_6 l0_6.length c0_6) := (blk_cell BK184.out 6).trans rfl
        have hcz15_7 : wc.cell? ⟨gb184, 7, none⟩ = some (.slice A0_7 l0_7.length c0_7) := (blk_cell BK184.out 7).trans rfl
        have hfz15_0 := blk_frozen BK184.out 0
        have hfz15_1 := blk_frozen BK184.out 1
        have hfz15_2 := blk_frozen BK184.out 2
        have hfz15_3 := blk_frozen BK184.out 3
        have hfz15_4 := blk_frozen BK184.out 4
        have hfz15_5 := blk_frozen BK184.out 5
        have hfz15_6 := blk_frozen BK184.out 6
        have hfz15_7 := blk_frozen BK184.out 7
        go_wp2
        repeat (go_quiet (fail); try go_wp2)
        go_meet
        case rel => exact ⟨_, (false), (by first | rfl | (simp; done) | (simp [*]; done)), H', ⟨by have := HJ1.out; have := HJ7.out; first | omega | exact Nat.le_refl _⟩, ⟨by (with_reducible repeat (first | refine blk_drewN ?_ _ | refine blk_drew ?_ | refine blk_alloc ?_ _)); exact BK184.out⟩, ⟨by repeat (first | (with_reducible first | exact HB.out | apply below_alloc | apply pw_below_drewN | apply below_drew1 | refine below_set ?_ GE184.out) | exact HB.out)⟩⟩
      case rest =>
       clear HC12
       try clear c1
       try clear c2
       try clear p2
       try clear c4
       try clear c4b0
       try clear c7
       try clear c9
       try clear c9b0
       try clear c9b1
       try clear c9b2
       try clear c13
       try clear c13b0
       try clear c13b1
       try clear hcz10_0
       try clear hcz10_1
       try clear hcz10_2
       try clear hcz10_3
       try clear hcz10_4
       try clear hcz10_5
       try clear hcz10_6
       try clear hcz10_7
       try clear hcz11_0
       try clear hcz11_1
       try clear hcz11_2
       try clear hcz11_3
       try clear hcz11_4
       try clear hcz11_5
       try clear hcz11_6
       try clear hcz11_7
       try clear hcz14_0
       try clear hcz14_1
       try clear hcz14_2
       try clear hcz14_3
       try clear hcz14_4
       try clear hcz14_5
       try clear hcz14_6
       try clear hcz14_7
       try clear hcz15_0
       try clear hcz15_1
       try clear hcz15_2
       try clear hcz15_3
       try clear hcz15_4
       try clear hcz15_5
       try clear hcz15_6
       try clear hcz15_7
       try clear hcz5_0
       try clear hcz5_1
       try clear hcz5_2
       try clear hcz5_3
       try clear hcz5_4
       try clear hcz5_5
       try clear hcz5_6
       try clear hcz5_7
       try clear hcz6_0
       try clear hcz6_1
       try clear hcz6_2
       try clear hcz6_3
       try clear hcz6_4
       try clear hcz6_5
       try clear hcz6_6
       try clear hcz6_7
       try clear hfz10_0
       try clear hfz10_1
       try clear hfz10_2
       try clear hfz10_3
       try clear hfz10_4
       try clear hfz10_5
       try clear hfz10_6
       try clear hfz10_7
       try clear hfz11_0
       try clear hfz11_1
       try clear hfz11_2
       try clear hfz11_3
       try clear hfz11_4
       try clear hfz11_5
       try clear hfz11_6
       try clear hfz11_7
       try clear hfz14_0
       try clear hfz14_1
       try clear hfz14_2
       try clear hfz14_3
       try clear hfz14_4
       try clear hfz14_5
       try clear hfz14_6
       try clear hfz14_7
       try clear hfz15_0
       try clear hfz15_1
       try clear hfz15_2
       try clear hfz15_3
       try clear hfz15_4
       try clear hfz15_5
       try clear hfz15_6
       try clear hfz15_7
       try clear hfz5_0
       try clear hfz5_1
       try clear hfz5_2
       try clear hfz5_3
       try clear hfz5_4
       try clear hfz5_5
       try clear hfz5_6
       try clear hfz5_7
       try clear hfz6_0
       try clear hfz6_1
       try clear hfz6_2
       try clear hfz6_3
       try clear hfz6_4
       try clear hfz6_5
       try clear hfz6_6
       try clear hfz6_7
       try clear p2
       obtain ⟨kq, x4_11, rfl, HA, HJ11, BK184, HB⟩ := hcut
       cases kq with
       | zero => exact absurd HA.out (by simp [thrumref07_MayP.j2])
       | succ kj11 =>
        have H := HA.out
        clear HA
        simp only [thrumref07_MayP.j2] at H
        have HC16 := Aside0.mk H
        clear H
        go_upto_region 5 with (fail)
        repeat (go_quiet (fail); go_upto_region 5 with (fail))
        go_cut [5] (fun v5 wc => ∃ (kq : Nat) (x5_15 : Bool), v5 = .bool x5_15 ∧ Aside0 (thrumref07_MayP.j3 kq x3_7 x4_11 x5_15 a0_0 a0_1 l0_2 l0_3 a0_4 a0_5 l0_6 l0_7 = some r) ∧ Aside0 (kq ≤ kj11) ∧ Aside0 (wc.heap[gb184]? = some (.cells #[.int .i64 a0_0, .int .i64 a0_1, (.slice A0_2 l0_2.length c0_2), (.slice A0_3 l0_3.length c0_3), .int .i64 a0_4, .int .i64 a0_5, (.slice A0_6 l0_6.length c0_6), (.slice A0_7 l0_7.length c0_7)] 29 (0, 0))) ∧ Aside0 (Below w.heap.size w wc))
        case first =>
         have H := HC16.out
         clear HC16
         by_cases c17 : a0_4 = 0
         ·
          rw [if_pos c17] at H
          have c17b0 : (a0_4 == 0) = true := beq_iff_eq.mpr c17
          have c17b1 : (a0_4 != 0) = false := bne_eq_false_iff_eq.mpr c17
          clear c17
          (first | rw [c17b0] | (simp only [i64_w, i32_w]; rw [c17b0]) | skip)
          have H' := Aside0.mk H
          clear H
          have hcz18_0 : wc.cell? ⟨gb184, 0, none⟩ = some (.int .i64 a0_0) := (blk_cell BK184.out 0).trans rfl
          have hcz18_1 : wc.cell? ⟨gb184, 1, none⟩ = some (.int .i64 a0_1) := (blk_cell BK184.out 1).trans rfl
          have hcz18_2 : wc.cell? ⟨gb184, 2, none⟩ = some (.slice A0_2 l0_2.length c0_2) := (blk_cell BK184.out 2).trans rfl
          have hcz18_3 : wc.cell? ⟨gb184, 3, none⟩ = some (.slice A0_3 l0_3.length c0_3) := (blk_cell BK184.out 3).trans rfl
          have hcz18_4 : wc.cell? ⟨gb184, 4, none⟩ = some (.int .i64 a0_4) := (blk_cell BK184.out 4).trans rfl
          have hcz18_5 : wc.cell? ⟨gb184, 5, none⟩ = some (.int .i64 a0_5) := (blk_cell BK184.out 5).trans rfl
          have hcz18_6 : wc.cell? ⟨gb184, 6, none⟩ = some (.slice A0_6 l0_6.length c0_6) := (blk_cell BK184.out 6).trans rfl
          have hcz18_7 : wc.cell? ⟨gb184, 7, none⟩ = some (.slice A0_7 l0_7.length c0_7) := (blk_cell BK184.out 7).trans rfl
          have hfz18_0 := blk_frozen BK184.out 0
          have hfz18_1 := blk_frozen BK184.out 1
          have hfz18_2 := blk_frozen BK184.out 2
          have hfz18_3 := blk_frozen BK184.out 3
          have hfz18_4 := blk_frozen BK184.out 4
          have hfz18_5 := blk_frozen BK184.out 5
          have hfz18_6 := blk_frozen BK184.out 6
          have hfz18_7 := blk_frozen BK184.out 7
          go_wp2
          repeat (go_quiet (fail); try go_wp2)
          go_meet
          case rel => exact ⟨_, (((l0_7.length : Int) == 0)), (by first | rfl | (simp; done) | (simp [*]; done)), H', ⟨by have := HJ1.out; have := HJ7.out; have := HJ11.out; first | omega | exact Nat.le_refl _⟩, ⟨by (with_reducible repeat (first | refine blk_drewN ?_ _ | refine blk_drew ?_ | refine blk_alloc ?_ _)); exact BK184.out⟩, ⟨by repeat (first | (with_reducible first | exact HB.out | apply below_alloc | apply pw_below_drewN | apply below_drew1 | refine below_set ?_ GE184.out) | exact HB.out)⟩⟩
         ·
          rw [if_neg c17] at H
          have c17b0 : (a0_4 == 0) = false := beq_eq_false_iff_ne.mpr c17
          have c17b1 : (a0_4 != 0) = true := bne_iff_ne.mpr c17
          (first | rw [c17b0] | (simp only [i64_w, i32_w]; rw [c17b0]) | skip)
          have H' := Aside0.mk H
          clear H
          have hcz19_0 : wc.cell? ⟨gb184, 0, none⟩ = some (.int .i64 a0_0) := (blk_cell BK184.out 0).trans rfl
          have hcz19_1 : wc.cell? ⟨gb184, 1, none⟩ = some (.int .i64 a0_1) := (blk_cell BK184.out 1).trans rfl
          have hcz19_2 : wc.cell? ⟨gb184, 2, none⟩ = some (.slice A0_2 l0_2.length c0_2) := (blk_cell BK184.out 2).trans rfl
          have hcz19_3 : wc.cell? ⟨gb184, 3, none⟩ = some (.slice A0_3 l0_3.length c0_3) := (blk_cell BK184.out 3).trans rfl
          have hcz19_4 : wc.cell? ⟨gb184, 4, none⟩ = some (.int .i64 a0_4) := (blk_cell BK184.out 4).trans rfl
          have hcz19_5 : wc.cell? ⟨gb184, 5, none⟩ = some (.int .i64 a0_5) := (blk_cell BK184.out 5).trans rfl
          have hcz19_6 : wc.cell? ⟨gb184, 6, none⟩ = some (.slice A0_6 l0_6.length c0_6) := (blk_cell BK184.out 6).trans rfl
          have hcz19_7 : wc.cell? ⟨gb184, 7, none⟩ = some (.slice A0_7 l0_7.length c0_7) := (blk_cell BK184.out 7).trans rfl
          have hfz19_0 := blk_frozen BK184.out 0
          have hfz19_1 := blk_frozen BK184.out 1
          have hfz19_2 := blk_frozen BK184.out 2
          have hfz19_3 := blk_frozen BK184.out 3
          have hfz19_4 := blk_frozen BK184.out 4
          have hfz19_5 := blk_frozen BK184.out 5
          have hfz19_6 := blk_frozen BK184.out 6
          have hfz19_7 := blk_frozen BK184.out 7
          go_wp2
          repeat (go_quiet (fail); try go_wp2)
          go_meet
          case rel => exact ⟨_, (false), (by first | rfl | (simp; done) | (simp [*]; done)), H', ⟨by have := HJ1.out; have := HJ7.out; have := HJ11.out; first | omega | exact Nat.le_refl _⟩, ⟨by (with_reducible repeat (first | refine blk_drewN ?_ _ | refine blk_drew ?_ | refine blk_alloc ?_ _)); exact BK184.out⟩, ⟨by repeat (first | (with_reducible first | exact HB.out | apply below_alloc | apply pw_below_drewN | apply below_drew1 | refine below_set ?_ GE184.out) | exact HB.out)⟩⟩
        case rest =>
         clear HC16
         try clear c1
         try clear c2
         try clear p2
         try clear c4
         try clear c4b0
         try clear c7
         try clear c9
         try clear c9b0
         try clear c9b1
         try clear c9b2
         try clear c13
         try clear c13b0
         try clear c13b1
         try clear c17
         try clear c17b0
         try clear c17b1
         try clear hcz10_0
         try clear hcz10_1
         try clear hcz10_2
         try clear hcz10_3
         try clear hcz10_4
         try clear hcz10_5
         try clear hcz10_6
         try clear hcz10_7
         try clear hcz11_0
         try clear hcz11_1
         try clear hcz11_2
         try clear hcz11_3
         try clear hcz11_4
         try clear hcz11_5
         try clear hcz11_6
         try clear hcz11_7
         try clear hcz14_0
         try clear hcz14_1
         try clear hcz14_2
         try clear hcz14_3
         try clear hcz14_4
         try clear hcz14_5
         try clear hcz14_6
         try clear hcz14_7
         try clear hcz15_0
         try clear hcz15_1
         try clear hcz15_2
         try clear hcz15_3
         try clear hcz15_4
         try clear hcz15_5
         try clear hcz15_6
         try clear hcz15_7
         try clear hcz18_0
         try clear hcz18_1
         try clear hcz18_2
         try clear hcz18_3
         try clear hcz18_4
         try clear hcz18_5
         try clear hcz18_6
         try clear hcz18_7
         try clear hcz19_0
         try clear hcz19_1
         try clear hcz19_2
         try clear hcz19_3
         try clear hcz19_4
         try clear hcz19_5
         try clear hcz19_6
         try clear hcz19_7
         try clear hcz5_0
         try clear hcz5_1
         try clear hcz5_2
         try clear hcz5_3
         try clear hcz5_4
         try clear hcz5_5
         try clear hcz5_6
         try clear hcz5_7
         try clear hcz6_0
         try clear hcz6_1
         try clear hcz6_2
         try clear hcz6_3
         try clear hcz6_4
         try clear hcz6_5
         try clear hcz6_6
         try clear hcz6_7
         try clear hfz10_0
         try clear hfz10_1
         try clear hfz10_2
         try clear hfz10_3
         try clear hfz10_4
         try clear hfz10_5
         try clear hfz10_6
         try clear hfz10_7
         try clear hfz11_0
         try clear hfz11_1
         try clear hfz11_2
         try clear hfz11_3
         try clear hfz11_4
         try clear hfz11_5
         try clear hfz11_6
         try clear hfz11_7
         try clear hfz14_0
         try clear hfz14_1
         try clear hfz14_2
         try clear hfz14_3
         try clear hfz14_4
         try clear hfz14_5
         try clear hfz14_6
         try clear hfz14_7
         try clear hfz15_0
         try clear hfz15_1
         try clear hfz15_2
         try clear hfz15_3
         try clear hfz15_4
         try clear hfz15_5
         try clear hfz15_6
         try clear hfz15_7
         try clear hfz18_0
         try clear hfz18_1
         try clear hfz18_2
         try clear hfz18_3
         try clear hfz18_4
         try clear hfz18_5
         try clear hfz18_6
         try clear hfz18_7
         try clear hfz19_0
         try clear hfz19_1
         try clear hfz19_2
         try clear hfz19_3
         try clear hfz19_4
         try clear hfz19_5
         try clear hfz19_6
         try clear hfz19_7
         try clear hfz5_0
         try clear hfz5_1
         try clear hfz5_2
         try clear hfz5_3
         try clear hfz5_4
         try clear hfz5_5
         try clear hfz5_6
         try clear hfz5_7
         try clear hfz6_0
         try clear hfz6_1
         try clear hfz6_2
         try clear hfz6_3
         try clear hfz6_4
         try clear hfz6_5
         try clear hfz6_6
         try clear hfz6_7
         try clear p2
         obtain ⟨kq, x5_15, rfl, HA, HJ15, BK184, HB⟩ := hcut
         cases kq with
         | zero => exact absurd HA.out (by simp [thrumref07_MayP.j3])
         | succ kj15 =>
          have H := HA.out
          clear HA
          simp only [thrumref07_MayP.j3] at H
          by_cases c20 : a0_0 = 0
          ·
           rw [if_pos c20] at H
           have c20b0 : (a0_0 == 0) = true := beq_iff_eq.mpr c20
           have c20b1 : (a0_0 != 0) = false := bne_eq_false_iff_eq.mpr c20
           clear c20
           by_cases c21 : (l0_2.length : Int) = 0
           ·
            rw [if_pos c21] at H
            have c21b0 : ((l0_2.length : Int) == 0) = true := beq_iff_eq.mpr c21
            have c21b1 : ((l0_2.length : Int) != 0) = false := bne_eq_false_iff_eq.mpr c21
            clear c21
            by_cases c22 : (l0_3.length : Int) = a0_1
            ·
             rw [if_pos c22] at H
             have c22b0 : ((l0_3.length : Int) == a0_1) = true := beq_iff_eq.mpr c22
             have c22b1 : ((l0_3.length : Int) != a0_1) = false := bne_eq_false_iff_eq.mpr c22
             clear c22
             by_cases c23 : x4_11 = true
             ·
              subst c23
              have H1 : (some x5_15) = some r := by rw [if_pos rfl] at H; exact H
              clear H
              have H := H1
              clear H1
              obtain rfl := Option.some.inj H
              have hcz24_0 : wc.cell? ⟨gb184, 0, none⟩ = some (.int .i64 a0_0) := (blk_cell BK184.out 0).trans rfl
              have hcz24_1 : wc.cell? ⟨gb184, 1, none⟩ = some (.int .i64 a0_1) := (blk_cell BK184.out 1).trans rfl
              have hcz24_2 : wc.cell? ⟨gb184, 2, none⟩ = some (.slice A0_2 l0_2.length c0_2) := (blk_cell BK184.out 2).trans rfl
              have hcz24_3 : wc.cell? ⟨gb184, 3, none⟩ = some (.slice A0_3 l0_3.length c0_3) := (blk_cell BK184.out 3).trans rfl
              have hcz24_4 : wc.cell? ⟨gb184, 4, none⟩ = some (.int .i64 a0_4) := (blk_cell BK184.out 4).trans rfl
              have hcz24_5 : wc.cell? ⟨gb184, 5, none⟩ = some (.int .i64 a0_5) := (blk_cell BK184.out 5).trans rfl
              have hcz24_6 : wc.cell? ⟨gb184, 6, none⟩ = some (.slice A0_6 l0_6.length c0_6) := (blk_cell BK184.out 6).trans rfl
              have hcz24_7 : wc.cell? ⟨gb184, 7, none⟩ = some (.slice A0_7 l0_7.length c0_7) := (blk_cell BK184.out 7).trans rfl
              have hfz24_0 := blk_frozen BK184.out 0
              have hfz24_1 := blk_frozen BK184.out 1
              have hfz24_2 := blk_frozen BK184.out 2
              have hfz24_3 := blk_frozen BK184.out 3
              have hfz24_4 := blk_frozen BK184.out 4
              have hfz24_5 := blk_frozen BK184.out 5
              have hfz24_6 := blk_frozen BK184.out 6
              have hfz24_7 := blk_frozen BK184.out 7
              go_wp2
              repeat (go_quiet (fail); try go_wp2)
              go_ret
              exact ⟨by first | rfl | (simp [errW_none, errW_some] <;> rfl) | (simp [*, errW_none, errW_some] <;> rfl), by repeat (first | (with_reducible first | exact HB.out | apply below_alloc | apply pw_below_drewN | apply below_drew1 | refine below_set ?_ GE184.out) | exact HB.out)⟩
             ·
              replace c23 := Bool.eq_false_iff.mpr c23
              subst c23
              have H1 : (some false) = some r := by rw [if_neg (show ¬ (false = true) by decide)] at H; exact H
              clear H
              have H := H1
              clear H1
              obtain rfl := Option.some.inj H
              have hcz25_0 : wc.cell? ⟨gb184, 0, none⟩ = some (.int .i64 a0_0) := (blk_cell BK184.out 0).trans rfl
              have hcz25_1 : wc.cell? ⟨gb184, 1, none⟩ = some (.int .i64 a0_1) := (blk_cell BK184.out 1).trans rfl
              have hcz25_2 : wc.cell? ⟨gb184, 2, none⟩ = some (.slice A0_2 l0_2.length c0_2) := (blk_cell BK184.out 2).trans rfl
              have hcz25_3 : wc.cell? ⟨gb184, 3, none⟩ = some (.slice A0_3 l0_3.length c0_3) := (blk_cell BK184.out 3).trans rfl
              have hcz25_4 : wc.cell? ⟨gb184, 4, none⟩ = some (.int .i64 a0_4) := (blk_cell BK184.out 4).trans rfl
              have hcz25_5 : wc.cell? ⟨gb184, 5, none⟩ = some (.int .i64 a0_5) := (blk_cell BK184.out 5).trans rfl
              have hcz25_6 : wc.cell? ⟨gb184, 6, none⟩ = some (.slice A0_6 l0_6.length c0_6) := (blk_cell BK184.out 6).trans rfl
              have hcz25_7 : wc.cell? ⟨gb184, 7, none⟩ = some (.slice A0_7 l0_7.length c0_7) := (blk_cell BK184.out 7).trans rfl
              have hfz25_0 := blk_frozen BK184.out 0
              have hfz25_1 := blk_frozen BK184.out 1
              have hfz25_2 := blk_frozen BK184.out 2
              have hfz25_3 := blk_frozen BK184.out 3
              have hfz25_4 := blk_frozen BK184.out 4
              have hfz25_5 := blk_frozen BK184.out 5
              have hfz25_6 := blk_frozen BK184.out 6
              have hfz25_7 := blk_frozen BK184.out 7
              go_wp2
              repeat (go_quiet (fail); try go_wp2)
              go_ret
              exact ⟨by first | rfl | (simp [errW_none, errW_some] <;> rfl) | (simp [*, errW_none, errW_some] <;> rfl), by repeat (first | (with_reducible first | exact HB.out | apply below_alloc | apply pw_below_drewN | apply below_drew1 | refine below_set ?_ GE184.out) | exact HB.out)⟩
            ·
             rw [if_neg c22] at H
             have c22b0 : ((l0_3.length : Int) == a0_1) = false := beq_eq_false_iff_ne.mpr c22
             have c22b1 : ((l0_3.length : Int) != a0_1) = true := bne_iff_ne.mpr c22
             obtain rfl := Option.some.inj H
             have hcz26_0 : wc.cell? ⟨gb184, 0, none⟩ = some (.int .i64 a0_0) := (blk_cell BK184.out 0).trans rfl
             have hcz26_1 : wc.cell? ⟨gb184, 1, none⟩ = some (.int .i64 a0_1) := (blk_cell BK184.out 1).trans rfl
             have hcz26_2 : wc.cell? ⟨gb184, 2, none⟩ = some (.slice A0_2 l0_2.length c0_2) := (blk_cell BK184.out 2).trans rfl
             have hcz26_3 : wc.cell? ⟨gb184, 3, none⟩ = some (.slice A0_3 l0_3.length c0_3) := (blk_cell BK184.out 3).trans rfl
             have hcz26_4 : wc.cell? ⟨gb184, 4, none⟩ = some (.int .i64 a0_4) := (blk_cell BK184.out 4).trans rfl
             have hcz26_5 : wc.cell? ⟨gb184, 5, none⟩ = some (.int .i64 a0_5) := (blk_cell BK184.out 5).trans rfl
             have hcz26_6 : wc.cell? ⟨gb184, 6, none⟩ = some (.slice A0_6 l0_6.length c0_6) := (blk_cell BK184.out 6).trans rfl
             have hcz26_7 : wc.cell? ⟨gb184, 7, none⟩ = some (.slice A0_7 l0_7.length c0_7) := (blk_cell BK184.out 7).trans rfl
             have hfz26_0 := blk_frozen BK184.out 0
             have hfz26_1 := blk_frozen BK184.out 1
             have hfz26_2 := blk_frozen BK184.out 2
             have hfz26_3 := blk_frozen BK184.out 3
             have hfz26_4 := blk_frozen BK184.out 4
             have hfz26_5 := blk_frozen BK184.out 5
             have hfz26_6 := blk_frozen BK184.out 6
             have hfz26_7 := blk_frozen BK184.out 7
             go_wp2
             repeat (go_quiet (fail); try go_wp2)
             go_ret
             exact ⟨by first | rfl | (simp [errW_none, errW_some] <;> rfl) | (simp [*, errW_none, errW_some] <;> rfl), by repeat (first | (with_reducible first | exact HB.out | apply below_alloc | apply pw_below_drewN | apply below_drew1 | refine below_set ?_ GE184.out) | exact HB.out)⟩
           ·
            rw [if_neg c21] at H
            have c21b0 : ((l0_2.length : Int) == 0) = false := beq_eq_false_iff_ne.mpr c21
            have c21b1 : ((l0_2.length : Int) != 0) = true := bne_iff_ne.mpr c21
            have c21b2 : ¬ (l0_2 = []) := fun h_ => c21 (by rw [h_]; rfl)
            obtain rfl := Option.some.inj H
            have hcz27_0 : wc.cell? ⟨gb184, 0, none⟩ = some (.int .i64 a0_0) := (blk_cell BK184.out 0).trans rfl
            have hcz27_1 : wc.cell? ⟨gb184, 1, none⟩ = some (.int .i64 a0_1) := (blk_cell BK184.out 1).trans rfl
            have hcz27_2 : wc.cell? ⟨gb184, 2, none⟩ = some (.slice A0_2 l0_2.length c0_2) := (blk_cell BK184.out 2).trans rfl
            have hcz27_3 : wc.cell? ⟨gb184, 3, none⟩ = some (.slice A0_3 l0_3.length c0_3) := (blk_cell BK184.out 3).trans rfl
            have hcz27_4 : wc.cell? ⟨gb184, 4, none⟩ = some (.int .i64 a0_4) := (blk_cell BK184.out 4).trans rfl
            have hcz27_5 : wc.cell? ⟨gb184, 5, none⟩ = some (.int .i64 a0_5) := (blk_cell BK184.out 5).trans rfl
            have hcz27_6 : wc.cell? ⟨gb184, 6, none⟩ = some (.slice A0_6 l0_6.length c0_6) := (blk_cell BK184.out 6).trans rfl
            have hcz27_7 : wc.cell? ⟨gb184, 7, none⟩ = some (.slice A0_7 l0_7.length c0_7) := (blk_cell BK184.out 7).trans rfl
            have hfz27_0 := blk_frozen BK184.out 0
            have hfz27_1 := blk_frozen BK184.out 1
            have hfz27_2 := blk_frozen BK184.out 2
            have hfz27_3 := blk_frozen BK184.out 3
            have hfz27_4 := blk_frozen BK184.out 4
            have hfz27_5 := blk_frozen BK184.out 5
            have hfz27_6 := blk_frozen BK184.out 6
            have hfz27_7 := blk_frozen BK184.out 7
            go_wp2
            repeat (go_quiet (fail); try go_wp2)
            go_ret
            exact ⟨by first | rfl | (simp [errW_none, errW_some] <;> rfl) | (simp [*, errW_none, errW_some] <;> rfl), by repeat (first | (with_reducible first | exact HB.out | apply below_alloc | apply pw_below_drewN | apply below_drew1 | refine below_set ?_ GE184.out) | exact HB.out)⟩
          ·
           rw [if_neg c20] at H
           have c20b0 : (a0_0 == 0) = false := beq_eq_false_iff_ne.mpr c20
           have c20b1 : (a0_0 != 0) = true := bne_iff_ne.mpr c20
           by_cases c28 : a0_0 = 1
           ·
            rw [if_pos c28] at H
            have c28b0 : (a0_0 == 1) = true := beq_iff_eq.mpr c28
            have c28b1 : (a0_0 != 1) = false := bne_eq_false_iff_eq.mpr c28
            clear c28
            replace H := Option.bind_eq_some_iff.mp H
            obtain ⟨t185, A290, H⟩ := H
            replace H : (if t185 = 0 then (if (l0_3.length : Int) = (l0_2.length : Int) then (if x4_11 = true then (some x5_15) else (some false)) else (some false)) else (some false)) = some r := H
            have A29 := Aside0.mk A290
            clear A290
            by_cases c30 : t185 = 0
            ·
             rw [if_pos c30] at H
             have c30b0 : (t185 == 0) = true := beq_iff_eq.mpr c30
             have c30b1 : (t185 != 0) = false := bne_eq_false_iff_eq.mpr c30
             clear c30
             by_cases c31 : (l0_3.length : Int) = (l0_2.length : Int)
             ·
              rw [if_pos c31] at H
              have c31b0 : ((l0_3.length : Int) == (l0_2.length : Int)) = true := beq_iff_eq.mpr c31
              have c31b1 : ((l0_3.length : Int) != (l0_2.length : Int)) = false := bne_eq_false_iff_eq.mpr c31
              have c31b2 : (l0_3.length == l0_2.length) = true := by first | simpa using c31 | (simp at c31 ⊢; omega)
              clear c31
              by_cases c32 : x4_11 = true
              ·
               subst c32
               have H1 : (some x5_15) = some r := by rw [if_pos rfl] at H; exact H
               clear H
               have H := H1
               clear H1
               obtain rfl := Option.some.inj H
               have hcz33_0 : wc.cell? ⟨gb184, 0, none⟩ = some (.int .i64 a0_0) := (blk_cell BK184.out 0).trans rfl
               have hcz33_1 : wc.cell? ⟨gb184, 1, none⟩ = some (.int .i64 a0_1) := (blk_cell BK184.out 1).trans rfl
               have hcz33_2 : wc.cell? ⟨gb184, 2, none⟩ = some (.slice A0_2 l0_2.length c0_2) := (blk_cell BK184.out 2).trans rfl
               have hcz33_3 : wc.cell? ⟨gb184, 3, none⟩ = some (.slice A0_3 l0_3.length c0_3) := (blk_cell BK184.out 3).trans rfl
               have hcz33_4 : wc.cell? ⟨gb184, 4, none⟩ = some (.int .i64 a0_4) := (blk_cell BK184.out 4).trans rfl
               have hcz33_5 : wc.cell? ⟨gb184, 5, none⟩ = some (.int .i64 a0_5) := (blk_cell BK184.out 5).trans rfl
               have hcz33_6 : wc.cell? ⟨gb184, 6, none⟩ = some (.slice A0_6 l0_6.length c0_6) := (blk_cell BK184.out 6).trans rfl
               have hcz33_7 : wc.cell? ⟨gb184, 7, none⟩ = some (.slice A0_7 l0_7.length c0_7) := (blk_cell BK184.out 7).trans rfl
               have hfz33_0 := blk_frozen BK184.out 0
               have hfz33_1 := blk_frozen BK184.out 1
               have hfz33_2 := blk_frozen BK184.out 2
               have hfz33_3 := blk_frozen BK184.out 3
               have hfz33_4 := blk_frozen BK184.out 4
               have hfz33_5 := blk_frozen BK184.out 5
               have hfz33_6 := blk_frozen BK184.out 6
               have hfz33_7 := blk_frozen BK184.out 7
               go_wp2_with (first | (go_at_call 39; (with_reducible refine (thrumref06_Check.calls a0_1 _ _ l0_2 t185 _ ?side1 ?side2 A29.out).mono ?_); (case side1 => repeat (first | exact (Kd.C_below HR0_2.out HB.out) | (with_reducible refine Kd.C_alloc ?_ _) | (with_reducible refine Kd.C_drewN ?_ _) | (with_reducible refine Kd.C_drew ?_))); (case side2 => exact HC0_2.out); rintro e w' ⟨rfl, ⟨nd, rfl⟩⟩; (try first | exact ⟨rfl, _, World.drewN_drewN _ _ _⟩ | exact ⟨rfl, _, Eq.trans (World.drewN_drewN _ _ _) (congrArg (World.drewN _) (Nat.add_assoc _ _ _))⟩)))
               repeat (go_quiet (first | (go_at_call 39; (with_reducible refine (thrumref06_Check.calls a0_1 _ _ l0_2 t185 _ ?side1 ?side2 A29.out).mono ?_); (case side1 => repeat (first | exact (Kd.C_below HR0_2.out HB.out) | (with_reducible refine Kd.C_alloc ?_ _) | (with_reducible refine Kd.C_drewN ?_ _) | (with_reducible refine Kd.C_drew ?_))); (case side2 => exact HC0_2.out); rintro e w' ⟨rfl, ⟨nd, rfl⟩⟩; (try first | exact ⟨rfl, _, World.drewN_drewN _ _ _⟩ | exact ⟨rfl, _, Eq.trans (World.drewN_drewN _ _ _) (congrArg (World.drewN _) (Nat.add_assoc _ _ _))⟩))); try go_wp2_with (first | (go_at_call 39; (with_reducible refine (thrumref06_Check.calls a0_1 _ _ l0_2 t185 _ ?side1 ?side2 A29.out).mono ?_); (case side1 => repeat (first | exact (Kd.C_below HR0_2.out HB.out) | (with_reducible refine Kd.C_alloc ?_ _) | (with_reducible refine Kd.C_drewN ?_ _) | (with_reducible refine Kd.C_drew ?_))); (case side2 => exact HC0_2.out); rintro e w' ⟨rfl, ⟨nd, rfl⟩⟩; (try first | exact ⟨rfl, _, World.drewN_drewN _ _ _⟩ | exact ⟨rfl, _, Eq.trans (World.drewN_drewN _ _ _) (congrArg (World.drewN _) (Nat.add_assoc _ _ _))⟩))))
               go_ret
               exact ⟨by first | rfl | (simp [errW_none, errW_some] <;> rfl) | (simp [*, errW_none, errW_some] <;> rfl), by repeat (first | (with_reducible first | exact HB.out | apply below_alloc | apply pw_below_drewN | apply below_drew1 | refine below_set ?_ GE184.out) | exact HB.out)⟩
              ·
               replace c32 := Bool.eq_false_iff.mpr c32
               subst c32
               have H1 : (some false) = some r := by rw [if_neg (show ¬ (false = true) by decide)] at H; exact H
               clear H
               have H := H1
               clear H1
               obtain rfl := Option.some.inj H
               have hcz34_0 : wc.cell? ⟨gb184, 0, none⟩ = some (.int .i64 a0_0) := (blk_cell BK184.out 0).trans rfl
               have hcz34_1 : wc.cell? ⟨gb184, 1, none⟩ = some (.int .i64 a0_1) := (blk_cell BK184.out 1).trans rfl
               have hcz34_2 : wc.cell? ⟨gb184, 2, none⟩ = some (.slice A0_2 l0_2.length c0_2) := (blk_cell BK184.out 2).trans rfl
               have hcz34_3 : wc.cell? ⟨gb184, 3, none⟩ = some (.slice A0_3 l0_3.length c0_3) := (blk_cell BK184.out 3).trans rfl
               have hcz34_4 : wc.cell? ⟨gb184, 4, none⟩ = some (.int .i64 a0_4) := (blk_cell BK184.out 4).trans rfl
               have hcz34_5 : wc.cell? ⟨gb184, 5, none⟩ = some (.int .i64 a0_5) := (blk_cell BK184.out 5).trans rfl
               have hcz34_6 : wc.cell? ⟨gb184, 6, none⟩ = some (.slice A0_6 l0_6.length c0_6) := (blk_cell BK184.out 6).trans rfl
               have hcz34_7 : wc.cell? ⟨gb184, 7, none⟩ = some (.slice A0_7 l0_7.length c0_7) := (blk_cell BK184.out 7).trans rfl
               have hfz34_0 := blk_frozen BK184.out 0
               have hfz34_1 := blk_frozen BK184.out 1
               have hfz34_2 := blk_frozen BK184.out 2
               have hfz34_3 := blk_frozen BK184.out 3
               have hfz34_4 := blk_frozen BK184.out 4
               have hfz34_5 := blk_frozen BK184.out 5
               have hfz34_6 := blk_frozen BK184.out 6
               have hfz34_7 := blk_frozen BK184.out 7
               go_wp2_with (first | (go_at_call 39; (with_reducible refine (thrumref06_Check.calls a0_1 _ _ l0_2 t185 _ ?side1 ?side2 A29.out).mono ?_); (case side1 => repeat (first | exact (Kd.C_below HR0_2.out HB.out) | (with_reducible refine Kd.C_alloc ?_ _) | (with_reducible refine Kd.C_drewN ?_ _) | (with_reducible refine Kd.C_drew ?_))); (case side2 => exact HC0_2.out); rintro e w' ⟨rfl, ⟨nd, rfl⟩⟩; (try first | exact ⟨rfl, _, World.drewN_drewN _ _ _⟩ | exact ⟨rfl, _, Eq.trans (World.drewN_drewN _ _ _) (congrArg (World.drewN _) (Nat.add_assoc _ _ _))⟩)))
               repeat (go_quiet (first | (go_at_call 39; (with_reducible refine (thrumref06_Check.calls a0_1 _ _ l0_2 t185 _ ?side1 ?side2 A29.out).mono ?_); (case side1 => repeat (first | exact (Kd.C_below HR0_2.out HB.out) | (with_reducible refine Kd.C_alloc ?_ _) | (with_reducible refine Kd.C_drewN ?_ _) | (with_reducible refine Kd.C_drew ?_))); (case side2 => exact HC0_2.out); rintro e w' ⟨rfl, ⟨nd, rfl⟩⟩; (try first | exact ⟨rfl, _, World.drewN_drewN _ _ _⟩ | exact ⟨rfl, _, Eq.trans (World.drewN_drewN _ _ _) (congrArg (World.drewN _) (Nat.add_assoc _ _ _))⟩))); try go_wp2_with (first | (go_at_call 39; (with_reducible refine (thrumref06_Check.calls a0_1 _ _ l0_2 t185 _ ?side1 ?side2 A29.out).mono ?_); (case side1 => repeat (first | exact (Kd.C_below HR0_2.out HB.out) | (with_reducible refine Kd.C_alloc ?_ _) | (with_reducible refine Kd.C_drewN ?_ _) | (with_reducible refine Kd.C_drew ?_))); (case side2 => exact HC0_2.out); rintro e w' ⟨rfl, ⟨nd, rfl⟩⟩; (try first | exact ⟨rfl, _, World.drewN_drewN _ _ _⟩ | exact ⟨rfl, _, Eq.trans (World.drewN_drewN _ _ _) (congrArg (World.drewN _) (Nat.add_assoc _ _ _))⟩))))
               go_ret
               exact ⟨by first | rfl | (simp [errW_none, errW_some] <;> rfl) | (simp [*, errW_none, errW_some] <;> rfl), by repeat (first | (with_reducible first | exact HB.out | apply below_alloc | apply pw_below_drewN | apply below_drew1 | refine below_set ?_ GE184.out) | exact HB.out)⟩
             ·
              rw [if_neg c31] at H
              have c31b0 : ((l0_3.length : Int) == (l0_2.length : Int)) = false := beq_eq_false_iff_ne.mpr c31
              have c31b1 : ((l0_3.length : Int) != (l0_2.length : Int)) = true := bne_iff_ne.mpr c31
              have c31b2 : (l0_3.length == l0_2.length) = false := by first | simpa using c31 | (simp at c31 ⊢; omega)
              obtain rfl := Option.some.inj H
              have hcz35_0 : wc.cell? ⟨gb184, 0, none⟩ = some (.int .i64 a0_0) := (blk_cell BK184.out 0).trans rfl
              have hcz35_1 : wc.cell? ⟨gb184, 1, none⟩ = some (.int .i64 a0_1) := (blk_cell BK184.out 1).trans rfl
              have hcz35_2 : wc.cell? ⟨gb184, 2, none⟩ = some (.slice A0_2 l0_2.length c0_2) := (blk_cell BK184.out 2).trans rfl
              have hcz35_3 : wc.cell? ⟨gb184, 3, none⟩ = some (.slice A0_3 l0_3.length c0_3) := (blk_cell BK184.out 3).trans rfl
              have hcz35_4 : wc.cell? ⟨gb184, 4, none⟩ = some (.int .i64 a0_4) := (blk_cell BK184.out 4).trans rfl
              have hcz35_5 : wc.cell? ⟨gb184, 5, none⟩ = some (.int .i64 a0_5) := (blk_cell BK184.out 5).trans rfl
              have hcz35_6 : wc.cell? ⟨gb184, 6, none⟩ = some (.slice A0_6 l0_6.length c0_6) := (blk_cell BK184.out 6).trans rfl
              have hcz35_7 : wc.cell? ⟨gb184, 7, none⟩ = some (.slice A0_7 l0_7.length c0_7) := (blk_cell BK184.out 7).trans rfl
              have hfz35_0 := blk_frozen BK184.out 0
              have hfz35_1 := blk_frozen BK184.out 1
              have hfz35_2 := blk_frozen BK184.out 2
              have hfz35_3 := blk_frozen BK184.out 3
              have hfz35_4 := blk_frozen BK184.out 4
              have hfz35_5 := blk_frozen BK184.out 5
              have hfz35_6 := blk_frozen BK184.out 6
              have hfz35_7 := blk_frozen BK184.out 7
              go_wp2_with (first | (go_at_call 39; (with_reducible refine (thrumref06_Check.calls a0_1 _ _ l0_2 t185 _ ?side1 ?side2 A29.out).mono ?_); (case side1 => repeat (first | exact (Kd.C_below HR0_2.out HB.out) | (with_reducible refine Kd.C_alloc ?_ _) | (with_reducible refine Kd.C_drewN ?_ _) | (with_reducible refine Kd.C_drew ?_))); (case side2 => exact HC0_2.out); rintro e w' ⟨rfl, ⟨nd, rfl⟩⟩; (try first | exact ⟨rfl, _, World.drewN_drewN _ _ _⟩ | exact ⟨rfl, _, Eq.trans (World.drewN_drewN _ _ _) (congrArg (World.drewN _) (Nat.add_assoc _ _ _))⟩)))
              repeat (go_quiet (first | (go_at_call 39; (with_reducible refine (thrumref06_Check.calls a0_1 _ _ l0_2 t185 _ ?side1 ?side2 A29.out).mono ?_); (case side1 => repeat (first | exact (Kd.C_below HR0_2.out HB.out) | (with_reducible refine Kd.C_alloc ?_ _) | (with_reducible refine Kd.C_drewN ?_ _) | (with_reducible refine Kd.C_drew ?_))); (case side2 => exact HC0_2.out); rintro e w' ⟨rfl, ⟨nd, rfl⟩⟩; (try first | exact ⟨rfl, _, World.drewN_drewN _ _ _⟩ | exact ⟨rfl, _, Eq.trans (World.drewN_drewN _ _ _) (congrArg (World.drewN _) (Nat.add_assoc _ _ _))⟩))); try go_wp2_with (first | (go_at_call 39; (with_reducible refine (thrumref06_Check.calls a0_1 _ _ l0_2 t185 _ ?side1 ?side2 A29.out).mono ?_); (case side1 => repeat (first | exact (Kd.C_below HR0_2.out HB.out) | (with_reducible refine Kd.C_alloc ?_ _) | (with_reducible refine Kd.C_drewN ?_ _) | (with_reducible refine Kd.C_drew ?_))); (case side2 => exact HC0_2.out); rintro e w' ⟨rfl, ⟨nd, rfl⟩⟩; (try first | exact ⟨rfl, _, World.drewN_drewN _ _ _⟩ | exact ⟨rfl, _, Eq.trans (World.drewN_drewN _ _ _) (congrArg (World.drewN _) (Nat.add_assoc _ _ _))⟩))))
              go_ret
              exact ⟨by first | rfl | (simp [errW_none, errW_some] <;> rfl) | (simp [*, errW_none, errW_some] <;> rfl), by repeat (first | (with_reducible first | exact HB.out | apply below_alloc | apply pw_below_drewN | apply below_drew1 | refine below_set ?_ GE184.out) | exact HB.out)⟩
            ·
             rw [if_neg c30] at H
             have c30b0 : (t185 == 0) = false := beq_eq_false_iff_ne.mpr c30
             have c30b1 : (t185 != 0) = true := bne_iff_ne.mpr c30
             obtain rfl := Option.some.inj H
             have hcz36_0 : wc.cell? ⟨gb184, 0, none⟩ = some (.int .i64 a0_0) := (blk_cell BK184.out 0).trans rfl
             have hcz36_1 : wc.cell? ⟨gb184, 1, none⟩ = some (.int .i64 a0_1) := (blk_cell BK184.out 1).trans rfl
             have hcz36_2 : wc.cell? ⟨gb184, 2, none⟩ = some (.slice A0_2 l0_2.length c0_2) := (blk_cell BK184.out 2).trans rfl
             have hcz36_3 : wc.cell? ⟨gb184, 3, none⟩ = some (.slice A0_3 l0_3.length c0_3) := (blk_cell BK184.out 3).trans rfl
             have hcz36_4 : wc.cell? ⟨gb184, 4, none⟩ = some (.int .i64 a0_4) := (blk_cell BK184.out 4).trans rfl
             have hcz36_5 : wc.cell? ⟨gb184, 5, none⟩ = some (.int .i64 a0_5) := (blk_cell BK184.out 5).trans rfl
             have hcz36_6 : wc.cell? ⟨gb184, 6, none⟩ = some (.slice A0_6 l0_6.length c0_6) := (blk_cell BK184.out 6).trans rfl
             have hcz36_7 : wc.cell? ⟨gb184, 7, none⟩ = some (.slice A0_7 l0_7.length c0_7) := (blk_cell BK184.out 7).trans rfl
             have hfz36_0 := blk_frozen BK184.out 0
             have hfz36_1 := blk_frozen BK184.out 1
             have hfz36_2 := blk_frozen BK184.out 2
             have hfz36_3 := blk_frozen BK184.out 3
             have hfz36_4 := blk_frozen BK184.out 4
             have hfz36_5 := blk_frozen BK184.out 5
             have hfz36_6 := blk_frozen BK184.out 6
             have hfz36_7 := blk_frozen BK184.out 7
             go_wp2_with (first | (go_at_call 39; (with_reducible refine (thrumref06_Check.calls a0_1 _ _ l0_2 t185 _ ?side1 ?side2 A29.out).mono ?_); (case side1 => repeat (first | exact (Kd.C_below HR0_2.out HB.out) | (with_reducible refine Kd.C_alloc ?_ _) | (with_reducible refine Kd.C_drewN ?_ _) | (with_reducible refine Kd.C_drew ?_))); (case side2 => exact HC0_2.out); rintro e w' ⟨rfl, ⟨nd, rfl⟩⟩; (try first | exact ⟨rfl, _, World.drewN_drewN _ _ _⟩ | exact ⟨rfl, _, Eq.trans (World.drewN_drewN _ _ _) (congrArg (World.drewN _) (Nat.add_assoc _ _ _))⟩)))
             repeat (go_quiet (first | (go_at_call 39; (with_reducible refine (thrumref06_Check.calls a0_1 _ _ l0_2 t185 _ ?side1 ?side2 A29.out).mono ?_); (case side1 => repeat (first | exact (Kd.C_below HR0_2.out HB.out) | (with_reducible refine Kd.C_alloc ?_ _) | (with_reducible refine Kd.C_drewN ?_ _) | (with_reducible refine Kd.C_drew ?_))); (case side2 => exact HC0_2.out); rintro e w' ⟨rfl, ⟨nd, rfl⟩⟩; (try first | exact ⟨rfl, _, World.drewN_drewN _ _ _⟩ | exact ⟨rfl, _, Eq.trans (World.drewN_drewN _ _ _) (congrArg (World.drewN _) (Nat.add_assoc _ _ _))⟩))); try go_wp2_with (first | (go_at_call 39; (with_reducible refine (thrumref06_Check.calls a0_1 _ _ l0_2 t185 _ ?side1 ?side2 A29.out).mono ?_); (case side1 => repeat (first | exact (Kd.C_below HR0_2.out HB.out) | (with_reducible refine Kd.C_alloc ?_ _) | (with_reducible refine Kd.C_drewN ?_ _) | (with_reducible refine Kd.C_drew ?_))); (case side2 => exact HC0_2.out); rintro e w' ⟨rfl, ⟨nd, rfl⟩⟩; (try first | exact ⟨rfl, _, World.drewN_drewN _ _ _⟩ | exact ⟨rfl, _, Eq.trans (World.drewN_drewN _ _ _) (congrArg (World.drewN _) (Nat.add_assoc _ _ _))⟩))))
             go_ret
             exact ⟨by first | rfl | (simp [errW_none, errW_some] <;> rfl) | (simp [*, errW_none, errW_some] <;> rfl), by repeat (first | (with_reducible first | exact HB.out | apply below_alloc | apply pw_below_drewN | apply below_drew1 | refine below_set ?_ GE184.out) | exact HB.out)⟩
           ·
            rw [if_neg c28] at H
            have c28b0 : (a0_0 == 1) = false := beq_eq_false_iff_ne.mpr c28
            have c28b1 : (a0_0 != 1) = true := bne_iff_ne.mpr c28
            by_cases c37 : a0_0 = 2
            ·
             rw [if_pos c37] at H
             have c37b0 : (a0_0 == 2) = true := beq_iff_eq.mpr c37
             have c37b1 : (a0_0 != 2) = false := bne_eq_false_iff_eq.mpr c37
             clear c37
             have HC38 := Aside0.mk H
             clear H
             have hcz39_0 : wc.cell? ⟨gb184, 0, none⟩ = some (.int .i64 a0_0) := (blk_cell BK184.out 0).trans rfl
             have hcz39_1 : wc.cell? ⟨gb184, 1, none⟩ = some (.int .i64 a0_1) := (blk_cell BK184.out 1).trans rfl
             have hcz39_2 : wc.cell? ⟨gb184, 2, none⟩ = some (.slice A0_2 l0_2.length c0_2) := (blk_cell BK184.out 2).trans rfl
             have hcz39_3 : wc.cell? ⟨gb184, 3, none⟩ = some (.slice A0_3 l0_3.length c0_3) := (blk_cell BK184.out 3).trans rfl
             have hcz39_4 : wc.cell? ⟨gb184, 4, none⟩ = some (.int .i64 a0_4) := (blk_cell BK184.out 4).trans rfl
             have hcz39_5 : wc.cell? ⟨gb184, 5, none⟩ = some (.int .i64 a0_5) := (blk_cell BK184.out 5).trans rfl
             have hcz39_6 : wc.cell? ⟨gb184, 6, none⟩ = some (.slice A0_6 l0_6.length c0_6) := (blk_cell BK184.out 6).trans rfl
             have hcz39_7 : wc.cell? ⟨gb184, 7, none⟩ = some (.slice A0_7 l0_7.length c0_7) := (blk_cell BK184.out 7).trans rfl
             have hfz39_0 := blk_frozen BK184.out 0
             have hfz39_1 := blk_frozen BK184.out 1
             have hfz39_2 := blk_frozen BK184.out 2
             have hfz39_3 := blk_frozen BK184.out 3
             have hfz39_4 := blk_frozen BK184.out 4
             have hfz39_5 := blk_frozen BK184.out 5
             have hfz39_6 := blk_frozen BK184.out 6
             have hfz39_7 := blk_frozen BK184.out 7
             go_upto_region 12 with (fail)
             repeat (go_quiet (fail); go_upto_region 12 with (fail))
             go_cut [106] (fun v106 wc => ∃ (kq : Nat) (x106_37 : Bool), v106 = .bool x106_37 ∧ Aside0 (thrumref07_MayP.j4 kq x3_7 x106_37 a0_0 a0_1 l0_2 l0_3 a0_4 a0_5 l0_6 l0_7 = some r) ∧ Aside0 (kq ≤ kj15) ∧ Aside0 (wc.heap[gb184]? = some (.cells #[.int .i64 a0_0, .int .i64 a0_1, (.slice A0_2 l0_2.length c0_2), (.slice A0_3 l0_3.length c0_3), .int .i64 a0_4, .int .i64 a0_5, (.slice A0_6 l0_6.length c0_6), (.slice A0_7 l0_7.length c0_7)] 29 (0, 0))) ∧ Aside0 (Below w.heap.size w wc))
             case first =>
              have H := HC38.out
              clear HC38
              by_cases c40 : a0_5 < 1
              ·
               rw [if_pos c40] at H
               have c40b0 : decide (a0_5 < 1) = true := decide_eq_true c40
               clear c40
               (first | rw [c40b0] | (simp only [i64_w, i32_w]; rw [c40b0]) | skip)
               have H' := Aside0.mk H
               clear H
               have hcz41_0 : wc.cell? ⟨gb184, 0, none⟩ = some (.int .i64 a0_0) := (blk_cell BK184.out 0).trans rfl
               have hcz41_1 : wc.cell? ⟨gb184, 1, none⟩ = some (.int .i64 a0_1) := (blk_cell BK184.out 1).trans rfl
               have hcz41_2 : wc.cell? ⟨gb184, 2, none⟩ = some (.slice A0_2 l0_2.length c0_2) := (blk_cell BK184.out 2).trans rfl
               have hcz41_3 : wc.cell? ⟨gb184, 3, none⟩ = some (.slice A0_3 l0_3.length c0_3) := (blk_cell BK184.out 3).trans rfl
               have hcz41_4 : wc.cell? ⟨gb184, 4, none⟩ = some (.int .i64 a0_4) := (blk_cell BK184.out 4).trans rfl
               have hcz41_5 : wc.cell? ⟨gb184, 5, none⟩ = some (.int .i64 a0_5) := (blk_cell BK184.out 5).trans rfl
               have hcz41_6 : wc.cell? ⟨gb184, 6, none⟩ = some (.slice A0_6 l0_6.length c0_6) := (blk_cell BK184.out 6).trans rfl
               have hcz41_7 : wc.cell? ⟨gb184, 7, none⟩ = some (.slice A0_7 l0_7.length c0_7) := (blk_cell BK184.out 7).trans rfl
               have hfz41_0 := blk_frozen BK184.out 0
               have hfz41_1 := blk_frozen BK184.out 1
               have hfz41_2 := blk_frozen BK184.out 2
               have hfz41_3 := blk_frozen BK184.out 3
               have hfz41_4 := blk_frozen BK184.out 4
               have hfz41_5 := blk_frozen BK184.out 5
               have hfz41_6 := blk_frozen BK184.out 6
               have hfz41_7 := blk_frozen BK184.out 7
               go_wp2
               repeat (go_quiet (fail); try go_wp2)
               go_meet
               case rel => exact ⟨_, (true), (by first | rfl | (simp; done) | (simp [*]; done)), H', ⟨by have := HJ1.out; have := HJ7.out; have := HJ11.out; have := HJ15.out; first | omega | exact Nat.le_refl _⟩, ⟨by (with_reducible repeat (first | refine blk_drewN ?_ _ | refine blk_drew ?_ | refine blk_alloc ?_ _)); exact BK184.out⟩, ⟨by repeat (first | (with_reducible first | exact HB.out | apply below_alloc | apply pw_below_drewN | apply below_drew1 | refine below_set ?_ GE184.out) | exact HB.out)⟩⟩
              ·
               rw [if_neg c40] at H
               have c40b0 : decide (a0_5 < 1) = false := decide_eq_false c40
               clear c40
               (first | rw [c40b0] | (simp only [i64_w, i32_w]; rw [c40b0]) | skip)
               by_cases c42 : a0_5 > 8
               ·
                rw [if_pos c42] at H
                have c42b0 : decide (8 < a0_5) = true := decide_eq_true c42
                clear c42
                have H' := Aside0.mk H
                clear H
                have hcz43_0 : wc.cell? ⟨gb184, 0, none⟩ = some (.int .i64 a0_0) := (blk_cell BK184.out 0).trans rfl
                have hcz43_1 : wc.cell? ⟨gb184, 1, none⟩ = some (.int .i64 a0_1) := (blk_cell BK184.out 1).trans rfl
                have hcz43_2 : wc.cell? ⟨gb184, 2, none⟩ = some (.slice A0_2 l0_2.length c0_2) := (blk_cell BK184.out 2).trans rfl
                have hcz43_3 : wc.cell? ⟨gb184, 3, none⟩ = some (.slice A0_3 l0_3.length c0_3) := (blk_cell BK184.out 3).trans rfl
                have hcz43_4 : wc.cell? ⟨gb184, 4, none⟩ = some (.int .i64 a0_4) := (blk_cell BK184.out 4).trans rfl
                have hcz43_5 : wc.cell? ⟨gb184, 5, none⟩ = some (.int .i64 a0_5) := (blk_cell BK184.out 5).trans rfl
                have hcz43_6 : wc.cell? ⟨gb184, 6, none⟩ = some (.slice A0_6 l0_6.length c0_6) := (blk_cell BK184.out 6).trans rfl
                have hcz43_7 : wc.cell? ⟨gb184, 7, none⟩ = some (.slice A0_7 l0_7.length c0_7) := (blk_cell BK184.out 7).trans rfl
                have hfz43_0 := blk_frozen BK184.out 0
                have hfz43_1 := blk_frozen BK184.out 1
                have hfz43_2 := blk_frozen BK184.out 2
                have hfz43_3 := blk_frozen BK184.out 3
                have hfz43_4 := blk_frozen BK184.out 4
                have hfz43_5 := blk_frozen BK184.out 5
                have hfz43_6 := blk_frozen BK184.out 6
                have hfz43_7 := blk_frozen BK184.out 7
                go_wp2
                repeat (go_quiet (fail); try go_wp2)
                go_meet
                case rel => exact ⟨_, (true), (by first | rfl | (simp; done) | (simp [*]; done)), H', ⟨by have := HJ1.out; have := HJ7.out; have := HJ11.out; have := HJ15.out; first | omega | exact Nat.le_refl _⟩, ⟨by (with_reducible repeat (first | refine blk_drewN ?_ _ | refine blk_drew ?_ | refine blk_alloc ?_ _)); exact BK184.out⟩, ⟨by repeat (first | (with_reducible first | exact HB.out | apply below_alloc | apply pw_below_drewN | apply below_drew1 | refine below_set ?_ GE184.out) | exact HB.out)⟩⟩
               ·
                rw [if_neg c42] at H
                have c42b0 : decide (8 < a0_5) = false := decide_eq_false c42
                clear c42
                have H' := Aside0.mk H
                clear H
                have hcz44_0 : wc.cell? ⟨gb184, 0, none⟩ = some (.int .i64 a0_0) := (blk_cell BK184.out 0).trans rfl
                have hcz44_1 : wc.cell? ⟨gb184, 1, none⟩ = some (.int .i64 a0_1) := (blk_cell BK184.out 1).trans rfl
                have hcz44_2 : wc.cell? ⟨gb184, 2, none⟩ = some (.slice A0_2 l0_2.length c0_2) := (blk_cell BK184.out 2).trans rfl
                have hcz44_3 : wc.cell? ⟨gb184, 3, none⟩ = some (.slice A0_3 l0_3.length c0_3) := (blk_cell BK184.out 3).trans rfl
                have hcz44_4 : wc.cell? ⟨gb184, 4, none⟩ = some (.int .i64 a0_4) := (blk_cell BK184.out 4).trans rfl
                have hcz44_5 : wc.cell? ⟨gb184, 5, none⟩ = some (.int .i64 a0_5) := (blk_cell BK184.out 5).trans rfl
                have hcz44_6 : wc.cell? ⟨gb184, 6, none⟩ = some (.slice A0_6 l0_6.length c0_6) := (blk_cell BK184.out 6).trans rfl
                have hcz44_7 : wc.cell? ⟨gb184, 7, none⟩ = some (.slice A0_7 l0_7.length c0_7) := (blk_cell BK184.out 7).trans rfl
                have hfz44_0 := blk_frozen BK184.out 0
                have hfz44_1 := blk_frozen BK184.out 1
                have hfz44_2 := blk_frozen BK184.out 2
                have hfz44_3 := blk_frozen BK184.out 3
                have hfz44_4 := blk_frozen BK184.out 4
                have hfz44_5 := blk_frozen BK184.out 5
                have hfz44_6 := blk_frozen BK184.out 6
                have hfz44_7 := blk_frozen BK184.out 7
                go_wp2
                repeat (go_quiet (fail); try go_wp2)
                go_meet
                case rel => exact ⟨_, (((l0_6.length : Int) != a0_1)), (by first | rfl | (simp; done) | (simp [*]; done)), H', ⟨by have := HJ1.out; have := HJ7.out; have := HJ11.out; have := HJ15.out; first | omega | exact Nat.le_refl _⟩, ⟨by (with_reducible repeat (first | refine blk_drewN ?_ _ | refine blk_drew ?_ | refine blk_alloc ?_ _)); exact BK184.out⟩, ⟨by repeat (first | (with_reducible first | exact HB.out | apply below_alloc | apply pw_below_drewN | apply below_drew1 | refine below_set ?_ GE184.out) | exact HB.out)⟩⟩
             case rest =>
              clear HC38
              try clear c1
              try clear c2
              try clear p2
              try clear c3
              try clear c4
              try clear c4b0
              try clear c7
              try clear c9
              try clear c9b0
              try clear c9b1
              try clear c9b2
              try clear c13
              try clear c13b0
              try clear c13b1
              try clear c17
              try clear c17b0
              try clear c17b1
              try clear c20
              try clear c20b0
              try clear c20b1
              try clear c21
              try clear c21b0
              try clear c21b1
              try clear c21b2
              try clear c22
              try clear c22b0
              try clear c22b1
              try clear c23
              try clear c28
              try clear c28b0
              try clear c28b1
              try clear c30
              try clear c30b0
              try clear c30b1
              try clear c31
              try clear c31b0
              try clear c31b1
              try clear c31b2
              try clear c32
              try clear c37
              try clear c37b0
              try clear c37b1
              try clear c40
              try clear c40b0
              try clear c42
              try clear c42b0
              try clear hcz10_0
              try clear hcz10_1
              try clear hcz10_2
              try clear hcz10_3
              try clear hcz10_4
              try clear hcz10_5
              try clear hcz10_6
              try clear hcz10_7
              try clear hcz11_0
              try clear hcz11_1
              try clear hcz11_2
              try clear hcz11_3
              try clear hcz11_4
              try clear hcz11_5
              try clear hcz11_6
              try clear hcz11_7
              try clear hcz14_0
              try clear hcz14_1
              try clear hcz14_2
              try clear hcz14_3
              try clear hcz14_4
              try clear hcz14_5
              try clear hcz14_6
              try clear hcz14_7
              try clear hcz15_0
              try clear hcz15_1
              try clear hcz15_2
              try clear hcz15_3
              try clear hcz15_4
              try clear hcz15_5
              try clear hcz15_6
              try clear hcz15_7
              try clear hcz18_0
              try clear hcz18_1
              try clear hcz18_2
              try clear hcz18_3
              try clear hcz18_4
              try clear hcz18_5
              try clear hcz18_6
              try clear hcz18_7
              try clear hcz19_0
              try clear hcz19_1
              try clear hcz19_2
              try clear hcz19_3
              try clear hcz19_4
              try clear hcz19_5
              try clear hcz19_6
              try clear hcz19_7
              try clear hcz24_0
              try clear hcz24_1
              try clear hcz24_2
              try clear hcz24_3
              try clear hcz24_4
              try clear hcz24_5
              try clear hcz24_6
              try clear hcz24_7
              try clear hcz25_0
              try clear hcz25_1
              try clear hcz25_2
              try clear hcz25_3
              try clear hcz25_4
              try clear hcz25_5
              try clear hcz25_6
              try clear hcz25_7
              try clear hcz26_0
              try clear hcz26_1
              try clear hcz26_2
              try clear hcz26_3
              try clear hcz26_4
              try clear hcz26_5
              try clear hcz26_6
              try clear hcz26_7
              try clear hcz27_0
              try clear hcz27_1
              try clear hcz27_2
              try clear hcz27_3
              try clear hcz27_4
              try clear hcz27_5
              try clear hcz27_6
              try clear hcz27_7
              try clear hcz33_0
              try clear hcz33_1
              try clear hcz33_2
              try clear hcz33_3
              try clear hcz33_4
              try clear hcz33_5
              try clear hcz33_6
              try clear hcz33_7
              try clear hcz34_0
              try clear hcz34_1
              try clear hcz34_2
              try clear hcz34_3
              try clear hcz34_4
              try clear hcz34_5
              try clear hcz34_6
              try clear hcz34_7
              try clear hcz35_0
              try clear hcz35_1
              try clear hcz35_2
              try clear hcz35_3
              try clear hcz35_4
              try clear hcz35_5
              try clear hcz35_6
              try clear hcz35_7
              try clear hcz36_0
              try clear hcz36_1
              try clear hcz36_2
              try clear hcz36_3
              try clear hcz36_4
              try clear hcz36_5
              try clear hcz36_6
              try clear hcz36_7
              try clear hcz39_0
              try clear hcz39_1
              try clear hcz39_2
              try clear hcz39_3
              try clear hcz39_4
              try clear hcz39_5
              try clear hcz39_6
              try clear hcz39_7
              try clear hcz41_0
              try clear hcz41_1
              try clear hcz41_2
              try clear hcz41_3
              try clear hcz41_4
              try clear hcz41_5
              try clear hcz41_6
              try clear hcz41_7
              try clear hcz43_0
              try clear hcz43_1
              try clear hcz43_2
              try clear hcz43_3
              try clear hcz43_4
              try clear hcz43_5
              try clear hcz43_6
              try clear hcz43_7
              try clear hcz44_0
              try clear hcz44_1
              try clear hcz44_2
              try clear hcz44_3
              try clear hcz44_4
              try clear hcz44_5
              try clear hcz44_6
              try clear hcz44_7
              try clear hcz5_0
              try clear hcz5_1
              try clear hcz5_2
              try clear hcz5_3
              try clear hcz5_4
              try clear hcz5_5
              try clear hcz5_6
              try clear hcz5_7
              try clear hcz6_0
              try clear hcz6_1
              try clear hcz6_2
              try clear hcz6_3
              try clear hcz6_4
              try clear hcz6_5
              try clear hcz6_6
              try clear hcz6_7
              try clear hfz10_0
              try clear hfz10_1
              try clear hfz10_2
              try clear hfz10_3
              try clear hfz10_4
              try clear hfz10_5
              try clear hfz10_6
              try clear hfz10_7
              try clear hfz11_0
              try clear hfz11_1
              try clear hfz11_2
              try clear hfz11_3
              try clear hfz11_4
              try clear hfz11_5
              try clear hfz11_6
              try clear hfz11_7
              try clear hfz14_0
              try clear hfz14_1
              try clear hfz14_2
              try clear hfz14_3
              try clear hfz14_4
              try clear hfz14_5
              try clear hfz14_6
              try clear hfz14_7
              try clear hfz15_0
              try clear hfz15_1
              try clear hfz15_2
              try clear hfz15_3
              try clear hfz15_4
              try clear hfz15_5
              try clear hfz15_6
              try clear hfz15_7
              try clear hfz18_0
              try clear hfz18_1
              try clear hfz18_2
              try clear hfz18_3
              try clear hfz18_4
              try clear hfz18_5
              try clear hfz18_6
              try clear hfz18_7
              try clear hfz19_0
              try clear hfz19_1
              try clear hfz19_2
              try clear hfz19_3
              try clear hfz19_4
              try clear hfz19_5
              try clear hfz19_6
              try clear hfz19_7
              try clear hfz24_0
              try clear hfz24_1
              try clear hfz24_2
              try clear hfz24_3
              try clear hfz24_4
              try clear hfz24_5
              try clear hfz24_6
              try clear hfz24_7
              try clear hfz25_0
              try clear hfz25_1
              try clear hfz25_2
              try clear hfz25_3
              try clear hfz25_4
              try clear hfz25_5
              try clear hfz25_6
              try clear hfz25_7
              try clear hfz26_0
              try clear hfz26_1
              try clear hfz26_2
              try clear hfz26_3
              try clear hfz26_4
              try clear hfz26_5
              try clear hfz26_6
              try clear hfz26_7
              try clear hfz27_0
              try clear hfz27_1
              try clear hfz27_2
              try clear hfz27_3
              try clear hfz27_4
              try clear hfz27_5
              try clear hfz27_6
              try clear hfz27_7
              try clear hfz33_0
              try clear hfz33_1
              try clear hfz33_2
              try clear hfz33_3
              try clear hfz33_4
              try clear hfz33_5
              try clear hfz33_6
              try clear hfz33_7
              try clear hfz34_0
              try clear hfz34_1
              try clear hfz34_2
              try clear hfz34_3
              try clear hfz34_4
              try clear hfz34_5
              try clear hfz34_6
              try clear hfz34_7
              try clear hfz35_0
              try clear hfz35_1
              try clear hfz35_2
              try clear hfz35_3
              try clear hfz35_4
              try clear hfz35_5
              try clear hfz35_6
              try clear hfz35_7
              try clear hfz36_0
              try clear hfz36_1
              try clear hfz36_2
              try clear hfz36_3
              try clear hfz36_4
              try clear hfz36_5
              try clear hfz36_6
              try clear hfz36_7
              try clear hfz39_0
              try clear hfz39_1
              try clear hfz39_2
              try clear hfz39_3
              try clear hfz39_4
              try clear hfz39_5
              try clear hfz39_6
              try clear hfz39_7
              try clear hfz41_0
              try clear hfz41_1
              try clear hfz41_2
              try clear hfz41_3
              try clear hfz41_4
              try clear hfz41_5
              try clear hfz41_6
              try clear hfz41_7
              try clear hfz43_0
              try clear hfz43_1
              try clear hfz43_2
              try clear hfz43_3
              try clear hfz43_4
              try clear hfz43_5
              try clear hfz43_6
              try clear hfz43_7
              try clear hfz44_0
              try clear hfz44_1
              try clear hfz44_2
              try clear hfz44_3
              try clear hfz44_4
              try clear hfz44_5
              try clear hfz44_6
              try clear hfz44_7
              try clear hfz5_0
              try clear hfz5_1
              try clear hfz5_2
              try clear hfz5_3
              try clear hfz5_4
              try clear hfz5_5
              try clear hfz5_6
              try clear hfz5_7
              try clear hfz6_0
              try clear hfz6_1
              try clear hfz6_2
              try clear hfz6_3
              try clear hfz6_4
              try clear hfz6_5
              try clear hfz6_6
              try clear hfz6_7
              try clear p2
              obtain ⟨kq, x106_37, rfl, HA, HJ37, BK184, HB⟩ := hcut
              cases kq with
              | zero => exact absurd HA.out (by simp [thrumref07_MayP.j4])
              | succ kj37 =>
               have H := HA.out
               clear HA
               simp only [thrumref07_MayP.j4] at H
               by_cases c45 : x106_37 = true
               ·
                subst c45
                have H1 : (some false) = some r := by rw [if_pos rfl] at H; exact H
                clear H
                have H := H1
                clear H1
                obtain rfl := Option.some.inj H
                go_wp2
                repeat (go_quiet (fail); try go_wp2)
                go_ret
                exact ⟨by first | rfl | (simp [errW_none, errW_some] <;> rfl) | (simp [*, errW_none, errW_some] <;> rfl), by repeat (first | (with_reducible first | exact HB.out | apply below_alloc | apply pw_below_drewN | apply below_drew1 | refine below_set ?_ GE184.out) | exact HB.out)⟩
               ·
                replace c45 := Bool.eq_false_iff.mpr c45
                subst c45
                have H1 : (thrumref07_MayP.l0 kj37 x3_7 l0_6 (l0_6.length : Int) 0 a0_0 a0_1 l0_2 l0_3 a0_4 a0_5 l0_6 l0_7) = some r := by rw [if_neg (show ¬ (false = true) by decide)] at H; exact H
                clear H
                have H := H1
                clear H1
                have H' := Aside0.mk H
                clear H
                have hcz46_0 : wc.cell? ⟨gb184, 0, none⟩ = some (.int .i64 a0_0) := (blk_cell BK184.out 0).trans rfl
                have hcz46_1 : wc.cell? ⟨gb184, 1, none⟩ = some (.int .i64 a0_1) := (blk_cell BK184.out 1).trans rfl
                have hcz46_2 : wc.cell? ⟨gb184, 2, none⟩ = some (.slice A0_2 l0_2.length c0_2) := (blk_cell BK184.out 2).trans rfl
                have hcz46_3 : wc.cell? ⟨gb184, 3, none⟩ = some (.slice A0_3 l0_3.length c0_3) := (blk_cell BK184.out 3).trans rfl
                have hcz46_4 : wc.cell? ⟨gb184, 4, none⟩ = some (.int .i64 a0_4) := (blk_cell BK184.out 4).trans rfl
                have hcz46_5 : wc.cell? ⟨gb184, 5, none⟩ = some (.int .i64 a0_5) := (blk_cell BK184.out 5).trans rfl
                have hcz46_6 : wc.cell? ⟨gb184, 6, none⟩ = some (.slice A0_6 l0_6.length c0_6) := (blk_cell BK184.out 6).trans rfl
                have hcz46_7 : wc.cell? ⟨gb184, 7, none⟩ = some (.slice A0_7 l0_7.length c0_7) := (blk_cell BK184.out 7).trans rfl
                have hfz46_0 := blk_frozen BK184.out 0
                have hfz46_1 := blk_frozen BK184.out 1
                have hfz46_2 := blk_frozen BK184.out 2
                have hfz46_3 := blk_frozen BK184.out 3
                have hfz46_4 := blk_frozen BK184.out 4
                have hfz46_5 := blk_frozen BK184.out 5
                have hfz46_6 := blk_frozen BK184.out 6
                have hfz46_7 := blk_frozen BK184.out 7
                go_wp2
                repeat (go_quiet (fail); try go_wp2)
                go_loopg [110] kj37 (fun kq v110 w' => ∃ (x110_6 : Int), v110 = .int .i64 x110_6 ∧ Aside0 (thrumref07_MayP.l0 kq x3_7 l0_6 (l0_6.length : Int) x110_6 a0_0 a0_1 l0_2 l0_3 a0_4 a0_5 l0_6 l0_7 = some r) ∧ Aside0 (kq ≤ kj37) ∧ Aside0 (w'.heap[gb184]? = some (.cells #[.int .i64 a0_0, .int .i64 a0_1, (.slice A0_2 l0_2.length c0_2), (.slice A0_3 l0_3.length c0_3), .int .i64 a0_4, .int .i64 a0_5, (.slice A0_6 l0_6.length c0_6), (.slice A0_7 l0_7.length c0_7)] 29 (0, 0))) ∧ Aside0 (Below w.heap.size w w'))
                case atStart => exact ⟨(0), (by first | rfl | (simp; done) | (simp [*]; done)), H', ⟨Nat.le_refl _⟩, ⟨by (with_reducible repeat (first | refine blk_drewN ?_ _ | refine blk_drew ?_ | refine blk_alloc ?_ _)); exact BK184.out⟩, ⟨by repeat (first | (with_reducible first | exact HB.out | apply below_alloc | apply pw_below_drewN | apply below_drew1 | refine below_set ?_ GE184.out) | exact HB.out)⟩⟩
                case round =>
                 clear H'
                 try clear c1
                 try clear c2
                 try clear p2
                 try clear c3
                 try clear c4
                 try clear c4b0
                 try clear c7
                 try clear c9
                 try clear c9b0
                 try clear c9b1
                 try clear c9b2
                 try clear c13
                 try clear c13b0
                 try clear c13b1
                 try clear c17
                 try clear c17b0
                 try clear c17b1
                 try clear c20
                 try clear c20b0
                 try clear c20b1
                 try clear c21
                 try clear c21b0
                 try clear c21b1
                 try clear c21b2
                 try clear c22
                 try clear c22b0
                 try clear c22b1
                 try clear c23
                 try clear c28
                 try clear c28b0
                 try clear c28b1
                 try clear c30
                 try clear c30b0
                 try clear c30b1
                 try clear c31
                 try clear c31b0
                 try clear c31b1
                 try clear c31b2
                 try clear c32
                 try clear c37
                 try clear c37b0
                 try clear c37b1
                 try clear c40
                 try clear c40b0
                 try clear c42
                 try clear c42b0
                 try clear c45
                 try clear hcz10_0
                 try clear hcz10_1
                 try clear hcz10_2
                 try clear hcz10_3
                 try clear hcz10_4
                 try clear hcz10_5
                 try clear hcz10_6
                 try clear hcz10_7
                 try clear hcz11_0
                 try clear hcz11_1
                 try clear hcz11_2
                 try clear hcz11_3
                 try clear hcz11_4
                 try clear hcz11_5
                 try clear hcz11_6
                 try clear hcz11_7
                 try clear hcz14_0
                 try clear hcz14_1
                 try clear hcz14_2
                 try clear hcz14_3
                 try clear hcz14_4
                 try clear hcz14_5
                 try clear hcz14_6
                 try clear hcz14_7
                 try clear hcz15_0
                 try clear hcz15_1
                 try clear hcz15_2
                 try clear hcz15_3
                 try clear hcz15_4
                 try clear hcz15_5
                 try clear hcz15_6
                 try clear hcz15_7
                 try clear hcz18_0
                 try clear hcz18_1
                 try clear hcz18_2
                 try clear hcz18_3
                 try clear hcz18_4
                 try clear hcz18_5
                 try clear hcz18_6
                 try clear hcz18_7
                 try clear hcz19_0
                 try clear hcz19_1
                 try clear hcz19_2
                 try clear hcz19_3
                 try clear hcz19_4
                 try clear hcz19_5
                 try clear hcz19_6
                 try clear hcz19_7
                 try clear hcz24_0
                 try clear hcz24_1
                 try clear hcz24_2
                 try clear hcz24_3
                 try clear hcz24_4
                 try clear hcz24_5
                 try clear hcz24_6
                 try clear hcz24_7
                 try clear hcz25_0
                 try clear hcz25_1
                 try clear hcz25_2
                 try clear hcz25_3
                 try clear hcz25_4
                 try clear hcz25_5
                 try clear hcz25_6
                 try clear hcz25_7
                 try clear hcz26_0
                 try clear hcz26_1
                 try clear hcz26_2
                 try clear hcz26_3
                 try clear hcz26_4
                 try clear hcz26_5
                 try clear hcz26_6
                 try clear hcz26_7
                 try clear hcz27_0
                 try clear hcz27_1
                 try clear hcz27_2
                 try clear hcz27_3
                 try clear hcz27_4
                 try clear hcz27_5
                 try clear hcz27_6
                 try clear hcz27_7
                 try clear hcz33_0
                 try clear hcz33_1
                 try clear hcz33_2
                 try clear hcz33_3
                 try clear hcz33_4
                 try clear hcz33_5
                 try clear hcz33_6
                 try clear hcz33_7
                 try clear hcz34_0
                 try clear hcz34_1
                 try clear hcz34_2
                 try clear hcz34_3
                 try clear hcz34_4
                 try clear hcz34_5
                 try clear hcz34_6
                 try clear hcz34_7
                 try clear hcz35_0
                 try clear hcz35_1
                 try clear hcz35_2
                 try clear hcz35_3
                 try clear hcz35_4
                 try clear hcz35_5
                 try clear hcz35_6
                 try clear hcz35_7
                 try clear hcz36_0
                 try clear hcz36_1
                 try clear hcz36_2
                 try clear hcz36_3
                 try clear hcz36_4
                 try clear hcz36_5
                 try clear hcz36_6
                 try clear hcz36_7
                 try clear hcz39_0
                 try clear hcz39_1
                 try clear hcz39_2
                 try clear hcz39_3
                 try clear hcz39_4
                 try clear hcz39_5
                 try clear hcz39_6
                 try clear hcz39_7
                 try clear hcz41_0
                 try clear hcz41_1
                 try clear hcz41_2
                 try clear hcz41_3
                 try clear hcz41_4
                 try clear hcz41_5
                 try clear hcz41_6
                 try clear hcz41_7
                 try clear hcz43_0
                 try clear hcz43_1
                 try clear hcz43_2
                 try clear hcz43_3
                 try clear hcz43_4
                 try clear hcz43_5
                 try clear hcz43_6
                 try clear hcz43_7
                 try clear hcz44_0
                 try clear hcz44_1
                 try clear hcz44_2
                 try clear hcz44_3
                 try clear hcz44_4
                 try clear hcz44_5
                 try clear hcz44_6
                 try clear hcz44_7
                 try clear hcz46_0
                 try clear hcz46_1
                 try clear hcz46_2
                 try clear hcz46_3
                 try clear hcz46_4
                 try clear hcz46_5
                 try clear hcz46_6
                 try clear hcz46_7
                 try clear hcz5_0
                 try clear hcz5_1
                 try clear hcz5_2
                 try clear hcz5_3
                 try clear hcz5_4
                 try clear hcz5_5
                 try clear hcz5_6
                 try clear hcz5_7
                 try clear hcz6_0
                 try clear hcz6_1
                 try clear hcz6_2
                 try clear hcz6_3
                 try clear hcz6_4
                 try clear hcz6_5
                 try clear hcz6_6
                 try clear hcz6_7
                 try clear hfz10_0
                 try clear hfz10_1
                 try clear hfz10_2
                 try clear hfz10_3
                 try clear hfz10_4
                 try clear hfz10_5
                 try clear hfz10_6
                 try clear hfz10_7
                 try clear hfz11_0
                 try clear hfz11_1
                 try clear hfz11_2
                 try clear hfz11_3
                 try clear hfz11_4
                 try clear hfz11_5
                 try clear hfz11_6
                 try clear hfz11_7
                 try clear hfz14_0
                 try clear hfz14_1
                 try clear hfz14_2
                 try clear hfz14_3
                 try clear hfz14_4
                 try clear hfz14_5
                 try clear hfz14_6
                 try clear hfz14_7
                 try clear hfz15_0
                 try clear hfz15_1
                 try clear hfz15_2
                 try clear hfz15_3
                 try clear hfz15_4
                 try clear hfz15_5
                 try clear hfz15_6
                 try clear hfz15_7
                 try clear hfz18_0
                 try clear hfz18_1
                 try clear hfz18_2
                 try clear hfz18_3
                 try clear hfz18_4
                 try clear hfz18_5
                 try clear hfz18_6
                 try clear hfz18_7
                 try clear hfz19_0
                 try clear hfz19_1
                 try clear hfz19_2
                 try clear hfz19_3
                 try clear hfz19_4
                 try clear hfz19_5
                 try clear hfz19_6
                 try clear hfz19_7
                 try clear hfz24_0
                 try clear hfz24_1
                 try clear hfz24_2
                 try clear hfz24_3
                 try clear hfz24_4
                 try clear hfz24_5
                 try clear hfz24_6
                 try clear hfz24_7
                 try clear hfz25_0
                 try clear hfz25_1
                 try clear hfz25_2
                 try clear hfz25_3
                 try clear hfz25_4
                 try clear hfz25_5
                 try clear hfz25_6
                 try clear hfz25_7
                 try clear hfz26_0
                 try clear hfz26_1
                 try clear hfz26_2
                 try clear hfz26_3
                 try clear hfz26_4
                 try clear hfz26_5
                 try clear hfz26_6
                 try clear hfz26_7
                 try clear hfz27_0
                 try clear hfz27_1
                 try clear hfz27_2
                 try clear hfz27_3
                 try clear hfz27_4
                 try clear hfz27_5
                 try clear hfz27_6
                 try clear hfz27_7
                 try clear hfz33_0
                 try clear hfz33_1
                 try clear hfz33_2
                 try clear hfz33_3
                 try clear hfz33_4
                 try clear hfz33_5
                 try clear hfz33_6
                 try clear hfz33_7
                 try clear hfz34_0
                 try clear hfz34_1
                 try clear hfz34_2
                 try clear hfz34_3
                 try clear hfz34_4
                 try clear hfz34_5
                 try clear hfz34_6
                 try clear hfz34_7
                 try clear hfz35_0
                 try clear hfz35_1
                 try clear hfz35_2
                 try clear hfz35_3
                 try clear hfz35_4
                 try clear hfz35_5
                 try clear hfz35_6
                 try clear hfz35_7
                 try clear hfz36_0
                 try clear hfz36_1
                 try clear hfz36_2
                 try clear hfz36_3
                 try clear hfz36_4
                 try clear hfz36_5
                 try clear hfz36_6
                 try clear hfz36_7
                 try clear hfz39_0
                 try clear hfz39_1
                 try clear hfz39_2
                 try clear hfz39_3
                 try clear hfz39_4
                 try clear hfz39_5
                 try clear hfz39_6
                 try clear hfz39_7
                 try clear hfz41_0
                 try clear hfz41_1
                 try clear hfz41_2
                 try clear hfz41_3
                 try clear hfz41_4
                 try clear hfz41_5
                 try clear hfz41_6
                 try clear hfz41_7
                 try clear hfz43_0
                 try clear hfz43_1
                 try clear hfz43_2
                 try clear hfz43_3
                 try clear hfz43_4
                 try clear hfz43_5
                 try clear hfz43_6
                 try clear hfz43_7
                 try clear hfz44_0
                 try clear hfz44_1
                 try clear hfz44_2
                 try clear hfz44_3
                 try clear hfz44_4
                 try clear hfz44_5
                 try clear hfz44_6
                 try clear hfz44_7
                 try clear hfz46_0
                 try clear hfz46_1
                 try clear hfz46_2
                 try clear hfz46_3
                 try clear hfz46_4
                 try clear hfz46_5
                 try clear hfz46_6
                 try clear hfz46_7
                 try clear hfz5_0
                 try clear hfz5_1
                 try clear hfz5_2
                 try clear hfz5_3
                 try clear hfz5_4
                 try clear hfz5_5
                 try clear hfz5_6
                 try clear hfz5_7
                 try clear hfz6_0
                 try clear hfz6_1
                 try clear hfz6_2
                 try clear hfz6_3
                 try clear hfz6_4
                 try clear hfz6_5
                 try clear hfz6_6
                 try clear hfz6_7
                 try clear p2
                 obtain ⟨x110_6, rfl, HA, HK6, BK184, HB⟩ := hrel
                 cases gk with
                 | zero => exact absurd HA.out (by simp [thrumref07_MayP.l0])
                 | succ k6 =>
                  have H := HA.out
                  clear HA
                  simp only [thrumref07_MayP.l0] at H
                  by_cases c47 : x110_6 < (l0_6.length : Int)
                  ·
                   rw [if_pos c47] at H
                   have c47b0 : decide (x110_6 < (l0_6.length : Int)) = true := decide_eq_true c47
                   clear c47
                   by_cases c48 : 0 ≤ x110_6
                   ·
                    rw [if_pos c48] at H
                    have c48b0 : decide (0 ≤ x110_6) = true := decide_eq_true c48
                    clear c48
                    by_cases c49 : x110_6 < (l0_6.length : Int)
                    ·
                     rw [if_pos c49] at H
                     have c49b0 : decide (x110_6 < (l0_6.length : Int)) = true := decide_eq_true c49
                     clear c49
                     replace H := Option.bind_eq_some_iff.mp H
                     obtain ⟨t187, A500, H⟩ := H
                     replace H : (if t187 > a0_5 then (some false) else (thrumref07_MayP.l0 k6 x3_7 l0_6 (l0_6.length : Int) (wrap64 (x110_6 + 1)) a0_0 a0_1 l0_2 l0_3 a0_4 a0_5 l0_6 l0_7)) = some r := H
                     have A50 := Aside0.mk A500
                     clear A500
                     by_cases c51 : t187 > a0_5
                     ·
                      rw [if_pos c51] at H
                      have c51b0 : decide (a0_5 < t187) = true := decide_eq_true c51
                      clear c51
                      obtain rfl := Option.some.inj H
                      have p186 : 0 ≤ (x110_6 : Int) := of_decide_eq_true (by first | (with_reducible assumption) | assumption)
                      have q186 : x110_6 < (l0_6.length : Int) := of_decide_eq_true (by first | (with_reducible assumption) | assumption)
                      obtain ⟨ad186, e186, hx186_0⟩ := Kd.at_int HR0_6.out x110_6 p186 q186
                      cases e186
                      replace hx186_0 := (HB.out.cell (World.block_lt_of_cell? w _ hx186_0)).trans hx186_0
                      replace p186 := eq_true p186
                      replace q186 := eq_true q186
                      go_wp2_with (first | (go_at_call 40; (with_reducible refine (thrumref05_Width.calls (rd l0_6 x110_6) t187 _ A50.out).mono ?_); rintro e w' ⟨rfl, ⟨nd, rfl⟩⟩; (try first | exact ⟨rfl, _, World.drewN_drewN _ _ _⟩ | exact ⟨rfl, _, Eq.trans (World.drewN_drewN _ _ _) (congrArg (World.drewN _) (Nat.add_assoc _ _ _))⟩); have hcz52_0 : wr.cell? ⟨gb184, 0, none⟩ = some (.int .i64 a0_0) := (blk_cell BK184.out 0).trans rfl; have hcz52_1 : wr.cell? ⟨gb184, 1, none⟩ = some (.int .i64 a0_1) := (blk_cell BK184.out 1).trans rfl; have hcz52_2 : wr.cell? ⟨gb184, 2, none⟩ = some (.slice A0_2 l0_2.length c0_2) := (blk_cell BK184.out 2).trans rfl; have hcz52_3 : wr.cell? ⟨gb184, 3, none⟩ = some (.slice A0_3 l0_3.length c0_3) := (blk_cell BK184.out 3).trans rfl; have hcz52_4 : wr.cell? ⟨gb184, 4, none⟩ = some (.int .i64 a0_4) := (blk_cell BK184.out 4).trans rfl; have hcz52_5 : wr.cell? ⟨gb184, 5, none⟩ = some (.int .i64 a0_5) := (blk_cell BK184.out 5).trans rfl; have hcz52_6 : wr.cell? ⟨gb184, 6, none⟩ = some (.slice (some ad186) l0_6.length c0_6) := (blk_cell BK184.out 6).trans rfl; have hcz52_7 : wr.cell? ⟨gb184, 7, none⟩ = some (.slice A0_7 l0_7.length c0_7) := (blk_cell BK184.out 7).trans rfl; have hfz52_0 := blk_frozen BK184.out 0; have hfz52_1 := blk_frozen BK184.out 1; have hfz52_2 := blk_frozen BK184.out 2; have hfz52_3 := blk_frozen BK184.out 3; have hfz52_4 := blk_frozen BK184.out 4; have hfz52_5 := blk_frozen BK184.out 5; have hfz52_6 := blk_frozen BK184.out 6; have hfz52_7 := blk_frozen BK184.out 7))
                      repeat (go_quiet (first | (go_at_call 40; (with_reducible refine (thrumref05_Width.calls (rd l0_6 x110_6) t187 _ A50.out).mono ?_); rintro e w' ⟨rfl, ⟨nd, rfl⟩⟩; (try first | exact ⟨rfl, _, World.drewN_drewN _ _ _⟩ | exact ⟨rfl, _, Eq.trans (World.drewN_drewN _ _ _) (congrArg (World.drewN _) (Nat.add_assoc _ _ _))⟩); have hcz52_0 : wr.cell? ⟨gb184, 0, none⟩ = some (.int .i64 a0_0) := (blk_cell BK184.out 0).trans rfl; have hcz52_1 : wr.cell? ⟨gb184, 1, none⟩ = some (.int .i64 a0_1) := (blk_cell BK184.out 1).trans rfl; have hcz52_2 : wr.cell? ⟨gb184, 2, none⟩ = some (.slice A0_2 l0_2.length c0_2) := (blk_cell BK184.out 2).trans rfl; have hcz52_3 : wr.cell? ⟨gb184, 3, none⟩ = some (.slice A0_3 l0_3.length c0_3) := (blk_cell BK184.out 3).trans rfl; have hcz52_4 : wr.cell? ⟨gb184, 4, none⟩ = some (.int .i64 a0_4) := (blk_cell BK184.out 4).trans rfl; have hcz52_5 : wr.cell? ⟨gb184, 5, none⟩ = some (.int .i64 a0_5) := (blk_cell BK184.out 5).trans rfl; have hcz52_6 : wr.cell? ⟨gb184, 6, none⟩ = some (.slice (some ad186) l0_6.length c0_6) := (blk_cell BK184.out 6).trans rfl; have hcz52_7 : wr.cell? ⟨gb184, 7, none⟩ = some (.slice A0_7 l0_7.length c0_7) := (blk_cell BK184.out 7).trans rfl; have hfz52_0 := blk_frozen BK184.out 0; have hfz52_1 := blk_frozen BK184.out 1; have hfz52_2 := blk_frozen BK184.out 2; have hfz52_3 := blk_frozen BK184.out 3; have hfz52_4 := blk_frozen BK184.out 4; have hfz52_5 := blk_frozen BK184.out 5; have hfz52_6 := blk_frozen BK184.out 6; have hfz52_7 := blk_frozen BK184.out 7)); try go_wp2_with (first | (go_at_call 40; (with_reducible refine (thrumref05_Width.calls (rd l0_6 x110_6) t187 _ A50.out).mono ?_); rintro e w' ⟨rfl, ⟨nd, rfl⟩⟩; (try first | exact ⟨rfl, _, World.drewN_drewN _ _ _⟩ | exact ⟨rfl, _, Eq.trans (World.drewN_drewN _ _ _) (congrArg (World.drewN _) (Nat.add_assoc _ _ _))⟩); have hcz52_0 : wr.cell? ⟨gb184, 0, none⟩ = some (.int .i64 a0_0) := (blk_cell BK184.out 0).trans rfl; have hcz52_1 : wr.cell? ⟨gb184, 1, none⟩ = some (.int .i64 a0_1) := (blk_cell BK184.out 1).trans rfl; have hcz52_2 : wr.cell? ⟨gb184, 2, none⟩ = some (.slice A0_2 l0_2.length c0_2) := (blk_cell BK184.out 2).trans rfl; have hcz52_3 : wr.cell? ⟨gb184, 3, none⟩ = some (.slice A0_3 l0_3.length c0_3) := (blk_cell BK184.out 3).trans rfl; have hcz52_4 : wr.cell? ⟨gb184, 4, none⟩ = some (.int .i64 a0_4) := (blk_cell BK184.out 4).trans rfl; have hcz52_5 : wr.cell? ⟨gb184, 5, none⟩ = some (.int .i64 a0_5) := (blk_cell BK184.out 5).trans rfl; have hcz52_6 : wr.cell? ⟨gb184, 6, none⟩ = some (.slice (some ad186) l0_6.length c0_6) := (blk_cell BK184.out 6).trans rfl; have hcz52_7 : wr.cell? ⟨gb184, 7, none⟩ = some (.slice A0_7 l0_7.length c0_7) := (blk_cell BK184.out 7).trans rfl; have hfz52_0 := blk_frozen BK184.out 0; have hfz52_1 := blk_frozen BK184.out 1; have hfz52_2 := blk_frozen BK184.out 2; have hfz52_3 := blk_frozen BK184.out 3; have hfz52_4 := blk_frozen BK184.out 4; have hfz52_5 := blk_frozen BK184.out 5; have hfz52_6 := blk_frozen BK184.out 6; have hfz52_7 := blk_frozen BK184.out 7)))
                      go_ret
                      exact ⟨by first | rfl | (simp [errW_none, errW_some] <;> rfl) | (simp [*, errW_none, errW_some] <;> rfl), by repeat (first | (with_reducible first | exact HB.out | apply below_alloc | apply pw_below_drewN | apply below_drew1 | refine below_set ?_ GE184.out) | exact HB.out)⟩
                     ·
                      rw [if_neg c51] at H
                      have c51b0 : decide (a0_5 < t187) = false := decide_eq_false c51
                      clear c51
                      have H' := Aside0.mk H
                      clear H
                      have p186 : 0 ≤ (x110_6 : Int) := of_decide_eq_true (by first | (with_reducible assumption) | assumption)
                      have q186 : x110_6 < (l0_6.length : Int) := of_decide_eq_true (by first | (with_reducible assumption) | assumption)
                      obtain ⟨ad186, e186, hx186_0⟩ := Kd.at_int HR0_6.out x110_6 p186 q186
                      cases e186
                      replace hx186_0 := (HB.out.cell (World.block_lt_of_cell? w _ hx186_0)).trans hx186_0
                      replace p186 := eq_true p186
                      replace q186 := eq_true q186
                      go_wp2_with (first | (go_at_call 40; (with_reducible refine (thrumref05_Width.calls (rd l0_6 x110_6) t187 _ A50.out).mono ?_); rintro e w' ⟨rfl, ⟨nd, rfl⟩⟩; (try first | exact ⟨rfl, _, World.drewN_drewN _ _ _⟩ | exact ⟨rfl, _, Eq.trans (World.drewN_drewN _ _ _) (congrArg (World.drewN _) (Nat.add_assoc _ _ _))⟩); have hcz53_0 : wr.cell? ⟨gb184, 0, none⟩ = some (.int .i64 a0_0) := (blk_cell BK184.out 0).trans rfl; have hcz53_1 : wr.cell? ⟨gb184, 1, none⟩ = some (.int .i64 a0_1) := (blk_cell BK184.out 1).trans rfl; have hcz53_2 : wr.cell? ⟨gb184, 2, none⟩ = some (.slice A0_2 l0_2.length c0_2) := (blk_cell BK184.out 2).trans rfl; have hcz53_3 : wr.cell? ⟨gb184, 3, none⟩ = some (.slice A0_3 l0_3.length c0_3) := (blk_cell BK184.out 3).trans rfl; have hcz53_4 : wr.cell? ⟨gb184, 4, none⟩ = some (.int .i64 a0_4) := (blk_cell BK184.out 4).trans rfl; have hcz53_5 : wr.cell? ⟨gb184, 5, none⟩ = some (.int .i64 a0_5) := (blk_cell BK184.out 5).trans rfl; have hcz53_6 : wr.cell? ⟨gb184, 6, none⟩ = some (.slice (some ad186) l0_6.length c0_6) := (blk_cell BK184.out 6).trans rfl; have hcz53_7 : wr.cell? ⟨gb184, 7, none⟩ = some (.slice A0_7 l0_7.length c0_7) := (blk_cell BK184.out 7).trans rfl; have hfz53_0 := blk_frozen BK184.out 0; have hfz53_1 := blk_frozen BK184.out 1; have hfz53_2 := blk_frozen BK184.out 2; have hfz53_3 := blk_frozen BK184.out 3; have hfz53_4 := blk_frozen BK184.out 4; have hfz53_5 := blk_frozen BK184.out 5; have hfz53_6 := blk_frozen BK184.out 6; have hfz53_7 := blk_frozen BK184.out 7))
                      repeat (go_quiet (first | (go_at_call 40; (with_reducible refine (thrumref05_Width.calls (rd l0_6 x110_6) t187 _ A50.out).mono ?_); rintro e w' ⟨rfl, ⟨nd, rfl⟩⟩; (try first | exact ⟨rfl, _, World.drewN_drewN _ _ _⟩ | exact ⟨rfl, _, Eq.trans (World.drewN_drewN _ _ _) (congrArg (World.drewN _) (Nat.add_assoc _ _ _))⟩); have hcz53_0 : wr.cell? ⟨gb184, 0, none⟩ = some (.int .i64 a0_0) := (blk_cell BK184.out 0).trans rfl; have hcz53_1 : wr.cell? ⟨gb184, 1, none⟩ = some (.int .i64 a0_1) := (blk_cell BK184.out 1).trans rfl; have hcz53_2 : wr.cell? ⟨gb184, 2, none⟩ = some (.slice A0_2 l0_2.length c0_2) := (blk_cell BK184.out 2).trans rfl; have hcz53_3 : wr.cell? ⟨gb184, 3, none⟩ = some (.slice A0_3 l0_3.length c0_3) := (blk_cell BK184.out 3).trans rfl; have hcz53_4 : wr.cell? ⟨gb184, 4, none⟩ = some (.int .i64 a0_4) := (blk_cell BK184.out 4).trans rfl; have hcz53_5 : wr.cell? ⟨gb184, 5, none⟩ = some (.int .i64 a0_5) := (blk_cell BK184.out 5).trans rfl; have hcz53_6 : wr.cell? ⟨gb184, 6, none⟩ = some (.slice (some ad186) l0_6.length c0_6) := (blk_cell BK184.out 6).trans rfl; have hcz53_7 : wr.cell? ⟨gb184, 7, none⟩ = some (.slice A0_7 l0_7.length c0_7) := (blk_cell BK184.out 7).trans rfl; have hfz53_0 := blk_frozen BK184.out 0; have hfz53_1 := blk_frozen BK184.out 1; have hfz53_2 := blk_frozen BK184.out 2; have hfz53_3 := blk_frozen BK184.out 3; have hfz53_4 := blk_frozen BK184.out 4; have hfz53_5 := blk_frozen BK184.out 5; have hfz53_6 := blk_frozen BK184.out 6; have hfz53_7 := blk_frozen BK184.out 7)); try go_wp2_with (first | (go_at_call 40; (with_reducible refine (thrumref05_Width.calls (rd l0_6 x110_6) t187 _ A50.out).mono ?_); rintro e w' ⟨rfl, ⟨nd, rfl⟩⟩; (try first | exact ⟨rfl, _, World.drewN_drewN _ _ _⟩ | exact ⟨rfl, _, Eq.trans (World.drewN_drewN _ _ _) (congrArg (World.drewN _) (Nat.add_assoc _ _ _))⟩); have hcz53_0 : wr.cell? ⟨gb184, 0, none⟩ = some (.int .i64 a0_0) := (blk_cell BK184.out 0).trans rfl; have hcz53_1 : wr.cell? ⟨gb184, 1, none⟩ = some (.int .i64 a0_1) := (blk_cell BK184.out 1).trans rfl; have hcz53_2 : wr.cell? ⟨gb184, 2, none⟩ = some (.slice A0_2 l0_2.length c0_2) := (blk_cell BK184.out 2).trans rfl; have hcz53_3 : wr.cell? ⟨gb184, 3, none⟩ = some (.slice A0_3 l0_3.length c0_3) := (blk_cell BK184.out 3).trans rfl; have hcz53_4 : wr.cell? ⟨gb184, 4, none⟩ = some (.int .i64 a0_4) := (blk_cell BK184.out 4).trans rfl; have hcz53_5 : wr.cell? ⟨gb184, 5, none⟩ = some (.int .i64 a0_5) := (blk_cell BK184.out 5).trans rfl; have hcz53_6 : wr.cell? ⟨gb184, 6, none⟩ = some (.slice (some ad186) l0_6.length c0_6) := (blk_cell BK184.out 6).trans rfl; have hcz53_7 : wr.cell? ⟨gb184, 7, none⟩ = some (.slice A0_7 l0_7.length c0_7) := (blk_cell BK184.out 7).trans rfl; have hfz53_0 := blk_frozen BK184.out 0; have hfz53_1 := blk_frozen BK184.out 1; have hfz53_2 := blk_frozen BK184.out 2; have hfz53_3 := blk_frozen BK184.out 3; have hfz53_4 := blk_frozen BK184.out 4; have hfz53_5 := blk_frozen BK184.out 5; have hfz53_6 := blk_frozen BK184.out 6; have hfz53_7 := blk_frozen BK184.out 7)))
                      go_roundg k6
                      case measure => have := HJ1.out; have := HJ7.out; have := HJ11.out; have := HJ15.out; have := HJ37.out; have := HK6.out; omega
                      case rel => exact ⟨(wrap64 (x110_6 + 1)), (by first | rfl | (simp; done) | (simp [*]; done)), H', ⟨by have := HJ1.out; have := HJ7.out; have := HJ11.out; have := HJ15.out; have := HJ37.out; have := HK6.out; omega⟩, ⟨by (with_reducible repeat (first | refine blk_drewN ?_ _ | refine blk_drew ?_ | refine blk_alloc ?_ _)); exact BK184.out⟩, ⟨by repeat (first | (with_reducible first | exact HB.out | apply below_alloc | apply pw_below_drewN | apply below_drew1 | refine below_set ?_ GE184.out) | exact HB.out)⟩⟩
                    ·
                     rw [if_neg c49] at H
                     exact absurd H (by simp)
                   ·
                    rw [if_neg c48] at H
                    exact absurd H (by simp)
                  ·
                   rw [if_neg c47] at H
                   have c47b0 : decide (x110_6 < (l0_6.length : Int)) = false := decide_eq_false c47
                   clear c47
                   by_cases c54 : x3_7 = true
                   ·
                    subst c54
                    have H1 : (if a0_4 ≥ 0 then (some ((l0_7.length : Int) == a0_1)) else (some false)) = some r := by rw [if_pos rfl] at H; exact H
                    clear H
                    have H := H1
                    clear H1
                    by_cases c55 : a0_4 ≥ 0
                    ·
                     rw [if_pos c55] at H
                     have c55b0 : decide (0 ≤ a0_4) = true := decide_eq_true c55
                     clear c55
                     obtain rfl := Option.some.inj H
                     have hcz56_0 : wr.cell? ⟨gb184, 0, none⟩ = some (.int .i64 a0_0) := (blk_cell BK184.out 0).trans rfl
                     have hcz56_1 : wr.cell? ⟨gb184, 1, none⟩ = some (.int .i64 a0_1) := (blk_cell BK184.out 1).trans rfl
                     have hcz56_2 : wr.cell? ⟨gb184, 2, none⟩ = some (.slice A0_2 l0_2.length c0_2) := (blk_cell BK184.out 2).trans rfl
                     have hcz56_3 : wr.cell? ⟨gb184, 3, none⟩ = some (.slice A0_3 l0_3.length c0_3) := (blk_cell BK184.out 3).trans rfl
                     have hcz56_4 : wr.cell? ⟨gb184, 4, none⟩ = some (.int .i64 a0_4) := (blk_cell BK184.out 4).trans rfl
                     have hcz56_5 : wr.cell? ⟨gb184, 5, none⟩ = some (.int .i64 a0_5) := (blk_cell BK184.out 5).trans rfl
                     have hcz56_6 : wr.cell? ⟨gb184, 6, none⟩ = some (.slice A0_6 l0_6.length c0_6) := (blk_cell BK184.out 6).trans rfl
                     have hcz56_7 : wr.cell? ⟨gb184, 7, none⟩ = some (.slice A0_7 l0_7.length c0_7) := (blk_cell BK184.out 7).trans rfl
                     have hfz56_0 := blk_frozen BK184.out 0
                     have hfz56_1 := blk_frozen BK184.out 1
                     have hfz56_2 := blk_frozen BK184.out 2
                     have hfz56_3 := blk_frozen BK184.out 3
                     have hfz56_4 := blk_frozen BK184.out 4
                     have hfz56_5 := blk_frozen BK184.out 5
                     have hfz56_6 := blk_frozen BK184.out 6
                     have hfz56_7 := blk_frozen BK184.out 7
                     go_wp2
                     repeat (go_quiet (fail); try go_wp2)
                     go_ret
                     exact ⟨by first | rfl | (simp [errW_none, errW_some] <;> rfl) | (simp [*, errW_none, errW_some] <;> rfl), by repeat (first | (with_reducible first | exact HB.out | apply below_alloc | apply pw_below_drewN | apply below_drew1 | refine below_set ?_ GE184.out) | exact HB.out)⟩
                    ·
                     rw [if_neg c55] at H
                     have c55b0 : decide (0 ≤ a0_4) = false := decide_eq_false c55
                     clear c55
                     obtain rfl := Option.some.inj H
                     have hcz57_0 : wr.cell? ⟨gb184, 0, none⟩ = some (.int .i64 a0_0) := (blk_cell BK184.out 0).trans rfl
                     have hcz57_1 : wr.cell? ⟨gb184, 1, none⟩ = some (.int .i64 a0_1) := (blk_cell BK184.out 1).trans rfl
                     have hcz57_2 : wr.cell? ⟨gb184, 2, none⟩ = some (.slice A0_2 l0_2.length c0_2) := (blk_cell BK184.out 2).trans rfl
                     have hcz57_3 : wr.cell? ⟨gb184, 3, none⟩ = some (.slice A0_3 l0_3.length c0_3) := (blk_cell BK184.out 3).trans rfl
                     have hcz57_4 : wr.cell? ⟨gb184, 4, none⟩ = some (.int .i64 a0_4) := (blk_cell BK184.out 4).trans rfl
                     have hcz57_5 : wr.cell? ⟨gb184, 5, none⟩ = some (.int .i64 a0_5) := (blk_cell BK184.out 5).trans rfl
                     have hcz57_6 : wr.cell? ⟨gb184, 6, none⟩ = some (.slice A0_6 l0_6.length c0_6) := (blk_cell BK184.out 6).trans rfl
                     have hcz57_7 : wr.cell? ⟨gb184, 7, none⟩ = some (.slice A0_7 l0_7.length c0_7) := (blk_cell BK184.out 7).trans rfl
                     have hfz57_0 := blk_frozen BK184.out 0
                     have hfz57_1 := blk_frozen BK184.out 1
                     have hfz57_2 := blk_frozen BK184.out 2
                     have hfz57_3 := blk_frozen BK184.out 3
                     have hfz57_4 := blk_frozen BK184.out 4
                     have hfz57_5 := blk_frozen BK184.out 5
                     have hfz57_6 := blk_frozen BK184.out 6
                     have hfz57_7 := blk_frozen BK184.out 7
                     go_wp2
                     repeat (go_quiet (fail); try go_wp2)
                     go_ret
                     exact ⟨by first | rfl | (simp [errW_none, errW_some] <;> rfl) | (simp [*, errW_none, errW_some] <;> rfl), by repeat (first | (with_reducible first | exact HB.out | apply below_alloc | apply pw_below_drewN | apply below_drew1 | refine below_set ?_ GE184.out) | exact HB.out)⟩
                   ·
                    replace c54 := Bool.eq_false_iff.mpr c54
                    subst c54
                    have H1 : (some false) = some r := by rw [if_neg (show ¬ (false = true) by decide)] at H; exact H
                    clear H
                    have H := H1
                    clear H1
                    obtain rfl := Option.some.inj H
                    go_wp2
                    repeat (go_quiet (fail); try go_wp2)
                    go_ret
                    exact ⟨by first | rfl | (simp [errW_none, errW_some] <;> rfl) | (simp [*, errW_none, errW_some] <;> rfl), by repeat (first | (with_reducible first | exact HB.out | apply below_alloc | apply pw_below_drewN | apply below_drew1 | refine below_set ?_ GE184.out) | exact HB.out)⟩
            ·
             rw [if_neg c37] at H
             have c37b0 : (a0_0 == 2) = false := beq_eq_false_iff_ne.mpr c37
             have c37b1 : (a0_0 != 2) = true := bne_iff_ne.mpr c37
             by_cases c58 : a0_0 = 3
             ·
              rw [if_pos c58] at H
              have c58b0 : (a0_0 == 3) = true := beq_iff_eq.mpr c58
              have c58b1 : (a0_0 != 3) = false := bne_eq_false_iff_eq.mpr c58
              clear c58
              by_cases c59 : x3_7 = true
              ·
               subst c59
               have H1 : (if x4_11 = true then (if a0_4 ≥ 0 then (some ((l0_7.length : Int) == a0_1)) else (some false)) else (some false)) = some r := by rw [if_pos rfl] at H; exact H
               clear H
               have H := H1
               clear H1
               by_cases c60 : x4_11 = true
               ·
                subst c60
                have H1 : (if a0_4 ≥ 0 then (some ((l0_7.length : Int) == a0_1)) else (some false)) = some r := by rw [if_pos rfl] at H; exact H
                clear H
                have H := H1
                clear H1
                by_cases c61 : a0_4 ≥ 0
                ·
                 rw [if_pos c61] at H
                 have c61b0 : decide (0 ≤ a0_4) = true := decide_eq_true c61
                 clear c61
                 obtain rfl := Option.some.inj H
                 have hcz62_0 : wc.cell? ⟨gb184, 0, none⟩ = some (.int .i64 a0_0) := (blk_cell BK184.out 0).trans rfl
                 have hcz62_1 : wc.cell? ⟨gb184, 1, none⟩ = some (.int .i64 a0_1) := (blk_cell BK184.out 1).trans rfl
                 have hcz62_2 : wc.cell? ⟨gb184, 2, none⟩ = some (.slice A0_2 l0_2.length c0_2) := (blk_cell BK184.out 2).trans rfl
                 have hcz62_3 : wc.cell? ⟨gb184, 3, none⟩ = some (.slice A0_3 l0_3.length c0_3) := (blk_cell BK184.out 3).trans rfl
                 have hcz62_4 : wc.cell? ⟨gb184, 4, none⟩ = some (.int .i64 a0_4) := (blk_cell BK184.out 4).trans rfl
                 have hcz62_5 : wc.cell? ⟨gb184, 5, none⟩ = some (.int .i64 a0_5) := (blk_cell BK184.out 5).trans rfl
                 have hcz62_6 : wc.cell? ⟨gb184, 6, none⟩ = some (.slice A0_6 l0_6.length c0_6) := (blk_cell BK184.out 6).trans rfl
                 have hcz62_7 : wc.cell? ⟨gb184, 7, none⟩ = some (.slice A0_7 l0_7.length c0_7) := (blk_cell BK184.out 7).trans rfl
                 have hfz62_0 := blk_frozen BK184.out 0
                 have hfz62_1 := blk_frozen BK184.out 1
                 have hfz62_2 := blk_frozen BK184.out 2
                 have hfz62_3 := blk_frozen BK184.out 3
                 have hfz62_4 := blk_frozen BK184.out 4
                 have hfz62_5 := blk_frozen BK184.out 5
                 have hfz62_6 := blk_frozen BK184.out 6
                 have hfz62_7 := blk_frozen BK184.out 7
                 go_wp2
                 repeat (go_quiet (fail); try go_wp2)
                 go_ret
                 exact ⟨by first | rfl | (simp [errW_none, errW_some] <;> rfl) | (simp [*, errW_none, errW_some] <;> rfl), by repeat (first | (with_reducible first | exact HB.out | apply below_alloc | apply pw_below_drewN | apply below_drew1 | refine below_set ?_ GE184.out) | exact HB.out)⟩
                ·
                 rw [if_neg c61] at H
                 have c61b0 : decide (0 ≤ a0_4) = false := decide_eq_false c61
                 clear c61
                 obtain rfl := Option.some.inj H
                 have hcz63_0 : wc.cell? ⟨gb184, 0, none⟩ = some (.int .i64 a0_0) := (blk_cell BK184.out 0).trans rfl
                 have hcz63_1 : wc.cell? ⟨gb184, 1, none⟩ = some (.int .i64 a0_1) := (blk_cell BK184.out 1).trans rfl
                 have hcz63_2 : wc.cell? ⟨gb184, 2, none⟩ = some (.slice A0_2 l0_2.length c0_2) := (blk_cell BK184.out 2).trans rfl
                 have hcz63_3 : wc.cell? ⟨gb184, 3, none⟩ = some (.slice A0_3 l0_3.length c0_3) := (blk_cell BK184.out 3).trans rfl
                 have hcz63_4 : wc.cell? ⟨gb184, 4, none⟩ = some (.int .i64 a0_4) := (blk_cell BK184.out 4).trans rfl
                 have hcz63_5 : wc.cell? ⟨gb184, 5, none⟩ = some (.int .i64 a0_5) := (blk_cell BK184.out 5).trans rfl
                 have hcz63_6 : wc.cell? ⟨gb184, 6, none⟩ = some (.slice A0_6 l0_6.length c0_6) := (blk_cell BK184.out 6).trans rfl
                 have hcz63_7 : wc.cell? ⟨gb184, 7, none⟩ = some (.slice A0_7 l0_7.length c0_7) := (blk_cell BK184.out 7).trans rfl
                 have hfz63_0 := blk_frozen BK184.out 0
                 have hfz63_1 := blk_frozen BK184.out 1
                 have hfz63_2 := blk_frozen BK184.out 2
                 have hfz63_3 := blk_frozen BK184.out 3
                 have hfz63_4 := blk_frozen BK184.out 4
                 have hfz63_5 := blk_frozen BK184.out 5
                 have hfz63_6 := blk_frozen BK184.out 6
                 have hfz63_7 := blk_frozen BK184.out 7
                 go_wp2
                 repeat (go_quiet (fail); try go_wp2)
                 go_ret
                 exact ⟨by first | rfl | (simp [errW_none, errW_some] <;> rfl) | (simp [*, errW_none, errW_some] <;> rfl), by repeat (first | (with_reducible first | exact HB.out | apply below_alloc | apply pw_below_drewN | apply below_drew1 | refine below_set ?_ GE184.out) | exact HB.out)⟩
               ·
                replace c60 := Bool.eq_false_iff.mpr c60
                subst c60
                have H1 : (some false) = some r := by rw [if_neg (show ¬ (false = true) by decide)] at H; exact H
                clear H
                have H := H1
                clear H1
                obtain rfl := Option.some.inj H
                have hcz64_0 : wc.cell? ⟨gb184, 0, none⟩ = some (.int .i64 a0_0) := (blk_cell BK184.out 0).trans rfl
                have hcz64_1 : wc.cell? ⟨gb184, 1, none⟩ = some (.int .i64 a0_1) := (blk_cell BK184.out 1).trans rfl
                have hcz64_2 : wc.cell? ⟨gb184, 2, none⟩ = some (.slice A0_2 l0_2.length c0_2) := (blk_cell BK184.out 2).trans rfl
                have hcz64_3 : wc.cell? ⟨gb184, 3, none⟩ = some (.slice A0_3 l0_3.length c0_3) := (blk_cell BK184.out 3).trans rfl
                have hcz64_4 : wc.cell? ⟨gb184, 4, none⟩ = some (.int .i64 a0_4) := (blk_cell BK184.out 4).trans rfl
                have hcz64_5 : wc.cell? ⟨gb184, 5, none⟩ = some (.int .i64 a0_5) := (blk_cell BK184.out 5).trans rfl
                have hcz64_6 : wc.cell? ⟨gb184, 6, none⟩ = some (.slice A0_6 l0_6.length c0_6) := (blk_cell BK184.out 6).trans rfl
                have hcz64_7 : wc.cell? ⟨gb184, 7, none⟩ = some (.slice A0_7 l0_7.length c0_7) := (blk_cell BK184.out 7).trans rfl
                have hfz64_0 := blk_frozen BK184.out 0
                have hfz64_1 := blk_frozen BK184.out 1
                have hfz64_2 := blk_frozen BK184.out 2
                have hfz64_3 := blk_frozen BK184.out 3
                have hfz64_4 := blk_frozen BK184.out 4
                have hfz64_5 := blk_frozen BK184.out 5
                have hfz64_6 := blk_frozen BK184.out 6
                have hfz64_7 := blk_frozen BK184.out 7
                go_wp2
                repeat (go_quiet (fail); try go_wp2)
                go_ret
                exact ⟨by first | rfl | (simp [errW_none, errW_some] <;> rfl) | (simp [*, errW_none, errW_some] <;> rfl), by repeat (first | (with_reducible first | exact HB.out | apply below_alloc | apply pw_below_drewN | apply below_drew1 | refine below_set ?_ GE184.out) | exact HB.out)⟩
              ·
               replace c59 := Bool.eq_false_iff.mpr c59
               subst c59
               have H1 : (some false) = some r := by rw [if_neg (show ¬ (false = true) by decide)] at H; exact H
               clear H
               have H := H1
               clear H1
               obtain rfl := Option.some.inj H
               have hcz65_0 : wc.cell? ⟨gb184, 0, none⟩ = some (.int .i64 a0_0) := (blk_cell BK184.out 0).trans rfl
               have hcz65_1 : wc.cell? ⟨gb184, 1, none⟩ = some (.int .i64 a0_1) := (blk_cell BK184.out 1).trans rfl
               have hcz65_2 : wc.cell? ⟨gb184, 2, none⟩ = some (.slice A0_2 l0_2.length c0_2) := (blk_cell BK184.out 2).trans rfl
               have hcz65_3 : wc.cell? ⟨gb184, 3, none⟩ = some (.slice A0_3 l0_3.length c0_3) := (blk_cell BK184.out 3).trans rfl
               have hcz65_4 : wc.cell? ⟨gb184, 4, none⟩ = some (.int .i64 a0_4) := (blk_cell BK184.out 4).trans rfl
               have hcz65_5 : wc.cell? ⟨gb184, 5, none⟩ = some (.int .i64 a0_5) := (blk_cell BK184.out 5).trans rfl
               have hcz65_6 : wc.cell? ⟨gb184, 6, none⟩ = some (.slice A0_6 l0_6.length c0_6) := (blk_cell BK184.out 6).trans rfl
               have hcz65_7 : wc.cell? ⟨gb184, 7, none⟩ = some (.slice A0_7 l0_7.length c0_7) := (blk_cell BK184.out 7).trans rfl
               have hfz65_0 := blk_frozen BK184.out 0
               have hfz65_1 := blk_frozen BK184.out 1
               have hfz65_2 := blk_frozen BK184.out 2
               have hfz65_3 := blk_frozen BK184.out 3
               have hfz65_4 := blk_frozen BK184.out 4
               have hfz65_5 := blk_frozen BK184.out 5
               have hfz65_6 := blk_frozen BK184.out 6
               have hfz65_7 := blk_frozen BK184.out 7
               go_wp2
               repeat (go_quiet (fail); try go_wp2)
               go_ret
               exact ⟨by first | rfl | (simp [errW_none, errW_some] <;> rfl) | (simp [*, errW_none, errW_some] <;> rfl), by repeat (first | (with_reducible first | exact HB.out | apply below_alloc | apply pw_below_drewN | apply below_drew1 | refine below_set ?_ GE184.out) | exact HB.out)⟩
             ·
              rw [if_neg c58] at H
              have c58b0 : (a0_0 == 3) = false := beq_eq_false_iff_ne.mpr c58
              have c58b1 : (a0_0 != 3) = true := bne_iff_ne.mpr c58
              obtain rfl := Option.some.inj H
              have hcz66_0 : wc.cell? ⟨gb184, 0, none⟩ = some (.int .i64 a0_0) := (blk_cell BK184.out 0).trans rfl
              have hcz66_1 : wc.cell? ⟨gb184, 1, none⟩ = some (.int .i64 a0_1) := (blk_cell BK184.out 1).trans rfl
              have hcz66_2 : wc.cell? ⟨gb184, 2, none⟩ = some (.slice A0_2 l0_2.length c0_2) := (blk_cell BK184.out 2).trans rfl
              have hcz66_3 : wc.cell? ⟨gb184, 3, none⟩ = some (.slice A0_3 l0_3.length c0_3) := (blk_cell BK184.out 3).trans rfl
              have hcz66_4 : wc.cell? ⟨gb184, 4, none⟩ = some (.int .i64 a0_4) := (blk_cell BK184.out 4).trans rfl
              have hcz66_5 : wc.cell? ⟨gb184, 5, none⟩ = some (.int .i64 a0_5) := (blk_cell BK184.out 5).trans rfl
              have hcz66_6 : wc.cell? ⟨gb184, 6, none⟩ = some (.slice A0_6 l0_6.length c0_6) := (blk_cell BK184.out 6).trans rfl
              have hcz66_7 : wc.cell? ⟨gb184, 7, none⟩ = some (.slice A0_7 l0_7.length c0_7) := (blk_cell BK184.out 7).trans rfl
              have hfz66_0 := blk_frozen BK184.out 0
              have hfz66_1 := blk_frozen BK184.out 1
              have hfz66_2 := blk_frozen BK184.out 2
              have hfz66_3 := blk_frozen BK184.out 3
              have hfz66_4 := blk_frozen BK184.out 4
              have hfz66_5 := blk_frozen BK184.out 5
              have hfz66_6 := blk_frozen BK184.out 6
              have hfz66_7 := blk_frozen BK184.out 7
              go_wp2
              repeat (go_quiet (fail); try go_wp2)
              go_ret
              exact ⟨by first | rfl | (simp [errW_none, errW_some] <;> rfl) | (simp [*, errW_none, errW_some] <;> rfl), by repeat (first | (with_reducible first | exact HB.out | apply below_alloc | apply pw_below_drewN | apply below_drew1 | refine below_set ?_ GE184.out) | exact HB.out)⟩

theorem thrumref07_MayP.loop (x0 : List Int) (hu : U64L x0) (hb : x0.length ≤ 9223372036854775807) (b : Bool) (a0 a1 : Int) (l2 l3 : List Int) (a4 a5 : Int) (l6 : List Int) (l7 : List Bool) : ∀ (d i : Nat), d + i = x0.length →
    thrumref07_MayP.l0 (d + 1) b x0 (x0.length : Int) (i : Int) a0 a1 l2 l3 a4 a5 l6 l7 = some (decide ((∀ n ∈ x0.drop i, (bl n.toNat : Int) ≤ a5) ∧ b = true ∧ 0 ≤ a4 ∧ (l7.length : Int) = a1)) := by
  intro d
  induction d with
  | zero =>
    intro i hd
    rw [thrumref07_MayP.l0, if_neg (by omega), List.drop_eq_nil_of_le (by omega)]
    by_cases c : b = true
    · rw [if_pos c]
      by_cases c2 : a4 ≥ 0
      · rw [if_pos c2]; simp [c, show 0 ≤ a4 from c2]; rfl
      · rw [if_neg c2]; simp [show ¬ 0 ≤ a4 from c2]
    · rw [if_neg c]; simp [c]
  | succ d ih =>
    intro i hd
    have hi : i < x0.length := by omega
    rw [thrumref07_MayP.l0, if_pos (by omega), if_pos (by omega), if_pos (by omega), show rd x0 (i : Int) = x0[i] from rd_nat hi, thrumref05_Width.of _ (hu _ (List.getElem_mem hi)), List.drop_eq_getElem_cons hi]
    simp only [Option.bind_some]
    by_cases c : (bl x0[i].toNat : Int) > a5
    · rw [if_pos c]
      symm; congr 1
      exact decide_eq_false (fun hh => by have := hh.1 x0[i] (List.mem_cons.2 (.inl rfl)); omega)
    · rw [if_neg c, wrap64_of (by unfold I64; omega), show (i : Int) + 1 = ((i + 1 : Nat) : Int) by omega, ih (i + 1) (by omega)]
      congr 1
      refine decide_eq_decide.2 ⟨fun hh => ⟨fun n hn => by rcases List.mem_cons.1 hn with e | e; (rw [e]; omega); (exact hh.1 n e), hh.2⟩, fun hh => ⟨fun n hn => hh.1 n (List.mem_cons.2 (.inr hn)), hh.2⟩⟩
def thrumref07_May.f (a0_0 : Int) (a0_1 : Int) (l0_2 : List Int) (l0_3 : List Int) (a0_4 : Int) (a0_5 : Int) (l0_6 : List Int) (l0_7 : List Bool) : Option Bool := if U64L l0_6 then some (decide (MayP a0_0 a0_1 l0_2 l0_3 a0_4 a0_5 l0_6 l0_7)) else none
theorem thrumref07_May.of (a0_0 : Int) (a0_1 : Int) (l0_2 : List Int) (l0_3 : List Int) (a0_4 : Int) (a0_5 : Int) (l0_6 : List Int) (l0_7 : List Bool)  (h_ : U64L l0_6) : thrumref07_May.f a0_0 a0_1 l0_2 l0_3 a0_4 a0_5 l0_6 l0_7 = some (decide (MayP a0_0 a0_1 l0_2 l0_3 a0_4 a0_5 l0_6 l0_7)) := if_pos h_
set_option maxHeartbeats 1000000 in
theorem thrumref07_May.calls (a0_0 : Int) (a0_1 : Int) (A0_2 : Option Addr) (c0_2 : Nat) (l0_2 : List Int) (A0_3 : Option Addr) (c0_3 : Nat) (l0_3 : List Int) (a0_4 : Int) (a0_5 : Int) (A0_6 : Option Addr) (c0_6 : Nat) (l0_6 : List Int) (A0_7 : Option Addr) (c0_7 : Nat) (l0_7 : List Bool) (r : Bool) (w : World) (hr0_2 : Kd.C (Kd.int .i64) w A0_2 l0_2.length l0_2) (hc0_2 : l0_2.length ≤ c0_2) (hr0_3 : Kd.C (Kd.int .i64) w A0_3 l0_3.length l0_3) (hc0_3 : l0_3.length ≤ c0_3) (hr0_6 : Kd.C (Kd.int .u64) w A0_6 l0_6.length l0_6) (hc0_6 : l0_6.length ≤ c0_6) (hr0_7 : Kd.C Kd.bool w A0_7 l0_7.length l0_7) (hc0_7 : l0_7.length ≤ c0_7) (h : thrumref07_May.f a0_0 a0_1 l0_2 l0_3 a0_4 a0_5 l0_6 l0_7 = some r) :
    Calls Try.prog 26 #[.agg #[.int .i64 a0_0, .int .i64 a0_1, .slice A0_2 l0_2.length c0_2, .slice A0_3 l0_3.length c0_3, .int .i64 a0_4, .int .i64 a0_5, .slice A0_6 l0_6.length c0_6, .slice A0_7 l0_7.length c0_7]] w fun e w' => e = .returned (.bool r) ∧ Below w.heap.size w w' := by
  unfold thrumref07_May.f at h
  split at h
  case isFalse => cases h
  rename_i hu
  refine thrumref07_MayP.calls (l0_6.length + 6) a0_0 a0_1 A0_2 c0_2 l0_2 A0_3 c0_3 l0_3 a0_4 a0_5 A0_6 c0_6 l0_6 A0_7 c0_7 l0_7 r w hr0_2 hc0_2 hr0_3 hc0_3 hr0_6 hc0_6 hr0_7 hc0_7 (Eq.trans ?_ h)
  have hm := Kd.C_max hr0_6
  have hL := fun b => thrumref07_MayP.loop l0_6 hu hm b a0_0 a0_1 l0_2 l0_3 a0_4 a0_5 l0_6 l0_7 l0_6.length 0 (by omega)
  simp only [List.drop_zero] at hL
  clear hr0_2 hc0_2 hr0_3 hc0_3 hr0_6 hc0_6 hr0_7 hc0_7 h hu
  have e2 : l0_2 = [] ↔ (l0_2.length : Int) = 0 := by rw [← List.length_eq_zero_iff]; omega
  have e3 : l0_3 = [] ↔ (l0_3.length : Int) = 0 := by rw [← List.length_eq_zero_iff]; omega
  have e6 : l0_6 = [] ↔ (l0_6.length : Int) = 0 := by rw [← List.length_eq_zero_iff]; omega
  have e7 : l0_7 = [] ↔ (l0_7.length : Int) = 0 := by rw [← List.length_eq_zero_iff]; omega
  have j2 : ∀ x y, thrumref07_MayP.j2 (l0_6.length + 4) x y a0_0 a0_1 l0_2 l0_3 a0_4 a0_5 l0_6 l0_7 = thrumref07_MayP.j3 (l0_6.length + 3) x y (decide (a0_4 = 0 ∧ (l0_7.length : Int) = 0)) a0_0 a0_1 l0_2 l0_3 a0_4 a0_5 l0_6 l0_7 := fun x y => by
    rw [thrumref07_MayP.j2]; exact ite_beq (fun z => thrumref07_MayP.j3 (l0_6.length + 3) x y z a0_0 a0_1 l0_2 l0_3 a0_4 a0_5 l0_6 l0_7) _ _
  have j1 : ∀ x, thrumref07_MayP.j1 (l0_6.length + 5) x a0_0 a0_1 l0_2 l0_3 a0_4 a0_5 l0_6 l0_7 = thrumref07_MayP.j3 (l0_6.length + 3) x (decide (a0_5 = 0 ∧ (l0_6.length : Int) = 0)) (decide (a0_4 = 0 ∧ (l0_7.length : Int) = 0)) a0_0 a0_1 l0_2 l0_3 a0_4 a0_5 l0_6 l0_7 := fun x => by
    rw [thrumref07_MayP.j1]; simp only [j2]; exact ite_beq (fun y => thrumref07_MayP.j3 (l0_6.length + 3) x y (decide (a0_4 = 0 ∧ (l0_7.length : Int) = 0)) a0_0 a0_1 l0_2 l0_3 a0_4 a0_5 l0_6 l0_7) _ _
  have j0 : ∀ b, thrumref07_MayP.j0 (l0_6.length + 6) b a0_0 a0_1 l0_2 l0_3 a0_4 a0_5 l0_6 l0_7 = if b = true then some false else thrumref07_MayP.j3 (l0_6.length + 3) (decide ((l0_2.length : Int) = 0 ∧ (l0_3.length : Int) = 0)) (decide (a0_5 = 0 ∧ (l0_6.length : Int) = 0)) (decide (a0_4 = 0 ∧ (l0_7.length : Int) = 0)) a0_0 a0_1 l0_2 l0_3 a0_4 a0_5 l0_6 l0_7 := fun b => by
    rw [thrumref07_MayP.j0]; simp only [j1]; congr 1; exact ite_beq (fun x => thrumref07_MayP.j3 (l0_6.length + 3) x (decide (a0_5 = 0 ∧ (l0_6.length : Int) = 0)) (decide (a0_4 = 0 ∧ (l0_7.length : Int) = 0)) a0_0 a0_1 l0_2 l0_3 a0_4 a0_5 l0_6 l0_7) _ _
  have hj : ∀ x y z, thrumref07_MayP.j3 (l0_6.length + 3) x y z a0_0 a0_1 l0_2 l0_3 a0_4 a0_5 l0_6 l0_7 = if a0_0 = 0 then (if (l0_2.length : Int) = 0 then (if (l0_3.length : Int) = a0_1 then (if y = true then (some z) else (some false)) else (some false)) else (some false)) else (if a0_0 = 1 then (if checkI a0_1 l0_2 = 0 then (if (l0_3.length : Int) = (l0_2.length : Int) then (if y = true then (some z) else (some false)) else (some false)) else (some false)) else (if a0_0 = 2 then (if a0_5 < 1 then some false else (if a0_5 > 8 then some false else (if ((l0_6.length : Int) != a0_1) = true then some false else some (decide ((∀ n ∈ l0_6, (bl n.toNat : Int) ≤ a0_5) ∧ x = true ∧ 0 ≤ a0_4 ∧ (l0_7.length : Int) = a0_1))))) else (if a0_0 = 3 then (if x = true then (if y = true then (if a0_4 ≥ 0 then (some ((l0_7.length : Int) == a0_1)) else (some false)) else (some false)) else (some false)) else (some false)))) := fun x y z => by
    rw [thrumref07_MayP.j3]
    simp only [thrumref06_Check.f, Option.bind_some]
    have j4 : ∀ b, thrumref07_MayP.j4 (l0_6.length + 2) x b a0_0 a0_1 l0_2 l0_3 a0_4 a0_5 l0_6 l0_7 = if b = true then some false else some (decide ((∀ n ∈ l0_6, (bl n.toNat : Int) ≤ a0_5) ∧ x = true ∧ 0 ≤ a0_4 ∧ (l0_7.length : Int) = a0_1)) := fun b => by
      rw [thrumref07_MayP.j4, ← hL]; rfl
    simp only [j4, if_true]
  have key : MayP a0_0 a0_1 l0_2 l0_3 a0_4 a0_5 l0_6 l0_7 ↔ ((1 ≤ a0_1 ∧ a0_1 ≤ 4096) ∧
      ((a0_0 = 0 ∧ (l0_2.length : Int) = 0 ∧ (l0_3.length : Int) = a0_1 ∧ a0_4 = 0 ∧ a0_5 = 0 ∧ (l0_6.length : Int) = 0 ∧ (l0_7.length : Int) = 0) ∨
       (a0_0 = 1 ∧ checkI a0_1 l0_2 = 0 ∧ (l0_3.length : Int) = (l0_2.length : Int) ∧ a0_4 = 0 ∧ a0_5 = 0 ∧ (l0_6.length : Int) = 0 ∧ (l0_7.length : Int) = 0) ∨
       (a0_0 = 2 ∧ (1 ≤ a0_5 ∧ a0_5 ≤ 8) ∧ (l0_6.length : Int) = a0_1 ∧ (∀ n ∈ l0_6, (bl n.toNat : Int) ≤ a0_5) ∧ (l0_2.length : Int) = 0 ∧ (l0_3.length : Int) = 0 ∧ 0 ≤ a0_4 ∧ (l0_7.length : Int) = a0_1) ∨
       (a0_0 = 3 ∧ (l0_2.length : Int) = 0 ∧ (l0_3.length : Int) = 0 ∧ a0_5 = 0 ∧ (l0_6.length : Int) = 0 ∧ 0 ≤ a0_4 ∧ (l0_7.length : Int) = a0_1))) := by
    unfold MayP; rw [e2, e3, e6, e7, Int.ofNat_inj]
  unfold thrumref07_MayP.f
  simp only [j0, if_true]
  rw [decide_eq_decide.2 key]
  exact may_logic a0_0 a0_1 a0_4 a0_5 (checkI a0_1 l0_2) l0_2.length l0_3.length l0_6.length l0_7.length _ (fun x y z => thrumref07_MayP.j3 (l0_6.length + 3) x y z a0_0 a0_1 l0_2 l0_3 a0_4 a0_5 l0_6 l0_7) hj


end Go.Proofs.Ytnhdeljkoackfaa.HC
