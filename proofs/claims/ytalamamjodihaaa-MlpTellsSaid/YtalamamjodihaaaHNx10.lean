/- What Go functions do, each as a plain Lean function with the same answers, and the proof of it, in every world: printed by the session's driver over the kit's print, with texts by hand. -/
import Derived.Test.YtalamamjodihaaaHNx0
import Derived.Test.YtalamamjodihaaaHNx1
import Derived.Test.YtalamamjodihaaaHNx2
import Derived.Test.YtalamamjodihaaaHNx3
import Derived.Test.YtalamamjodihaaaHNx4
import Derived.Test.YtalamamjodihaaaHNx6
import Derived.Test.YtalamamjodihaaaHNx7
import Derived.Test.YtalamamjodihaaaHNx8
import Derived.Test.YtalamamjodihaaaHNx9
namespace Go.Proofs.Ytalamamjodihaaa.HN
open Go.RowKit Go.Proofs.YtalamamjodihaaaW.PrintWords Go.Proofs.YtalamamjodihaaaW.PrintLast Go.Proofs.YtalamamjodihaaaW.PrintMore
attribute [local go_sem] max2_int min2_int max_two min_two max_three min_three max_four min_four   -- for this text's walks alone
open Go.Proofs.Ytalamamjodihaaa.Sp
attribute [local go_sem] Go.Proofs.Ytalamamjodihaaa.Sp.u64_not
set_option linter.unusedVariables false
set_option linter.unusedSimpArgs false

set_option maxHeartbeats 80000000 in
set_option maxRecDepth 100000 in
theorem thrumlaw16_MlpTells.calls (a0 : Int) (a1 : Int) (A2 : Option Addr) (c2 : Nat) (l2 : List Int) (P3_0_ : Nat → Prop) (A3_0 : Option Addr) (c3_0 : Nat) (l3_0 : List Int) (a3_1 : Int) (a4 : Int) (r : Bool) (w : World) (hr2 : Kd.C (Kd.int .i64) w A2 l2.length l2) (hc2 : l2.length ≤ c2) (hs3_0 : Kd.V (Kd.int .i64) 2 w w.heap.size (fun k_ => P3_0_ k_) (.slice A3_0 l3_0.length c3_0) l3_0) (h : thrumlaw16_MlpTells.f a0 a1 l2 l3_0 a3_1 a4 = some r) (hr_ : r = true) :
  Calls Try.prog 4 #[.int .i64 a0, .int .i64 a1, .slice A2 l2.length c2, .agg #[.slice A3_0 l3_0.length c3_0, .int .i64 a3_1], .int .i64 a4] w fun e w' => e = .returned (.bool r) ∧ Below w.heap.size w w' := by
 have HR_ := Aside0.mk hr_
 clear hr_
 have hu26 := Try.underlying26
 have HR2 := Aside0.mk hr2
 have HC2 := Aside0.mk hc2
 clear hr2 hc2
 have HO3_0 := Aside0.mk (show Kd.V (Kd.int .i64) 2 w w.heap.size (fun k_ => (P3_0_ k_ ∨ w.heap.size ≤ k_)) (.slice A3_0 l3_0.length c3_0) l3_0 from Kd.V_mono hs3_0 (fun k_ hk => .inl hk))
 have HB := Aside0.mk (Below.refl w.heap.size w)
 have H : ((thrumlaw16_live.f).bind fun t252 => (if t252 = true then ((thrumref14_Few.f l2 (([(⟨l3_0, a3_1⟩ : S26)] : List (S26)))).bind fun t256 => (if t256 = true then ((mlp_Tell.f a1 l2 l3_0 a4).bind fun bt257 => ((thrumref16_Tell.f a1 l2 l3_0 a4).bind fun bt259 => ((mlp_Hidden.f a1 l2 l3_0 a4).bind fun bt261 => ((thrumref16_Hidden.f a1 l2 l3_0 a4).bind fun bt265 => ((mlp_Off.f a1 l2 l3_0 a3_1 a4).bind fun bt269 => ((thrumref16_Off.f a1 l2 l3_0 a3_1 a4).bind fun bt271 => ((mlp_Split.f a1 l2).bind fun bt273 => ((thrumref16_Split.f a1 l2).bind fun bt280 => ((mlp_Dim.f a0 a1).bind fun bt287 => ((thrumref16_Dim.f a0 a1).bind fun bt289 => ((mlp_Bend.f l2).bind fun bt291 => ((thrumref16_Bend.f l2).bind fun bt295 => (if bt257.1 = bt259.1 then (if bt257.2 = bt259.2 then ((thrumref02_Same.f bt261.1 bt265.1).bind fun t299 => (if t299 = true then (if bt261.2 = bt265.2 then (if bt269.1 = bt271.1 then (if bt269.2 = bt271.2 then ((thrumref15_SameLists.f bt273.1 bt280.1).bind fun t300 => (if t300 = true then ((thrumref02_Same.f bt273.2.1 bt280.2.1).bind fun t301 => (if t301 = true then (if bt273.2.2 = bt280.2.2 then (if bt287.1 = bt289.1 then (if bt287.2 = bt289.2 then ((thrumref02_Same.f bt291.1 bt295.1).bind fun t302 => (if t302 = true then (if bt291.2 = bt295.2 then ((mlp_Check.f a0 a1 l2 (([(⟨l3_0, a3_1⟩ : S26)] : List (S26)))).bind fun t306 => ((thrumref16_Check.f a0 a1 l2 (([(⟨l3_0, a3_1⟩ : S26)] : List (S26)))).bind fun t310 => (some (t306 == t310)))) else (some false)) else (some false))) else (some false)) else (some false)) else (some false)) else (some false))) else (some false))) else (some false)) else (some false)) else (some false)) else (some false))) else (some false)) else (some false)))))))))))))) else (some t252))) else (some false))) = some r := h
 clear h
 replace H := Option.bind_eq_some_iff.mp H
 obtain ⟨t252, A60, H⟩ := H
 replace H : (if t252 = true then ((thrumref14_Few.f l2 (([(⟨l3_0, a3_1⟩ : S26)] : List (S26)))).bind fun t256 => (if t256 = true then ((mlp_Tell.f a1 l2 l3_0 a4).bind fun bt257 => ((thrumref16_Tell.f a1 l2 l3_0 a4).bind fun bt259 => ((mlp_Hidden.f a1 l2 l3_0 a4).bind fun bt261 => ((thrumref16_Hidden.f a1 l2 l3_0 a4).bind fun bt265 => ((mlp_Off.f a1 l2 l3_0 a3_1 a4).bind fun bt269 => ((thrumref16_Off.f a1 l2 l3_0 a3_1 a4).bind fun bt271 => ((mlp_Split.f a1 l2).bind fun bt273 => ((thrumref16_Split.f a1 l2).bind fun bt280 => ((mlp_Dim.f a0 a1).bind fun bt287 => ((thrumref16_Dim.f a0 a1).bind fun bt289 => ((mlp_Bend.f l2).bind fun bt291 => ((thrumref16_Bend.f l2).bind fun bt295 => (if bt257.1 = bt259.1 then (if bt257.2 = bt259.2 then ((thrumref02_Same.f bt261.1 bt265.1).bind fun t299 => (if t299 = true then (if bt261.2 = bt265.2 then (if bt269.1 = bt271.1 then (if bt269.2 = bt271.2 then ((thrumref15_SameLists.f bt273.1 bt280.1).bind fun t300 => (if t300 = true then ((thrumref02_Same.f bt273.2.1 bt280.2.1).bind fun t301 => (if t301 = true then (if bt273.2.2 = bt280.2.2 then (if bt287.1 = bt289.1 then (if bt287.2 = bt289.2 then ((thrumref02_Same.f bt291.1 bt295.1).bind fun t302 => (if t302 = true then (if bt291.2 = bt295.2 then ((mlp_Check.f a0 a1 l2 (([(⟨l3_0, a3_1⟩ : S26)] : List (S26)))).bind fun t306 => ((thrumref16_Check.f a0 a1 l2 (([(⟨l3_0, a3_1⟩ : S26)] : List (S26)))).bind fun t310 => (some (t306 == t310)))) else (some false)) else (some false))) else (some false)) else (some false)) else (some false)) else (some false))) else (some false))) else (some false)) else (some false)) else (some false)) else (some false))) else (some false)) else (some false)))))))))))))) else (some t252))) else (some false)) = some r := H
 have A6 := Aside0.mk A60
 clear A60
 by_cases c7 : t252 = true
 ·
  subst c7
  have H1 : ((thrumref14_Few.f l2 (([(⟨l3_0, a3_1⟩ : S26)] : List (S26)))).bind fun t256 => (if t256 = true then ((mlp_Tell.f a1 l2 l3_0 a4).bind fun bt257 => ((thrumref16_Tell.f a1 l2 l3_0 a4).bind fun bt259 => ((mlp_Hidden.f a1 l2 l3_0 a4).bind fun bt261 => ((thrumref16_Hidden.f a1 l2 l3_0 a4).bind fun bt265 => ((mlp_Off.f a1 l2 l3_0 a3_1 a4).bind fun bt269 => ((thrumref16_Off.f a1 l2 l3_0 a3_1 a4).bind fun bt271 => ((mlp_Split.f a1 l2).bind fun bt273 => ((thrumref16_Split.f a1 l2).bind fun bt280 => ((mlp_Dim.f a0 a1).bind fun bt287 => ((thrumref16_Dim.f a0 a1).bind fun bt289 => ((mlp_Bend.f l2).bind fun bt291 => ((thrumref16_Bend.f l2).bind fun bt295 => (if bt257.1 = bt259.1 then (if bt257.2 = bt259.2 then ((thrumref02_Same.f bt261.1 bt265.1).bind fun t299 => (if t299 = true then (if bt261.2 = bt265.2 then (if bt269.1 = bt271.1 then (if bt269.2 = bt271.2 then ((thrumref15_SameLists.f bt273.1 bt280.1).bind fun t300 => (if t300 = true then ((thrumref02_Same.f bt273.2.1 bt280.2.1).bind fun t301 => (if t301 = true then (if bt273.2.2 = bt280.2.2 then (if bt287.1 = bt289.1 then (if bt287.2 = bt289.2 then ((thrumref02_Same.f bt291.1 bt295.1).bind fun t302 => (if t302 = true then (if bt291.2 = bt295.2 then ((mlp_Check.f a0 a1 l2 (([(⟨l3_0, a3_1⟩ : S26)] : List (S26)))).bind fun t306 => ((thrumref16_Check.f a0 a1 l2 (([(⟨l3_0, a3_1⟩ : S26)] : List (S26)))).bind fun t310 => (some (t306 == t310)))) else (some false)) else (some false))) else (some false)) else (some false)) else (some false)) else (some false))) else (some false))) else (some false)) else (some false)) else (some false)) else (some false))) else (some false)) else (some false)))))))))))))) else (some true))) = some r := by rw [if_pos rfl] at H; exact H
  clear H
  have H := H1
  clear H1
  obtain ⟨y253, hy253⟩ : ∃ y_ : List (S26), y_ = (([(⟨l3_0, a3_1⟩ : S26)] : List (S26))) := ⟨_, rfl⟩
  replace H : ((thrumref14_Few.f l2 y253).bind fun t256 => (if t256 = true then ((mlp_Tell.f a1 l2 l3_0 a4).bind fun bt257 => ((thrumref16_Tell.f a1 l2 l3_0 a4).bind fun bt259 => ((mlp_Hidden.f a1 l2 l3_0 a4).bind fun bt261 => ((thrumref16_Hidden.f a1 l2 l3_0 a4).bind fun bt265 => ((mlp_Off.f a1 l2 l3_0 a3_1 a4).bind fun bt269 => ((thrumref16_Off.f a1 l2 l3_0 a3_1 a4).bind fun bt271 => ((mlp_Split.f a1 l2).bind fun bt273 => ((thrumref16_Split.f a1 l2).bind fun bt280 => ((mlp_Dim.f a0 a1).bind fun bt287 => ((thrumref16_Dim.f a0 a1).bind fun bt289 => ((mlp_Bend.f l2).bind fun bt291 => ((thrumref16_Bend.f l2).bind fun bt295 => (if bt257.1 = bt259.1 then (if bt257.2 = bt259.2 then ((thrumref02_Same.f bt261.1 bt265.1).bind fun t299 => (if t299 = true then (if bt261.2 = bt265.2 then (if bt269.1 = bt271.1 then (if bt269.2 = bt271.2 then ((thrumref15_SameLists.f bt273.1 bt280.1).bind fun t300 => (if t300 = true then ((thrumref02_Same.f bt273.2.1 bt280.2.1).bind fun t301 => (if t301 = true then (if bt273.2.2 = bt280.2.2 then (if bt287.1 = bt289.1 then (if bt287.2 = bt289.2 then ((thrumref02_Same.f bt291.1 bt295.1).bind fun t302 => (if t302 = true then (if bt291.2 = bt295.2 then ((mlp_Check.f a0 a1 l2 (([(⟨l3_0, a3_1⟩ : S26)] : List (S26)))).bind fun t306 => ((thrumref16_Check.f a0 a1 l2 (([(⟨l3_0, a3_1⟩ : S26)] : List (S26)))).bind fun t310 => (some (t306 == t310)))) else (some false)) else (some false))) else (some false)) else (some false)) else (some false)) else (some false))) else (some false))) else (some false)) else (some false)) else (some false)) else (some false))) else (some false)) else (some false)))))))))))))) else (some true))) = some r := by first | (rw [hy253]; with_reducible exact H) | (have H2_ := (Option.bind_some _ _).symm.trans H; rw [hy253]; with_reducible exact H2_) | (have H2_ := (Option.bind_some _ _).symm.trans H; with_reducible exact H2_) | with_reducible exact H | (rw [hy253]; exact H) | exact H
  have Ny253 := Aside0.mk hy253
  clear hy253
  replace H := Option.bind_eq_some_iff.mp H
  obtain ⟨t256, A80, H⟩ := H
  replace H : (if t256 = true then ((mlp_Tell.f a1 l2 l3_0 a4).bind fun bt257 => ((thrumref16_Tell.f a1 l2 l3_0 a4).bind fun bt259 => ((mlp_Hidden.f a1 l2 l3_0 a4).bind fun bt261 => ((thrumref16_Hidden.f a1 l2 l3_0 a4).bind fun bt265 => ((mlp_Off.f a1 l2 l3_0 a3_1 a4).bind fun bt269 => ((thrumref16_Off.f a1 l2 l3_0 a3_1 a4).bind fun bt271 => ((mlp_Split.f a1 l2).bind fun bt273 => ((thrumref16_Split.f a1 l2).bind fun bt280 => ((mlp_Dim.f a0 a1).bind fun bt287 => ((thrumref16_Dim.f a0 a1).bind fun bt289 => ((mlp_Bend.f l2).bind fun bt291 => ((thrumref16_Bend.f l2).bind fun bt295 => (if bt257.1 = bt259.1 then (if bt257.2 = bt259.2 then ((thrumref02_Same.f bt261.1 bt265.1).bind fun t299 => (if t299 = true then (if bt261.2 = bt265.2 then (if bt269.1 = bt271.1 then (if bt269.2 = bt271.2 then ((thrumref15_SameLists.f bt273.1 bt280.1).bind fun t300 => (if t300 = true then ((thrumref02_Same.f bt273.2.1 bt280.2.1).bind fun t301 => (if t301 = true then (if bt273.2.2 = bt280.2.2 then (if bt287.1 = bt289.1 then (if bt287.2 = bt289.2 then ((thrumref02_Same.f bt291.1 bt295.1).bind fun t302 => (if t302 = true then (if bt291.2 = bt295.2 then ((mlp_Check.f a0 a1 l2 (([(⟨l3_0, a3_1⟩ : S26)] : List (S26)))).bind fun t306 => ((thrumref16_Check.f a0 a1 l2 (([(⟨l3_0, a3_1⟩ : S26)] : List (S26)))).bind fun t310 => (some (t306 == t310)))) else (some false)) else (some false))) else (some false)) else (some false)) else (some false)) else (some false))) else (some false))) else (some false)) else (some false)) else (some false)) else (some false))) else (some false)) else (some false)))))))))))))) else (some true)) = some r := H
  have A8 := Aside0.mk A80
  clear A80
  by_cases c9 : t256 = true
  ·
   subst c9
   have H1 : ((mlp_Tell.f a1 l2 l3_0 a4).bind fun bt257 => ((thrumref16_Tell.f a1 l2 l3_0 a4).bind fun bt259 => ((mlp_Hidden.f a1 l2 l3_0 a4).bind fun bt261 => ((thrumref16_Hidden.f a1 l2 l3_0 a4).bind fun bt265 => ((mlp_Off.f a1 l2 l3_0 a3_1 a4).bind fun bt269 => ((thrumref16_Off.f a1 l2 l3_0 a3_1 a4).bind fun bt271 => ((mlp_Split.f a1 l2).bind fun bt273 => ((thrumref16_Split.f a1 l2).bind fun bt280 => ((mlp_Dim.f a0 a1).bind fun bt287 => ((thrumref16_Dim.f a0 a1).bind fun bt289 => ((mlp_Bend.f l2).bind fun bt291 => ((thrumref16_Bend.f l2).bind fun bt295 => (if bt257.1 = bt259.1 then (if bt257.2 = bt259.2 then ((thrumref02_Same.f bt261.1 bt265.1).bind fun t299 => (if t299 = true then (if bt261.2 = bt265.2 then (if bt269.1 = bt271.1 then (if bt269.2 = bt271.2 then ((thrumref15_SameLists.f bt273.1 bt280.1).bind fun t300 => (if t300 = true then ((thrumref02_Same.f bt273.2.1 bt280.2.1).bind fun t301 => (if t301 = true then (if bt273.2.2 = bt280.2.2 then (if bt287.1 = bt289.1 then (if bt287.2 = bt289.2 then ((thrumref02_Same.f bt291.1 bt295.1).bind fun t302 => (if t302 = true then (if bt291.2 = bt295.2 then ((mlp_Check.f a0 a1 l2 (([(⟨l3_0, a3_1⟩ : S26)] : List (S26)))).bind fun t306 => ((thrumref16_Check.f a0 a1 l2 (([(⟨l3_0, a3_1⟩ : S26)] : List (S26)))).bind fun t310 => (some (t306 == t310)))) else (some false)) else (some false))) else (some false)) else (some false)) else (some false)) else (some false))) else (some false))) else (some false)) else (some false)) else (some false)) else (some false))) else (some false)) else (some false)))))))))))))) = some r := by rw [if_pos rfl] at H; exact H
   clear H
   have H := H1
   clear H1
   replace H := Option.bind_eq_some_iff.mp H
   obtain ⟨⟨t257, t258⟩, A100, H⟩ := H
   replace H : ((thrumref16_Tell.f a1 l2 l3_0 a4).bind fun bt259 => ((mlp_Hidden.f a1 l2 l3_0 a4).bind fun bt261 => ((thrumref16_Hidden.f a1 l2 l3_0 a4).bind fun bt265 => ((mlp_Off.f a1 l2 l3_0 a3_1 a4).bind fun bt269 => ((thrumref16_Off.f a1 l2 l3_0 a3_1 a4).bind fun bt271 => ((mlp_Split.f a1 l2).bind fun bt273 => ((thrumref16_Split.f a1 l2).bind fun bt280 => ((mlp_Dim.f a0 a1).bind fun bt287 => ((thrumref16_Dim.f a0 a1).bind fun bt289 => ((mlp_Bend.f l2).bind fun bt291 => ((thrumref16_Bend.f l2).bind fun bt295 => (if t257 = bt259.1 then (if t258 = bt259.2 then ((thrumref02_Same.f bt261.1 bt265.1).bind fun t299 => (if t299 = true then (if bt261.2 = bt265.2 then (if bt269.1 = bt271.1 then (if bt269.2 = bt271.2 then ((thrumref15_SameLists.f bt273.1 bt280.1).bind fun t300 => (if t300 = true then ((thrumref02_Same.f bt273.2.1 bt280.2.1).bind fun t301 => (if t301 = true then (if bt273.2.2 = bt280.2.2 then (if bt287.1 = bt289.1 then (if bt287.2 = bt289.2 then ((thrumref02_Same.f bt291.1 bt295.1).bind fun t302 => (if t302 = true then (if bt291.2 = bt295.2 then ((mlp_Check.f a0 a1 l2 (([(⟨l3_0, a3_1⟩ : S26)] : List (S26)))).bind fun t306 => ((thrumref16_Check.f a0 a1 l2 (([(⟨l3_0, a3_1⟩ : S26)] : List (S26)))).bind fun t310 => (some (t306 == t310)))) else (some false)) else (some false))) else (some false)) else (some false)) else (some false)) else (some false))) else (some false))) else (some false)) else (some false)) else (some false)) else (some false))) else (some false)) else (some false))))))))))))) = some r := H
   have A10 := Aside0.mk A100
   clear A100
   replace H := Option.bind_eq_some_iff.mp H
   obtain ⟨⟨t259, t260⟩, A110, H⟩ := H
   replace H : ((mlp_Hidden.f a1 l2 l3_0 a4).bind fun bt261 => ((thrumref16_Hidden.f a1 l2 l3_0 a4).bind fun bt265 => ((mlp_Off.f a1 l2 l3_0 a3_1 a4).bind fun bt269 => ((thrumref16_Off.f a1 l2 l3_0 a3_1 a4).bind fun bt271 => ((mlp_Split.f a1 l2).bind fun bt273 => ((thrumref16_Split.f a1 l2).bind fun bt280 => ((mlp_Dim.f a0 a1).bind fun bt287 => ((thrumref16_Dim.f a0 a1).bind fun bt289 => ((mlp_Bend.f l2).bind fun bt291 => ((thrumref16_Bend.f l2).bind fun bt295 => (if t257 = t259 then (if t258 = t260 then ((thrumref02_Same.f bt261.1 bt265.1).bind fun t299 => (if t299 = true then (if bt261.2 = bt265.2 then (if bt269.1 = bt271.1 then (if bt269.2 = bt271.2 then ((thrumref15_SameLists.f bt273.1 bt280.1).bind fun t300 => (if t300 = true then ((thrumref02_Same.f bt273.2.1 bt280.2.1).bind fun t301 => (if t301 = true then (if bt273.2.2 = bt280.2.2 then (if bt287.1 = bt289.1 then (if bt287.2 = bt289.2 then ((thrumref02_Same.f bt291.1 bt295.1).bind fun t302 => (if t302 = true then (if bt291.2 = bt295.2 then ((mlp_Check.f a0 a1 l2 (([(⟨l3_0, a3_1⟩ : S26)] : List (S26)))).bind fun t306 => ((thrumref16_Check.f a0 a1 l2 (([(⟨l3_0, a3_1⟩ : S26)] : List (S26)))).bind fun t310 => (some (t306 == t310)))) else (some false)) else (some false))) else (some false)) else (some false)) else (some false)) else (some false))) else (some false))) else (some false)) else (some false)) else (some false)) else (some false))) else (some false)) else (some false)))))))))))) = some r := H
   have A11 := Aside0.mk A110
   clear A110
   replace H := Option.bind_eq_some_iff.mp H
   obtain ⟨⟨t261, t262⟩, A120, H⟩ := H
   replace H : ((thrumref16_Hidden.f a1 l2 l3_0 a4).bind fun bt265 => ((mlp_Off.f a1 l2 l3_0 a3_1 a4).bind fun bt269 => ((thrumref16_Off.f a1 l2 l3_0 a3_1 a4).bind fun bt271 => ((mlp_Split.f a1 l2).bind fun bt273 => ((thrumref16_Split.f a1 l2).bind fun bt280 => ((mlp_Dim.f a0 a1).bind fun bt287 => ((thrumref16_Dim.f a0 a1).bind fun bt289 => ((mlp_Bend.f l2).bind fun bt291 => ((thrumref16_Bend.f l2).bind fun bt295 => (if t257 = t259 then (if t258 = t260 then ((thrumref02_Same.f t261 bt265.1).bind fun t299 => (if t299 = true then (if t262 = bt265.2 then (if bt269.1 = bt271.1 then (if bt269.2 = bt271.2 then ((thrumref15_SameLists.f bt273.1 bt280.1).bind fun t300 => (if t300 = true then ((thrumref02_Same.f bt273.2.1 bt280.2.1).bind fun t301 => (if t301 = true then (if bt273.2.2 = bt280.2.2 then (if bt287.1 = bt289.1 then (if bt287.2 = bt289.2 then ((thrumref02_Same.f bt291.1 bt295.1).bind fun t302 => (if t302 = true then (if bt291.2 = bt295.2 then ((mlp_Check.f a0 a1 l2 (([(⟨l3_0, a3_1⟩ : S26)] : List (S26)))).bind fun t306 => ((thrumref16_Check.f a0 a1 l2 (([(⟨l3_0, a3_1⟩ : S26)] : List (S26)))).bind fun t310 => (some (t306 == t310)))) else (some false)) else (some false))) else (some false)) else (some false)) else (some false)) else (some false))) else (some false))) else (some false)) else (some false)) else (some false)) else (some false))) else (some false)) else (some false))))))))))) = some r := H
   have A12 := Aside0.mk A120
   clear A120
   replace H := Option.bind_eq_some_iff.mp H
   obtain ⟨⟨t265, t266⟩, A130, H⟩ := H
   replace H : ((mlp_Off.f a1 l2 l3_0 a3_1 a4).bind fun bt269 => ((thrumref16_Off.f a1 l2 l3_0 a3_1 a4).bind fun bt271 => ((mlp_Split.f a1 l2).bind fun bt273 => ((thrumref16_Split.f a1 l2).bind fun bt280 => ((mlp_Dim.f a0 a1).bind fun bt287 => ((thrumref16_Dim.f a0 a1).bind fun bt289 => ((mlp_Bend.f l2).bind fun bt291 => ((thrumref16_Bend.f l2).bind fun bt295 => (if t257 = t259 then (if t258 = t260 then ((thrumref02_Same.f t261 t265).bind fun t299 => (if t299 = true then (if t262 = t266 then (if bt269.1 = bt271.1 then (if bt269.2 = bt271.2 then ((thrumref15_SameLists.f bt273.1 bt280.1).bind fun t300 => (if t300 = true then ((thrumref02_Same.f bt273.2.1 bt280.2.1).bind fun t301 => (if t301 = true then (if bt273.2.2 = bt280.2.2 then (if bt287.1 = bt289.1 then (if bt287.2 = bt289.2 then ((thrumref02_Same.f bt291.1 bt295.1).bind fun t302 => (if t302 = true then (if bt291.2 = bt295.2 then ((mlp_Check.f a0 a1 l2 (([(⟨l3_0, a3_1⟩ : S26)] : List (S26)))).bind fun t306 => ((thrumref16_Check.f a0 a1 l2 (([(⟨l3_0, a3_1⟩ : S26)] : List (S26)))).bind fun t310 => (some (t306 == t310)))) else (some false)) else (some false))) else (some false)) else (some false)) else (some false)) else (some false))) else (some false))) else (some false)) else (some false)) else (some false)) else (some false))) else (some false)) else (some false)))))))))) = some r := H
   have A13 := Aside0.mk A130
   clear A130
   replace H := Option.bind_eq_some_iff.mp H
   obtain ⟨⟨t269, t270⟩, A140, H⟩ := H
   replace H : ((thrumref16_Off.f a1 l2 l3_0 a3_1 a4).bind fun bt271 => ((mlp_Split.f a1 l2).bind fun bt273 => ((thrumref16_Split.f a1 l2).bind fun bt280 => ((mlp_Dim.f a0 a1).bind fun bt287 => ((thrumref16_Dim.f a0 a1).bind fun bt289 => ((mlp_Bend.f l2).bind fun bt291 => ((thrumref16_Bend.f l2).bind fun bt295 => (if t257 = t259 then (if t258 = t260 then ((thrumref02_Same.f t261 t265).bind fun t299 => (if t299 = true then (if t262 = t266 then (if t269 = bt271.1 then (if t270 = bt271.2 then ((thrumref15_SameLists.f bt273.1 bt280.1).bind fun t300 => (if t300 = true then ((thrumref02_Same.f bt273.2.1 bt280.2.1).bind fun t301 => (if t301 = true then (if bt273.2.2 = bt280.2.2 then (if bt287.1 = bt289.1 then (if bt287.2 = bt289.2 then ((thrumref02_Same.f bt291.1 bt295.1).bind fun t302 => (if t302 = true then (if bt291.2 = bt295.2 then ((mlp_Check.f a0 a1 l2 (([(⟨l3_0, a3_1⟩ : S26)] : List (S26)))).bind fun t306 => ((thrumref16_Check.f a0 a1 l2 (([(⟨l3_0, a3_1⟩ : S26)] : List (S26)))).bind fun t310 => (some (t306 == t310)))) else (some false)) else (some false))) else (some false)) else (some false)) else (some false)) else (some false))) else (some false))) else (some false)) else (some false)) else (some false)) else (some false))) else (some false)) else (some false))))))))) = some r := H
   have A14 := Aside0.mk A140
   clear A140
   replace H := Option.bind_eq_some_iff.mp H
   obtain ⟨⟨t271, t272⟩, A150, H⟩ := H
   replace H : ((mlp_Split.f a1 l2).bind fun bt273 => ((thrumref16_Split.f a1 l2).bind fun bt280 => ((mlp_Dim.f a0 a1).bind fun bt287 => ((thrumref16_Dim.f a0 a1).bind fun bt289 => ((mlp_Bend.f l2).bind fun bt291 => ((thrumref16_Bend.f l2).bind fun bt295 => (if t257 = t259 then (if t258 = t260 then ((thrumref02_Same.f t261 t265).bind fun t299 => (if t299 = true then (if t262 = t266 then (if t269 = t271 then (if t270 = t272 then ((thrumref15_SameLists.f bt273.1 bt280.1).bind fun t300 => (if t300 = true then ((thrumref02_Same.f bt273.2.1 bt280.2.1).bind fun t301 => (if t301 = true then (if bt273.2.2 = bt280.2.2 then (if bt287.1 = bt289.1 then (if bt287.2 = bt289.2 then ((thrumref02_Same.f bt291.1 bt295.1).bind fun t302 => (if t302 = true then (if bt291.2 = bt295.2 then ((mlp_Check.f a0 a1 l2 (([(⟨l3_0, a3_1⟩ : S26)] : List (S26)))).bind fun t306 => ((thrumref16_Check.f a0 a1 l2 (([(⟨l3_0, a3_1⟩ : S26)] : List (S26)))).bind fun t310 => (some (t306 == t310)))) else (some false)) else (some false))) else (some false)) else (some false)) else (some false)) else (some false))) else (some false))) else (some false)) else (some false)) else (some false)) else (some false))) else (some false)) else (some false)))))))) = some r := H
   have A15 := Aside0.mk A150
   clear A150
   replace H := Option.bind_eq_some_iff.mp H
   obtain ⟨⟨t273, t274, t275⟩, A160, H⟩ := H
   replace H : ((thrumref16_Split.f a1 l2).bind fun bt280 => ((mlp_Dim.f a0 a1).bind fun bt287 => ((thrumref16_Dim.f a0 a1).bind fun bt289 => ((mlp_Bend.f l2).bind fun bt291 => ((thrumref16_Bend.f l2).bind fun bt295 => (if t257 = t259 then (if t258 = t260 then ((thrumref02_Same.f t261 t265).bind fun t299 => (if t299 = true then (if t262 = t266 then (if t269 = t271 then (if t270 = t272 then ((thrumref15_SameLists.f t273 bt280.1).bind fun t300 => (if t300 = true then ((thrumref02_Same.f t274 bt280.2.1).bind fun t301 => (if t301 = true then (if t275 = bt280.2.2 then (if bt287.1 = bt289.1 then (if bt287.2 = bt289.2 then ((thrumref02_Same.f bt291.1 bt295.1).bind fun t302 => (if t302 = true then (if bt291.2 = bt295.2 then ((mlp_Check.f a0 a1 l2 (([(⟨l3_0, a3_1⟩ : S26)] : List (S26)))).bind fun t306 => ((thrumref16_Check.f a0 a1 l2 (([(⟨l3_0, a3_1⟩ : S26)] : List (S26)))).bind fun t310 => (some (t306 == t310)))) else (some false)) else (some false))) else (some false)) else (some false)) else (some false)) else (some false))) else (some false))) else (some false)) else (some false)) else (some false)) else (some false))) else (some false)) else (some false))))))) = some r := H
   have A16 := Aside0.mk A160
   clear A160
   replace H := Option.bind_eq_some_iff.mp H
   obtain ⟨⟨t280, t281, t282⟩, A170, H⟩ := H
   replace H : ((mlp_Dim.f a0 a1).bind fun bt287 => ((thrumref16_Dim.f a0 a1).bind fun bt289 => ((mlp_Bend.f l2).bind fun bt291 => ((thrumref16_Bend.f l2).bind fun bt295 => (if t257 = t259 then (if t258 = t260 then ((thrumref02_Same.f t261 t265).bind fun t299 => (if t299 = true then (if t262 = t266 then (if t269 = t271 then (if t270 = t272 then ((thrumref15_SameLists.f t273 t280).bind fun t300 => (if t300 = true then ((thrumref02_Same.f t274 t281).bind fun t301 => (if t301 = true then (if t275 = t282 then (if bt287.1 = bt289.1 then (if bt287.2 = bt289.2 then ((thrumref02_Same.f bt291.1 bt295.1).bind fun t302 => (if t302 = true then (if bt291.2 = bt295.2 then ((mlp_Check.f a0 a1 l2 (([(⟨l3_0, a3_1⟩ : S26)] : List (S26)))).bind fun t306 => ((thrumref16_Check.f a0 a1 l2 (([(⟨l3_0, a3_1⟩ : S26)] : List (S26)))).bind fun t310 => (some (t306 == t310)))) else (some false)) else (some false))) else (some false)) else (some false)) else (some false)) else (some false))) else (some false))) else (some false)) else (some false)) else (some false)) else (some false))) else (some false)) else (some false)))))) = some r := H
   have A17 := Aside0.mk A170
   clear A170
   replace H := Option.bind_eq_some_iff.mp H
   obtain ⟨⟨t287, t288⟩, A180, H⟩ := H
   replace H : ((thrumref16_Dim.f a0 a1).bind fun bt289 => ((mlp_Bend.f l2).bind fun bt291 => ((thrumref16_Bend.f l2).bind fun bt295 => (if t257 = t259 then (if t258 = t260 then ((thrumref02_Same.f t261 t265).bind fun t299 => (if t299 = true then (if t262 = t266 then (if t269 = t271 then (if t270 = t272 then ((thrumref15_SameLists.f t273 t280).bind fun t300 => (if t300 = true then ((thrumref02_Same.f t274 t281).bind fun t301 => (if t301 = true then (if t275 = t282 then (if t287 = bt289.1 then (if t288 = bt289.2 then ((thrumref02_Same.f bt291.1 bt295.1).bind fun t302 => (if t302 = true then (if bt291.2 = bt295.2 then ((mlp_Check.f a0 a1 l2 (([(⟨l3_0, a3_1⟩ : S26)] : List (S26)))).bind fun t306 => ((thrumref16_Check.f a0 a1 l2 (([(⟨l3_0, a3_1⟩ : S26)] : List (S26)))).bind fun t310 => (some (t306 == t310)))) else (some false)) else (some false))) else (some false)) else (some false)) else (some false)) else (some false))) else (some false))) else (some false)) else (some false)) else (some false)) else (some false))) else (some false)) else (some false))))) = some r := H
   have A18 := Aside0.mk A180
   clear A180
   replace H := Option.bind_eq_some_iff.mp H
   obtain ⟨⟨t289, t290⟩, A190, H⟩ := H
   replace H : ((mlp_Bend.f l2).bind fun bt291 => ((thrumref16_Bend.f l2).bind fun bt295 => (if t257 = t259 then (if t258 = t260 then ((thrumref02_Same.f t261 t265).bind fun t299 => (if t299 = true then (if t262 = t266 then (if t269 = t271 then (if t270 = t272 then ((thrumref15_SameLists.f t273 t280).bind fun t300 => (if t300 = true then ((thrumref02_Same.f t274 t281).bind fun t301 => (if t301 = true then (if t275 = t282 then (if t287 = t289 then (if t288 = t290 then ((thrumref02_Same.f bt291.1 bt295.1).bind fun t302 => (if t302 = true then (if bt291.2 = bt295.2 then ((mlp_Check.f a0 a1 l2 (([(⟨l3_0, a3_1⟩ : S26)] : List (S26)))).bind fun t306 => ((thrumref16_Check.f a0 a1 l2 (([(⟨l3_0, a3_1⟩ : S26)] : List (S26)))).bind fun t310 => (some (t306 == t310)))) else (some false)) else (some false))) else (some false)) else (some false)) else (some false)) else (some false))) else (some false))) else (some false)) else (some false)) else (some false)) else (some false))) else (some false)) else (some false)))) = some r := H
   have A19 := Aside0.mk A190
   clear A190
   replace H := Option.bind_eq_some_iff.mp H
   obtain ⟨⟨t291, t292⟩, A200, H⟩ := H
   replace H : ((thrumref16_Bend.f l2).bind fun bt295 => (if t257 = t259 then (if t258 = t260 then ((thrumref02_Same.f t261 t265).bind fun t299 => (if t299 = true then (if t262 = t266 then (if t269 = t271 then (if t270 = t272 then ((thrumref15_SameLists.f t273 t280).bind fun t300 => (if t300 = true then ((thrumref02_Same.f t274 t281).bind fun t301 => (if t301 = true then (if t275 = t282 then (if t287 = t289 then (if t288 = t290 then ((thrumref02_Same.f t291 bt295.1).bind fun t302 => (if t302 = true then (if t292 = bt295.2 then ((mlp_Check.f a0 a1 l2 (([(⟨l3_0, a3_1⟩ : S26)] : List (S26)))).bind fun t306 => ((thrumref16_Check.f a0 a1 l2 (([(⟨l3_0, a3_1⟩ : S26)] : List (S26)))).bind fun t310 => (some (t306 == t310)))) else (some false)) else (some false))) else (some false)) else (some false)) else (some false)) else (some false))) else (some false))) else (some false)) else (some false)) else (some false)) else (some false))) else (some false)) else (some false))) = some r := H
   have A20 := Aside0.mk A200
   clear A200
   replace H := Option.bind_eq_some_iff.mp H
   obtain ⟨⟨t295, t296⟩, A210, H⟩ := H
   replace H : (if t257 = t259 then (if t258 = t260 then ((thrumref02_Same.f t261 t265).bind fun t299 => (if t299 = true then (if t262 = t266 then (if t269 = t271 then (if t270 = t272 then ((thrumref15_SameLists.f t273 t280).bind fun t300 => (if t300 = true then ((thrumref02_Same.f t274 t281).bind fun t301 => (if t301 = true then (if t275 = t282 then (if t287 = t289 then (if t288 = t290 then ((thrumref02_Same.f t291 t295).bind fun t302 => (if t302 = true then (if t292 = t296 then ((mlp_Check.f a0 a1 l2 (([(⟨l3_0, a3_1⟩ : S26)] : List (S26)))).bind fun t306 => ((thrumref16_Check.f a0 a1 l2 (([(⟨l3_0, a3_1⟩ : S26)] : List (S26)))).bind fun t310 => (some (t306 == t310)))) else (some false)) else (some false))) else (some false)) else (some false)) else (some false)) else (some false))) else (some false))) else (some false)) else (some false)) else (some false)) else (some false))) else (some false)) else (some false)) = some r := H
   have A21 := Aside0.mk A210
   clear A210
   by_cases c22 : t257 = t259
   ·
    rw [if_pos c22] at H
    have c22b0 : (t257 == t259) = true := beq_iff_eq.mpr c22
    have c22b1 : (t257 != t259) = false := bne_eq_false_iff_eq.mpr c22
    clear c22
    by_cases c23 : t258 = t260
    ·
     rw [if_pos c23] at H
     have c23b0 : (t258 == t260) = true := beq_iff_eq.mpr c23
     have c23b1 : (t258 != t260) = false := bne_eq_false_iff_eq.mpr c23
     clear c23
     replace H := Option.bind_eq_some_iff.mp H
     obtain ⟨t299, A240, H⟩ := H
     replace H : (if t299 = true then (if t262 = t266 then (if t269 = t271 then (if t270 = t272 then ((thrumref15_SameLists.f t273 t280).bind fun t300 => (if t300 = true then ((thrumref02_Same.f t274 t281).bind fun t301 => (if t301 = true then (if t275 = t282 then (if t287 = t289 then (if t288 = t290 then ((thrumref02_Same.f t291 t295).bind fun t302 => (if t302 = true then (if t292 = t296 then ((mlp_Check.f a0 a1 l2 (([(⟨l3_0, a3_1⟩ : S26)] : List (S26)))).bind fun t306 => ((thrumref16_Check.f a0 a1 l2 (([(⟨l3_0, a3_1⟩ : S26)] : List (S26)))).bind fun t310 => (some (t306 == t310)))) else (some false)) else (some false))) else (some false)) else (some false)) else (some false)) else (some false))) else (some false))) else (some false)) else (some false)) else (some false)) else (some false)) = some r := H
     have A24 := Aside0.mk A240
     clear A240
     by_cases c25 : t299 = true
     ·
      subst c25
      have H1 : (if t262 = t266 then (if t269 = t271 then (if t270 = t272 then ((thrumref15_SameLists.f t273 t280).bind fun t300 => (if t300 = true then ((thrumref02_Same.f t274 t281).bind fun t301 => (if t301 = true then (if t275 = t282 then (if t287 = t289 then (if t288 = t290 then ((thrumref02_Same.f t291 t295).bind fun t302 => (if t302 = true then (if t292 = t296 then ((mlp_Check.f a0 a1 l2 (([(⟨l3_0, a3_1⟩ : S26)] : List (S26)))).bind fun t306 => ((thrumref16_Check.f a0 a1 l2 (([(⟨l3_0, a3_1⟩ : S26)] : List (S26)))).bind fun t310 => (some (t306 == t310)))) else (some false)) else (some false))) else (some false)) else (some false)) else (some false)) else (some false))) else (some false))) else (some false)) else (some false)) else (some false)) = some r := by rw [if_pos rfl] at H; exact H
      clear H
      have H := H1
      clear H1
      by_cases c26 : t262 = t266
      ·
       rw [if_pos c26] at H
       have c26b0 : (t262 == t266) = true := beq_iff_eq.mpr c26
       have c26b1 : (t262 != t266) = false := bne_eq_false_iff_eq.mpr c26
       clear c26
       by_cases c27 : t269 = t271
       ·
        rw [if_pos c27] at H
        have c27b0 : (t269 == t271) = true := beq_iff_eq.mpr c27
        have c27b1 : (t269 != t271) = false := bne_eq_false_iff_eq.mpr c27
        clear c27
        by_cases c28 : t270 = t272
        ·
         rw [if_pos c28] at H
         have c28b0 : (t270 == t272) = true := beq_iff_eq.mpr c28
         have c28b1 : (t270 != t272) = false := bne_eq_false_iff_eq.mpr c28
         clear c28
         replace H := Option.bind_eq_some_iff.mp H
         obtain ⟨t300, A290, H⟩ := H
         replace H : (if t300 = true then ((thrumref02_Same.f t274 t281).bind fun t301 => (if t301 = true then (if t275 = t282 then (if t287 = t289 then (if t288 = t290 then ((thrumref02_Same.f t291 t295).bind fun t302 => (if t302 = true then (if t292 = t296 then ((mlp_Check.f a0 a1 l2 (([(⟨l3_0, a3_1⟩ : S26)] : List (S26)))).bind fun t306 => ((thrumref16_Check.f a0 a1 l2 (([(⟨l3_0, a3_1⟩ : S26)] : List (S26)))).bind fun t310 => (some (t306 == t310)))) else (some false)) else (some false))) else (some false)) else (some false)) else (some false)) else (some false))) else (some false)) = some r := H
         have A29 := Aside0.mk A290
         clear A290
         by_cases c30 : t300 = true
         ·
          subst c30
          have H1 : ((thrumref02_Same.f t274 t281).bind fun t301 => (if t301 = true then (if t275 = t282 then (if t287 = t289 then (if t288 = t290 then ((thrumref02_Same.f t291 t295).bind fun t302 => (if t302 = true then (if t292 = t296 then ((mlp_Check.f a0 a1 l2 (([(⟨l3_0, a3_1⟩ : S26)] : List (S26)))).bind fun t306 => ((thrumref16_Check.f a0 a1 l2 (([(⟨l3_0, a3_1⟩ : S26)] : List (S26)))).bind fun t310 => (some (t306 == t310)))) else (some false)) else (some false))) else (some false)) else (some false)) else (some false)) else (some false))) = some r := by rw [if_pos rfl] at H; exact H
          clear H
          have H := H1
          clear H1
          replace H := Option.bind_eq_some_iff.mp H
          obtain ⟨t301, A310, H⟩ := H
          replace H : (if t301 = true then (if t275 = t282 then (if t287 = t289 then (if t288 = t290 then ((thrumref02_Same.f t291 t295).bind fun t302 => (if t302 = true then (if t292 = t296 then ((mlp_Check.f a0 a1 l2 (([(⟨l3_0, a3_1⟩ : S26)] : List (S26)))).bind fun t306 => ((thrumref16_Check.f a0 a1 l2 (([(⟨l3_0, a3_1⟩ : S26)] : List (S26)))).bind fun t310 => (some (t306 == t310)))) else (some false)) else (some false))) else (some false)) else (some false)) else (some false)) else (some false)) = some r := H
          have A31 := Aside0.mk A310
          clear A310
          by_cases c32 : t301 = true
          ·
           subst c32
           have H1 : (if t275 = t282 then (if t287 = t289 then (if t288 = t290 then ((thrumref02_Same.f t291 t295).bind fun t302 => (if t302 = true then (if t292 = t296 then ((mlp_Check.f a0 a1 l2 (([(⟨l3_0, a3_1⟩ : S26)] : List (S26)))).bind fun t306 => ((thrumref16_Check.f a0 a1 l2 (([(⟨l3_0, a3_1⟩ : S26)] : List (S26)))).bind fun t310 => (some (t306 == t310)))) else (some false)) else (some false))) else (some false)) else (some false)) else (some false)) = some r := by rw [if_pos rfl] at H; exact H
           clear H
           have H := H1
           clear H1
           by_cases c33 : t275 = t282
           ·
            rw [if_pos c33] at H
            have c33b0 : (t275 == t282) = true := beq_iff_eq.mpr c33
            have c33b1 : (t275 != t282) = false := bne_eq_false_iff_eq.mpr c33
            clear c33
            by_cases c34 : t287 = t289
            ·
             rw [if_pos c34] at H
             have c34b0 : (t287 == t289) = true := beq_iff_eq.mpr c34
             have c34b1 : (t287 != t289) = false := bne_eq_false_iff_eq.mpr c34
             clear c34
             by_cases c35 : t288 = t290
             ·
              rw [if_pos c35] at H
              have c35b0 : (t288 == t290) = true := beq_iff_eq.mpr c35
              have c35b1 : (t288 != t290) = false := bne_eq_false_iff_eq.mpr c35
              clear c35
              replace H := Option.bind_eq_some_iff.mp H
              obtain ⟨t302, A360, H⟩ := H
              replace H : (if t302 = true then (if t292 = t296 then ((mlp_Check.f a0 a1 l2 (([(⟨l3_0, a3_1⟩ : S26)] : List (S26)))).bind fun t306 => ((thrumref16_Check.f a0 a1 l2 (([(⟨l3_0, a3_1⟩ : S26)] : List (S26)))).bind fun t310 => (some (t306 == t310)))) else (some false)) else (some false)) = some r := H
              have A36 := Aside0.mk A360
              clear A360
              by_cases c37 : t302 = true
              ·
               subst c37
               have H1 : (if t292 = t296 then ((mlp_Check.f a0 a1 l2 (([(⟨l3_0, a3_1⟩ : S26)] : List (S26)))).bind fun t306 => ((thrumref16_Check.f a0 a1 l2 (([(⟨l3_0, a3_1⟩ : S26)] : List (S26)))).bind fun t310 => (some (t306 == t310)))) else (some false)) = some r := by rw [if_pos rfl] at H; exact H
               clear H
               have H := H1
               clear H1
               by_cases c38 : t292 = t296
               ·
                rw [if_pos c38] at H
                have c38b0 : (t292 == t296) = true := beq_iff_eq.mpr c38
                have c38b1 : (t292 != t296) = false := bne_eq_false_iff_eq.mpr c38
                clear c38
                obtain ⟨y303, hy303⟩ : ∃ y_ : List (S26), y_ = (([(⟨l3_0, a3_1⟩ : S26)] : List (S26))) := ⟨_, rfl⟩
                replace H : ((mlp_Check.f a0 a1 l2 y303).bind fun t306 => ((thrumref16_Check.f a0 a1 l2 (([(⟨l3_0, a3_1⟩ : S26)] : List (S26)))).bind fun t310 => (some (t306 == t310)))) = some r := by first | (rw [hy303]; with_reducible exact H) | (have H2_ := (Option.bind_some _ _).symm.trans H; rw [hy303]; with_reducible exact H2_) | (have H2_ := (Option.bind_some _ _).symm.trans H; with_reducible exact H2_) | with_reducible exact H | (rw [hy303]; exact H) | exact H
                have Ny303 := Aside0.mk hy303
                clear hy303
                replace H := Option.bind_eq_some_iff.mp H
                obtain ⟨t306, A390, H⟩ := H
                replace H : ((thrumref16_Check.f a0 a1 l2 (([(⟨l3_0, a3_1⟩ : S26)] : List (S26)))).bind fun t310 => (some (t306 == t310))) = some r := H
                have A39 := Aside0.mk A390
                clear A390
                obtain ⟨y307, hy307⟩ : ∃ y_ : List (S26), y_ = (([(⟨l3_0, a3_1⟩ : S26)] : List (S26))) := ⟨_, rfl⟩
                replace H : ((thrumref16_Check.f a0 a1 l2 y307).bind fun t310 => (some (t306 == t310))) = some r := by first | (rw [hy307]; with_reducible exact H) | (have H2_ := (Option.bind_some _ _).symm.trans H; rw [hy307]; with_reducible exact H2_) | (have H2_ := (Option.bind_some _ _).symm.trans H; with_reducible exact H2_) | with_reducible exact H | (rw [hy307]; exact H) | exact H
                have Ny307 := Aside0.mk hy307
                clear hy307
                replace H := Option.bind_eq_some_iff.mp H
                obtain ⟨t310, A400, H⟩ := H
                replace H : (some (t306 == t310)) = some r := H
                have A40 := Aside0.mk A400
                clear A400
                focus
                 obtain rfl := Option.some.inj H
                 go_enter Try.func4, Try.ntmps4
                 try go_wp2_with (first | ((with_reducible refine gate_dst (N := 8) rfl ?_); (try (refine gate_guard (by rfl) ?_; dsimp only)); refine box_event ?hg (N := 8) ?hd (cs := #[.slice A3_0 l3_0.length c3_0, .int .i64 a3_1]) (t := 26) ?hr ?_; (case hd => rfl); (case hg => rfl); (case hr => first | (go_simp; done) | (go_simp; rfl)); intro gb251 hg w41 hbox hb; have n0_ := Aside0.mk (Kd.V_below (Kd.V_elderB (by (with_reducible repeat (first | apply Kd.V_alloc | apply Kd.V_drewN | apply Kd.V_drew)); exact HO3_0.out) gb251 (Nat.le_of_eq hg.symm)) hb); have n1_ := Aside0.mk (zzT (by repeat (first | (with_reducible first | exact HB.out | apply zzA | apply zzN | apply zzD) | exact HB.out)) hb); have n2_ := Aside0.mk (hbox); have n3_ := Aside0.mk ((by rw [hg]; exact (zzS (by repeat (first | (with_reducible first | exact HB.out | apply zzA | apply zzN | apply zzD) | exact HB.out))) : w.heap.size ≤ gb251)); have n4_ := Aside0.mk ((by rw [hg]; exact (zzS (by repeat (first | (with_reducible first | exact HB.out | apply zzA | apply zzN | apply zzD) | exact HB.out))) : w.heap.size ≤ gb251)); clear HO3_0; clear HB; have HO3_0 := n0_; have HB := n1_; have BK251 := n2_; have GW251 := n3_; have GE251 := n4_; clear n0_ n1_ n2_ n3_ n4_; clear hb hbox hg) | ((with_reducible refine gate_callee (f := 8) rfl ?_); refine goesL_ (some 38) rfl rfl Try.func8 (by kernel_rfl) rfl #[] rfl (by (try simp only [List.map_toArray, List.map_cons, List.map_nil]); first | done | rfl | (simp only [List.length_drop, List.length_take]; rfl)) ?_; (with_reducible refine (thrumlaw16_live.calls  true _ A6.out).mono ?_); rintro e w42 ⟨rfl, hb⟩; refine ⟨_, rfl, ?_⟩; have n0_ := Aside0.mk (Kd.V_below (by (with_reducible repeat (first | apply Kd.V_alloc | apply Kd.V_drewN | apply Kd.V_drew)); exact HO3_0.out) hb); have n1_ := Aside0.mk (blk_below (g := gb251) (o := .cells #[.slice A3_0 l3_0.length c3_0, .int .i64 a3_1] 26 (0, 0)) (by (with_reducible repeat (first | refine kkN ?_ _ | refine kkD ?_ | refine kkA ?_ _)); exact BK251.out) hb); have n2_ := Aside0.mk (zzT (by repeat (first | (with_reducible first | exact HB.out | apply zzA | apply zzN | apply zzD | refine below_set ?_ GE251.out) | exact HB.out)) hb); clear HO3_0; clear BK251; clear HB; have HO3_0 := n0_; have BK251 := n1_; have HB := n2_; clear n0_ n1_ n2_; (try clear hb); (try clear hb2); (try clear hk); (try clear hi); have hcz43_0 : w42.cell? ⟨gb251, 0, none⟩ = some (.slice A3_0 l3_0.length c3_0) := (blk_cell BK251.out 0).trans rfl; have hcz43_1 : w42.cell? ⟨gb251, 1, none⟩ = some (.int .i64 a3_1) := (blk_cell BK251.out 1).trans rfl; have hfz43_0 := blk_frozen BK251.out 0; have hfz43_1 := blk_frozen BK251.out 1) | ((with_reducible refine gate_dst (N := 43) rfl ?_); (try (refine gate_guard (by rfl) ?_; dsimp only)); refine Kd.N_lit k26 _ 26 ?hg (N' := 43) ?hd (xs := ([(⟨l3_0, a3_1⟩ : S26)] : List (S26))) (inner := [.slice A3_0 l3_0.length c3_0, .int .i64 a3_1]) (ok := (fun k_ => (P3_0_ k_ ∨ w.heap.size ≤ k_) ∧ k_ ≠ gb251)) (okp := (fun k_ => (P3_0_ k_ ∨ w.heap.size ≤ k_) ∧ k_ ≠ gb251)) ?hr ?hp (fun _ hk => hk) ((show ∀ k_, w42.heap.size ≤ k_ → (fun k_ => (P3_0_ k_ ∨ w.heap.size ≤ k_) ∧ k_ ≠ gb251) k_ from fun k_ hk => ⟨(.inr (Nat.le_trans (zzS (by repeat (first | (with_reducible first | exact HB.out | apply zzA | apply zzN | apply zzD | refine below_set ?_ GE251.out) | exact HB.out))) hk)), Kd.freshB (g := gb251) (o := .cells #[.slice A3_0 l3_0.length c3_0, .int .i64 a3_1] 26 (0, 0)) (by (with_reducible repeat (first | refine kkN ?_ _ | refine kkD ?_ | refine kkA ?_ _)); exact BK251.out) k_ hk⟩) _ (Nat.le_refl _)) (Below.refl _ _) (Nat.le_refl _) (by simp) ?_; (case hd => rfl); (case hg => rfl); (case hr => first | (go_simp; done) | (go_simp; rfl)); (case hp => exact (Reps.c2 (show Kd.FK k26 _ _ (⟨l3_0, a3_1⟩ : S26) [.slice A3_0 l3_0.length c3_0, .int .i64 a3_1] from (k26_mkF _ _ (⟨l3_0, a3_1⟩ : S26) (Kd.V_reads' (Kd.V_mono (ok' := (fun k_ => (P3_0_ k_ ∨ w.heap.size ≤ k_) ∧ k_ ≠ gb251)) (HO3_0.out) (fun k_ hk => ⟨hk.1, hk.2⟩))).2.1 (Kd.V_F (base := w.heap.size) (e := 2) (Kd.V_mono (ok' := (fun k_ => (P3_0_ k_ ∨ w.heap.size ≤ k_) ∧ k_ ≠ gb251)) (HO3_0.out) (fun k_ hk => ⟨hk.1, hk.2⟩))))) (Reps.none _ _))); intro v254 w44 ho45 hb hg_ hnew_; clear hg_ hnew_; (first | rw [← Ny253.out] at ho45 | (simp only [Int.reduceToNat] at ho45; rw [← Ny253.out] at ho45)); have n0_ := Aside0.mk (Kd.V_elder' (by (with_reducible repeat (first | apply Kd.V_alloc | apply Kd.V_drewN | apply Kd.V_drew)); exact HO3_0.out) (Kd.N_base ho45) hb); have n1_ := Aside0.mk (Kd.N_lower ho45 (zzS (by repeat (first | (with_reducible first | exact HB.out | apply zzA | apply zzN | apply zzD | refine below_set ?_ GE251.out) | exact HB.out)))); have n2_ := Aside0.mk (blk_below (g := gb251) (o := .cells #[.slice A3_0 l3_0.length c3_0, .int .i64 a3_1] 26 (0, 0)) (by (with_reducible repeat (first | refine kkN ?_ _ | refine kkD ?_ | refine kkA ?_ _)); exact BK251.out) hb); have n3_ := Aside0.mk (zzT (by repeat (first | (with_reducible first | exact HB.out | apply zzA | apply zzN | apply zzD | refine below_set ?_ GE251.out) | exact HB.out)) hb); clear HO3_0; clear BK251; clear HB; have HO3_0 := n0_; have HO255 := n1_; have BK251 := n2_; have HB := n3_; clear n0_ n1_ n2_ n3_; clear hb ho45; obtain ⟨Ao46, co46, eo46⟩ := Kd.N_slice HO255.out; subst eo46) | ((with_reducible refine gate_callee (f := 9) rfl ?_); refine goesL_ (some 44) rfl rfl Try.func9 (by kernel_rfl) rfl #[.slice A2 l2.length c2, .slice Ao46 y253.length co46] rfl (by (try simp only [List.map_toArray, List.map_cons, List.map_nil]); first | done | rfl | (simp only [List.length_drop, List.length_take]; rfl)) ?_; (with_reducible refine (thrumref14_Few.calls _ _ l2 _ _ y253 true _ ?side1 ?side2 ?side3 ?side4 A8.out).mono ?_); (case side1 => repeat (first | exact (Kd.C_below HR2.out HB.out) | (with_reducible refine ccA ?_ _) | (with_reducible refine ccN ?_ _) | (with_reducible refine ccD ?_))); (case side2 => exact HC2.out); (case side3 => repeat (first | exact (Kd.N_reads' HO255.out).2.2 | (with_reducible refine ccA ?_ _) | (with_reducible refine ccN ?_ _) | (with_reducible refine ccD ?_))); (case side4 => exact (Kd.N_reads' HO255.out).2.1); rintro e w47 ⟨rfl, hb⟩; refine ⟨_, rfl, ?_⟩; have n0_ := Aside0.mk (Kd.V_below (by (with_reducible repeat (first | apply Kd.V_alloc | apply Kd.V_drewN | apply Kd.V_drew)); exact HO3_0.out) hb); have n1_ := Aside0.mk (Kd.N_below (by (with_reducible repeat (first | apply Kd.N_alloc | apply Kd.N_drewN | apply Kd.N_drew)); exact HO255.out) hb); have n2_ := Aside0.mk (blk_below (g := gb251) (o := .cells #[.slice A3_0 l3_0.length c3_0, .int .i64 a3_1] 26 (0, 0)) (by (with_reducible repeat (first | refine kkN ?_ _ | refine kkD ?_ | refine kkA ?_ _)); exact BK251.out) hb); have n3_ := Aside0.mk (zzT (by repeat (first | (with_reducible first | exact HB.out | apply zzA | apply zzN | apply zzD | refine below_set ?_ GE251.out) | exact HB.out)) hb); clear HO3_0; clear HO255; clear BK251; clear HB; have HO3_0 := n0_; have HO255 := n1_; have BK251 := n2_; have HB := n3_; clear n0_ n1_ n2_ n3_; (try clear hb); (try clear hb2); (try clear hk); (try clear hi); have hcz48_0 : w47.cell? ⟨gb251, 0, none⟩ = some (.slice A3_0 l3_0.length c3_0) := (blk_cell BK251.out 0).trans rfl; have hcz48_1 : w47.cell? ⟨gb251, 1, none⟩ = some (.int .i64 a3_1) := (blk_cell BK251.out 1).trans rfl; have hfz48_0 := blk_frozen BK251.out 0; have hfz48_1 := blk_frozen BK251.out 1) | ((with_reducible refine gate_callee (f := 13) rfl ?_); refine goesL_ (some 53) rfl rfl Try.func13 (by kernel_rfl) rfl #[.int .i64 a1, .slice A2 l2.length c2, .slice A3_0 l3_0.length c3_0, .int .i64 a4] rfl (by (try simp only [List.map_toArray, List.map_cons, List.map_nil]); first | done | rfl | (simp only [List.length_drop, List.length_take]; rfl)) ?_; (with_reducible refine (mlp_Tell.calls a1 _ _ l2 _ _ l3_0 a4 t257 t258 _ ?side1 ?side2 ?side3 ?side4 A10.out).mono ?_); (case side1 => repeat (first | exact (Kd.C_below HR2.out HB.out) | (with_reducible refine ccA ?_ _) | (with_reducible refine ccN ?_ _) | (with_reducible refine ccD ?_))); (case side2 => exact HC2.out); (case side3 => repeat (first | exact (Kd.V_reads' HO3_0.out).2.2 | (with_reducible refine ccA ?_ _) | (with_reducible refine ccN ?_ _) | (with_reducible refine ccD ?_))); (case side4 => exact (Kd.V_reads' HO3_0.out).2.1); rintro e w49 ⟨rfl, hb⟩; refine ⟨_, rfl, ?_⟩; have n0_ := Aside0.mk (Kd.V_below (by (with_reducible repeat (first | apply Kd.V_alloc | apply Kd.V_drewN | apply Kd.V_drew)); exact HO3_0.out) hb); have n1_ := Aside0.mk (Kd.N_below (by (with_reducible repeat (first | apply Kd.N_alloc | apply Kd.N_drewN | apply Kd.N_drew)); exact HO255.out) hb); have n2_ := Aside0.mk (blk_below (g := gb251) (o := .cells #[.slice A3_0 l3_0.length c3_0, .int .i64 a3_1] 26 (0, 0)) (by (with_reducible repeat (first | refine kkN ?_ _ | refine kkD ?_ | refine kkA ?_ _)); exact BK251.out) hb); have n3_ := Aside0.mk (zzT (by repeat (first | (with_reducible first | exact HB.out | apply zzA | apply zzN | apply zzD | refine below_set ?_ GE251.out) | exact HB.out)) hb); clear HO3_0; clear HO255; clear BK251; clear HB; have HO3_0 := n0_; have HO255 := n1_; have BK251 := n2_; have HB := n3_; clear n0_ n1_ n2_ n3_; (try clear hb); (try clear hb2); (try clear hk); (try clear hi); have hcz50_0 : w49.cell? ⟨gb251, 0, none⟩ = some (.slice A3_0 l3_0.length c3_0) := (blk_cell BK251.out 0).trans rfl; have hcz50_1 : w49.cell? ⟨gb251, 1, none⟩ = some (.int .i64 a3_1) := (blk_cell BK251.out 1).trans rfl; have hfz50_0 := blk_frozen BK251.out 0; have hfz50_1 := blk_frozen BK251.out 1) | ((with_reducible refine gate_callee (f := 14) rfl ?_); refine goesL_ (some 62) rfl rfl Try.func14 (by kernel_rfl) rfl #[.int .i64 a1, .slice A2 l2.length c2, .slice A3_0 l3_0.length c3_0, .int .i64 a4] rfl (by (try simp only [List.map_toArray, List.map_cons, List.map_nil]); first | done | rfl | (simp only [List.length_drop, List.length_take]; rfl)) ?_; (with_reducible refine (thrumref16_Tell.calls a1 _ _ l2 _ _ l3_0 a4 t259 t260 _ ?side1 ?side2 ?side3 ?side4 A11.out).mono ?_); (case side1 => repeat (first | exact (Kd.C_below HR2.out HB.out) | (with_reducible refine ccA ?_ _) | (with_reducible refine ccN ?_ _) | (with_reducible refine ccD ?_))); (case side2 => exact HC2.out); (case side3 => repeat (first | exact (Kd.V_reads' HO3_0.out).2.2 | (with_reducible refine ccA ?_ _) | (with_reducible refine ccN ?_ _) | (with_reducible refine ccD ?_))); (case side4 => exact (Kd.V_reads' HO3_0.out).2.1); rintro e w51 ⟨rfl, hb⟩; refine ⟨_, rfl, ?_⟩; have n0_ := Aside0.mk (Kd.V_below (by (with_reducible repeat (first | apply Kd.V_alloc | apply Kd.V_drewN | apply Kd.V_drew)); exact HO3_0.out) hb); have n1_ := Aside0.mk (Kd.N_below (by (with_reducible repeat (first | apply Kd.N_alloc | apply Kd.N_drewN | apply Kd.N_drew)); exact HO255.out) hb); have n2_ := Aside0.mk (blk_below (g := gb251) (o := .cells #[.slice A3_0 l3_0.length c3_0, .int .i64 a3_1] 26 (0, 0)) (by (with_reducible repeat (first | refine kkN ?_ _ | refine kkD ?_ | refine kkA ?_ _)); exact BK251.out) hb); have n3_ := Aside0.mk (zzT (by repeat (first | (with_reducible first | exact HB.out | apply zzA | apply zzN | apply zzD | refine below_set ?_ GE251.out) | exact HB.out)) hb); clear HO3_0; clear HO255; clear BK251; clear HB; have HO3_0 := n0_; have HO255 := n1_; have BK251 := n2_; have HB := n3_; clear n0_ n1_ n2_ n3_; (try clear hb); (try clear hb2); (try clear hk); (try clear hi); have hcz52_0 : w51.cell? ⟨gb251, 0, none⟩ = some (.slice A3_0 l3_0.length c3_0) := (blk_cell BK251.out 0).trans rfl; have hcz52_1 : w51.cell? ⟨gb251, 1, none⟩ = some (.int .i64 a3_1) := (blk_cell BK251.out 1).trans rfl; have hfz52_0 := blk_frozen BK251.out 0; have hfz52_1 := blk_frozen BK251.out 1) | ((with_reducible refine gate_callee (f := 10) rfl ?_); refine goesL_ (some 71) rfl rfl Try.func10 (by kernel_rfl) rfl #[.int .i64 a1, .slice A2 l2.length c2, .slice A3_0 l3_0.length c3_0, .int .i64 a4] rfl (by (try simp only [List.map_toArray, List.map_cons, List.map_nil]); first | done | rfl | (simp only [List.length_drop, List.length_take]; rfl)) ?_; (with_reducible refine (mlp_Hidden.calls a1 _ _ l2 _ _ l3_0 a4 t261 t262 _ ?side1 ?side2 ?side3 ?side4 A12.out).mono ?_); (case side1 => repeat (first | exact (Kd.C_below HR2.out HB.out) | (with_reducible refine ccA ?_ _) | (with_reducible refine ccN ?_ _) | (with_reducible refine ccD ?_))); (case side2 => exact HC2.out); (case side3 => repeat (first | exact (Kd.V_reads' HO3_0.out).2.2 | (with_reducible refine ccA ?_ _) | (with_reducible refine ccN ?_ _) | (with_reducible refine ccD ?_))); (case side4 => exact (Kd.V_reads' HO3_0.out).2.1); rintro e w53 ⟨v263, rfl, ho0, hb⟩; refine ⟨_, rfl, ?_⟩; have n0_ := Aside0.mk (Kd.V_elder' (by (with_reducible repeat (first | apply Kd.V_alloc | apply Kd.V_drewN | apply Kd.V_drew)); exact HO3_0.out) (Kd.R_base ho0) hb); have n1_ := Aside0.mk (Kd.N_elder' (by (with_reducible repeat (first | apply Kd.N_alloc | apply Kd.N_drewN | apply Kd.N_drew)); exact HO255.out) (Kd.R_base ho0) hb); have n2_ := Aside0.mk (Kd.R_lower (Kd.R_newM (M := fun k_ => (w.heap.size ≤ k_)) ho0 (zzS (by repeat (first | (with_reducible first | exact HB.out | apply zzA | apply zzN | apply zzD | refine below_set ?_ GE251.out) | exact HB.out))) (fun k_ h_ => h_)) (zzS (by repeat (first | (with_reducible first | exact HB.out | apply zzA | apply zzN | apply zzD | refine below_set ?_ GE251.out) | exact HB.out)))); have n3_ := Aside0.mk (blk_below (g := gb251) (o := .cells #[.slice A3_0 l3_0.length c3_0, .int .i64 a3_1] 26 (0, 0)) (by (with_reducible repeat (first | refine kkN ?_ _ | refine kkD ?_ | refine kkA ?_ _)); exact BK251.out) hb); have n4_ := Aside0.mk (zzT (by repeat (first | (with_reducible first | exact HB.out | apply zzA | apply zzN | apply zzD | refine below_set ?_ GE251.out) | exact HB.out)) hb); clear HO3_0; clear HO255; clear BK251; clear HB; have HO3_0 := n0_; have HO255 := n1_; have HO264 := n2_; have BK251 := n3_; have HB := n4_; clear n0_ n1_ n2_ n3_ n4_; (try clear hb); (try clear hb2); (try clear hk); (try clear hi); (try clear ho0); have hcz54_0 : w53.cell? ⟨gb251, 0, none⟩ = some (.slice A3_0 l3_0.length c3_0) := (blk_cell BK251.out 0).trans rfl; have hcz54_1 : w53.cell? ⟨gb251, 1, none⟩ = some (.int .i64 a3_1) := (blk_cell BK251.out 1).trans rfl; have hfz54_0 := blk_frozen BK251.out 0; have hfz54_1 := blk_frozen BK251.out 1) | ((with_reducible refine gate_callee (f := 15) rfl ?_); refine goesL_ (some 80) rfl rfl Try.func15 (by kernel_rfl) rfl #[.int .i64 a1, .slice A2 l2.length c2, .slice A3_0 l3_0.length c3_0, .int .i64 a4] rfl (by (try simp only [List.map_toArray, List.map_cons, List.map_nil]); first | done | rfl | (simp only [List.length_drop, List.length_take]; rfl)) ?_; (with_reducible refine (thrumref16_Hidden.calls a1 _ _ l2 _ _ l3_0 a4 t265 t266 _ ?side1 ?side2 ?side3 ?side4 A13.out).mono ?_); (case side1 => repeat (first | exact (Kd.C_below HR2.out HB.out) | (with_reducible refine ccA ?_ _) | (with_reducible refine ccN ?_ _) | (with_reducible refine ccD ?_))); (case side2 => exact HC2.out); (case side3 => repeat (first | exact (Kd.V_reads' HO3_0.out).2.2 | (with_reducible refine ccA ?_ _) | (with_reducible refine ccN ?_ _) | (with_reducible refine ccD ?_))); (case side4 => exact (Kd.V_reads' HO3_0.out).2.1); rintro e w55 ⟨v267, rfl, ho0, hb⟩; refine ⟨_, rfl, ?_⟩; have n0_ := Aside0.mk (Kd.V_elder' (by (with_reducible repeat (first | apply Kd.V_alloc | apply Kd.V_drewN | apply Kd.V_drew)); exact HO3_0.out) (Kd.R_base ho0) hb); have n1_ := Aside0.mk (Kd.N_elder' (by (with_reducible repeat (first | apply Kd.N_alloc | apply Kd.N_drewN | apply Kd.N_drew)); exact HO255.out) (Kd.R_base ho0) hb); have n2_ := Aside0.mk (Kd.R_elder' (by (with_reducible repeat (first | apply rrA | apply rrN | apply rrD)); exact HO264.out) (Kd.R_base ho0) hb); have n3_ := Aside0.mk (Kd.R_lower (Kd.R_new' (Kd.R_newM (M := fun k_ => (w.heap.size ≤ k_)) ho0 (zzS (by repeat (first | (with_reducible first | exact HB.out | apply zzA | apply zzN | apply zzD | refine below_set ?_ GE251.out) | exact HB.out))) (fun k_ h_ => h_)) (Kd.R_lt (by (with_reducible repeat (first | apply rrA | apply rrN | apply rrD)); exact HO264.out))) (zzS (by repeat (first | (with_reducible first | exact HB.out | apply zzA | apply zzN | apply zzD | refine below_set ?_ GE251.out) | exact HB.out)))); have n4_ := Aside0.mk (blk_below (g := gb251) (o := .cells #[.slice A3_0 l3_0.length c3_0, .int .i64 a3_1] 26 (0, 0)) (by (with_reducible repeat (first | refine kkN ?_ _ | refine kkD ?_ | refine kkA ?_ _)); exact BK251.out) hb); have n5_ := Aside0.mk (zzT (by repeat (first | (with_reducible first | exact HB.out | apply zzA | apply zzN | apply zzD | refine below_set ?_ GE251.out) | exact HB.out)) hb); clear HO3_0; clear HO255; clear HO264; clear BK251; clear HB; have HO3_0 := n0_; have HO255 := n1_; have HO264 := n2_; have HO268 := n3_; have BK251 := n4_; have HB := n5_; clear n0_ n1_ n2_ n3_ n4_ n5_; (try clear hb); (try clear hb2); (try clear hk); (try clear hi); (try clear ho0); have hcz56_0 : w55.cell? ⟨gb251, 0, none⟩ = some (.slice A3_0 l3_0.length c3_0) := (blk_cell BK251.out 0).trans rfl; have hcz56_1 : w55.cell? ⟨gb251, 1, none⟩ = some (.int .i64 a3_1) := (blk_cell BK251.out 1).trans rfl; have hfz56_0 := blk_frozen BK251.out 0; have hfz56_1 := blk_frozen BK251.out 1) | ((with_reducible refine gate_callee (f := 16) rfl ?_); refine goesL_ (some 88) rfl rfl Try.func16 (by kernel_rfl) rfl #[.int .i64 a1, .slice A2 l2.length c2, .agg #[.slice A3_0 l3_0.length c3_0, .int .i64 a3_1], .int .i64 a4] rfl (by (try simp only [List.map_toArray, List.map_cons, List.map_nil]); first | done | rfl | (simp only [List.length_drop, List.length_take]; rfl)) ?_; (with_reducible refine (mlp_Off.calls a1 _ _ l2 _ _ l3_0 a3_1 a4 t269 t270 _ ?side1 ?side2 ?side3 ?side4 A14.out).mono ?_); (case side1 => repeat (first | exact (Kd.C_below HR2.out HB.out) | (with_reducible refine ccA ?_ _) | (with_reducible refine ccN ?_ _) | (with_reducible refine ccD ?_))); (case side2 => exact HC2.out); (case side3 => repeat (first | exact (Kd.V_reads' HO3_0.out).2.2 | (with_reducible refine ccA ?_ _) | (with_reducible refine ccN ?_ _) | (with_reducible refine ccD ?_))); (case side4 => exact (Kd.V_reads' HO3_0.out).2.1); rintro e w57 ⟨rfl, hb⟩; refine ⟨_, rfl, ?_⟩; have n0_ := Aside0.mk (Kd.V_below (by (with_reducible repeat (first | apply Kd.V_alloc | apply Kd.V_drewN | apply Kd.V_drew)); exact HO3_0.out) hb); have n1_ := Aside0.mk (Kd.N_below (by (with_reducible repeat (first | apply Kd.N_alloc | apply Kd.N_drewN | apply Kd.N_drew)); exact HO255.out) hb); have n2_ := Aside0.mk (Kd.R_below (by (with_reducible repeat (first | apply rrA | apply rrN | apply rrD)); exact HO264.out) hb); have n3_ := Aside0.mk (Kd.R_below (by (with_reducible repeat (first | apply rrA | apply rrN | apply rrD)); exact HO268.out) hb); have n4_ := Aside0.mk (blk_below (g := gb251) (o := .cells #[.slice A3_0 l3_0.length c3_0, .int .i64 a3_1] 26 (0, 0)) (by (with_reducible repeat (first | refine kkN ?_ _ | refine kkD ?_ | refine kkA ?_ _)); exact BK251.out) hb); have n5_ := Aside0.mk (zzT (by repeat (first | (with_reducible first | exact HB.out | apply zzA | apply zzN | apply zzD | refine below_set ?_ GE251.out) | exact HB.out)) hb); clear HO3_0; clear HO255; clear HO264; clear HO268; clear BK251; clear HB; have HO3_0 := n0_; have HO255 := n1_; have HO264 := n2_; have HO268 := n3_; have BK251 := n4_; have HB := n5_; clear n0_ n1_ n2_ n3_ n4_ n5_; (try clear hb); (try clear hb2); (try clear hk); (try clear hi); have hcz58_0 : w57.cell? ⟨gb251, 0, none⟩ = some (.slice A3_0 l3_0.length c3_0) := (blk_cell BK251.out 0).trans rfl; have hcz58_1 : w57.cell? ⟨gb251, 1, none⟩ = some (.int .i64 a3_1) := (blk_cell BK251.out 1).trans rfl; have hfz58_0 := blk_frozen BK251.out 0; have hfz58_1 := blk_frozen BK251.out 1) | ((with_reducible refine gate_callee (f := 17) rfl ?_); refine goesL_ (some 96) rfl rfl Try.func17 (by kernel_rfl) rfl #[.int .i64 a1, .slice A2 l2.length c2, .agg #[.slice A3_0 l3_0.length c3_0, .int .i64 a3_1], .int .i64 a4] rfl (by (try simp only [List.map_toArray, List.map_cons, List.map_nil]); first | done | rfl | (simp only [List.length_drop, List.length_take]; rfl)) ?_; (with_reducible refine (thrumref16_Off.calls a1 _ _ l2 _ _ l3_0 a3_1 a4 t271 t272 _ ?side1 ?side2 ?side3 ?side4 A15.out).mono ?_); (case side1 => repeat (first | exact (Kd.C_below HR2.out HB.out) | (with_reducible refine ccA ?_ _) | (with_reducible refine ccN ?_ _) | (with_reducible refine ccD ?_))); (case side2 => exact HC2.out); (case side3 => repeat (first | exact (Kd.V_reads' HO3_0.out).2.2 | (with_reducible refine ccA ?_ _) | (with_reducible refine ccN ?_ _) | (with_reducible refine ccD ?_))); (case side4 => exact (Kd.V_reads' HO3_0.out).2.1); rintro e w59 ⟨rfl, hb⟩; refine ⟨_, rfl, ?_⟩; have n0_ := Aside0.mk (Kd.V_below (by (with_reducible repeat (first | apply Kd.V_alloc | apply Kd.V_drewN | apply Kd.V_drew)); exact HO3_0.out) hb); have n1_ := Aside0.mk (Kd.N_below (by (with_reducible repeat (first | apply Kd.N_alloc | apply Kd.N_drewN | apply Kd.N_drew)); exact HO255.out) hb); have n2_ := Aside0.mk (Kd.R_below (by (with_reducible repeat (first | apply rrA | apply rrN | apply rrD)); exact HO264.out) hb); have n3_ := Aside0.mk (Kd.R_below (by (with_reducible repeat (first | apply rrA | apply rrN | apply rrD)); exact HO268.out) hb); have n4_ := Aside0.mk (blk_below (g := gb251) (o := .cells #[.slice A3_0 l3_0.length c3_0, .int .i64 a3_1] 26 (0, 0)) (by (with_reducible repeat (first | refine kkN ?_ _ | refine kkD ?_ | refine kkA ?_ _)); exact BK251.out) hb); have n5_ := Aside0.mk (zzT (by repeat (first | (with_reducible first | exact HB.out | apply zzA | apply zzN | apply zzD | refine below_set ?_ GE251.out) | exact HB.out)) hb); clear HO3_0; clear HO255; clear HO264; clear HO268; clear BK251; clear HB; have HO3_0 := n0_; have HO255 := n1_; have HO264 := n2_; have HO268 := n3_; have BK251 := n4_; have HB := n5_; clear n0_ n1_ n2_ n3_ n4_ n5_; (try clear hb); (try clear hb2); (try clear hk); (try clear hi)) | ((with_reducible refine gate_callee (f := 11) rfl ?_); refine goesL_ (some 102) rfl rfl Try.func11 (by kernel_rfl) rfl #[.int .i64 a1, .slice A2 l2.length c2] rfl (by (try simp only [List.map_toArray, List.map_cons, List.map_nil]); first | done | rfl | (simp only [List.length_drop, List.length_take]; rfl)) ?_; (with_reducible refine (mlp_Split.calls a1 _ _ l2 t273 t274 t275 _ ?side1 ?side2 A16.out).mono ?_); (case side1 => repeat (first | exact (Kd.C_below HR2.out HB.out) | (with_reducible refine ccA ?_ _) | (with_reducible refine ccN ?_ _) | (with_reducible refine ccD ?_))); (case side2 => exact HC2.out); rintro e w60 ⟨v276, v278, rfl, ho0, ho1, hb⟩; refine ⟨_, rfl, ?_⟩; have n0_ := Aside0.mk (Kd.V_mono (Kd.V_told (Kd.V_told (Kd.V_old (by (with_reducible repeat (first | apply Kd.V_alloc | apply Kd.V_drewN | apply Kd.V_drew)); exact HO3_0.out) hb) (Kd.N_base (Kd.S_N ho0))) (Kd.R_base ho1)) (fun _ h_ => h_.1)); have n1_ := Aside0.mk (Kd.N_mono (Kd.N_told (Kd.N_told (Kd.N_old (by (with_reducible repeat (first | apply Kd.N_alloc | apply Kd.N_drewN | apply Kd.N_drew)); exact HO255.out) hb) (Kd.N_base (Kd.S_N ho0))) (Kd.R_base ho1)) (fun _ h_ => h_.1)); have n2_ := Aside0.mk (Kd.R_elder' (by (with_reducible repeat (first | apply rrA | apply rrN | apply rrD)); exact HO264.out) (Kd.R_base ho1) hb); have n3_ := Aside0.mk (Kd.R_elder' (by (with_reducible repeat (first | apply rrA | apply rrN | apply rrD)); exact HO268.out) (Kd.R_base ho1) hb); have n4_ := Aside0.mk (Kd.N_lower (Kd.N_mono (ok' := fun k_ => (P3_0_ k_ ∨ w.heap.size ≤ k_) ∧ some k_ ≠ (v278 : Value).ownBlock ∧ some k_ ≠ (.slice Ao46 y253.length co46 : Value).ownBlock ∧ some k_ ≠ (v263 : Value).ownBlock ∧ some k_ ≠ (v267 : Value).ownBlock ∧ k_ ≠ gb251) (Kd.S_N (Kd.S_bound ho0)) (fun k_ hk_ => ⟨(.inr (Nat.le_trans (zzS (by repeat (first | (with_reducible first | exact HB.out | apply zzA | apply zzN | apply zzD | refine below_set ?_ GE251.out) | exact HB.out))) hk_.2.1)), hk_.1, (Kd.fresh' (Kd.N_lt (by (with_reducible repeat (first | apply Kd.N_alloc | apply Kd.N_drewN | apply Kd.N_drew)); exact HO255.out)) k_ hk_.2.1), (Kd.fresh' (Kd.R_lt (by (with_reducible repeat (first | apply rrA | apply rrN | apply rrD)); exact HO264.out)) k_ hk_.2.1), (Kd.fresh' (Kd.R_lt (by (with_reducible repeat (first | apply rrA | apply rrN | apply rrD)); exact HO268.out)) k_ hk_.2.1), (Kd.freshB (g := gb251) (o := .cells #[.slice A3_0 l3_0.length c3_0, .int .i64 a3_1] 26 (0, 0)) (by (with_reducible repeat (first | refine kkN ?_ _ | refine kkD ?_ | refine kkA ?_ _)); exact BK251.out) k_ hk_.2.1)⟩)) (zzS (by repeat (first | (with_reducible first | exact HB.out | apply zzA | apply zzN | apply zzD | refine below_set ?_ GE251.out) | exact HB.out)))); have n5_ := Aside0.mk (Kd.R_lower (Kd.R_new' (Kd.R_new' (Kd.R_newM (M := fun k_ => (w.heap.size ≤ k_)) ho1 (zzS (by repeat (first | (with_reducible first | exact HB.out | apply zzA | apply zzN | apply zzD | refine below_set ?_ GE251.out) | exact HB.out))) (fun k_ h_ => h_)) (Kd.R_lt (by (with_reducible repeat (first | apply rrA | apply rrN | apply rrD)); exact HO264.out))) (Kd.R_lt (by (with_reducible repeat (first | apply rrA | apply rrN | apply rrD)); exact HO268.out))) (zzS (by repeat (first | (with_reducible first | exact HB.out | apply zzA | apply zzN | apply zzD | refine below_set ?_ GE251.out) | exact HB.out)))); have n6_ := Aside0.mk (blk_below (g := gb251) (o := .cells #[.slice A3_0 l3_0.length c3_0, .int .i64 a3_1] 26 (0, 0)) (by (with_reducible repeat (first | refine kkN ?_ _ | refine kkD ?_ | refine kkA ?_ _)); exact BK251.out) hb); have n7_ := Aside0.mk (zzT (by repeat (first | (with_reducible first | exact HB.out | apply zzA | apply zzN | apply zzD | refine below_set ?_ GE251.out) | exact HB.out)) hb); clear HO3_0; clear HO255; clear HO264; clear HO268; clear BK251; clear HB; have HO3_0 := n0_; have HO255 := n1_; have HO264 := n2_; have HO268 := n3_; have HO277 := n4_; have HO279 := n5_; have BK251 := n6_; have HB := n7_; clear n0_ n1_ n2_ n3_ n4_ n5_ n6_ n7_; (try clear hb); (try clear hb2); (try clear hk); (try clear hi); (try clear ho0); (try clear ho1)) | ((with_reducible refine gate_callee (f := 18) rfl ?_); refine goesL_ (some 109) rfl rfl Try.func18 (by kernel_rfl) rfl #[.int .i64 a1, .slice A2 l2.length c2] rfl (by (try simp only [List.map_toArray, List.map_cons, List.map_nil]); first | done | rfl | (simp only [List.length_drop, List.length_take]; rfl)) ?_; (with_reducible refine (thrumref16_Split.calls a1 _ _ l2 t280 t281 t282 _ ?side1 ?side2 A17.out).mono ?_); (case side1 => repeat (first | exact (Kd.C_below HR2.out HB.out) | (with_reducible refine ccA ?_ _) | (with_reducible refine ccN ?_ _) | (with_reducible refine ccD ?_))); (case side2 => exact HC2.out); rintro e w61 ⟨v283, v285, rfl, ho0, ho1, hb⟩; refine ⟨_, rfl, ?_⟩; have n0_ := Aside0.mk (Kd.V_mono (Kd.V_told (Kd.V_told (Kd.V_old (by (with_reducible repeat (first | apply Kd.V_alloc | apply Kd.V_drewN | apply Kd.V_drew)); exact HO3_0.out) hb) (Kd.N_base (Kd.S_N ho0))) (Kd.R_base ho1)) (fun _ h_ => h_.1)); have n1_ := Aside0.mk (Kd.N_mono (Kd.N_told (Kd.N_told (Kd.N_old (by (with_reducible repeat (first | apply Kd.N_alloc | apply Kd.N_drewN | apply Kd.N_drew)); exact HO255.out) hb) (Kd.N_base (Kd.S_N ho0))) (Kd.R_base ho1)) (fun _ h_ => h_.1)); have n2_ := Aside0.mk (Kd.R_elder' (by (with_reducible repeat (first | apply rrA | apply rrN | apply rrD)); exact HO264.out) (Kd.R_base ho1) hb); have n3_ := Aside0.mk (Kd.R_elder' (by (with_reducible repeat (first | apply rrA | apply rrN | apply rrD)); exact HO268.out) (Kd.R_base ho1) hb); have n4_ := Aside0.mk (Kd.N_mono (Kd.N_told (Kd.N_told (Kd.N_old (by (with_reducible repeat (first | apply Kd.N_alloc | apply Kd.N_drewN | apply Kd.N_drew)); exact HO277.out) hb) (Kd.N_base (Kd.S_N ho0))) (Kd.R_base ho1)) (fun _ h_ => h_.1)); have n5_ := Aside0.mk (Kd.R_elder' (by (with_reducible repeat (first | apply rrA | apply rrN | apply rrD)); exact HO279.out) (Kd.R_base ho1) hb); have n6_ := Aside0.mk (Kd.N_lower (Kd.N_mono (ok' := fun k_ => (P3_0_ k_ ∨ w.heap.size ≤ k_) ∧ some k_ ≠ (v285 : Value).ownBlock ∧ some k_ ≠ (.slice Ao46 y253.length co46 : Value).ownBlock ∧ some k_ ≠ (v263 : Value).ownBlock ∧ some k_ ≠ (v267 : Value).ownBlock ∧ some k_ ≠ (v276 : Value).ownBlock ∧ some k_ ≠ (v278 : Value).ownBlock ∧ k_ ≠ gb251) (Kd.S_N (Kd.S_bound ho0)) (fun k_ hk_ => ⟨(.inr (Nat.le_trans (zzS (by repeat (first | (with_reducible first | exact HB.out | apply zzA | apply zzN | apply zzD | refine below_set ?_ GE251.out) | exact HB.out))) hk_.2.1)), hk_.1, (Kd.fresh' (Kd.N_lt (by (with_reducible repeat (first | apply Kd.N_alloc | apply Kd.N_drewN | apply Kd.N_drew)); exact HO255.out)) k_ hk_.2.1), (Kd.fresh' (Kd.R_lt (by (with_reducible repeat (first | apply rrA | apply rrN | apply rrD)); exact HO264.out)) k_ hk_.2.1), (Kd.fresh' (Kd.R_lt (by (with_reducible repeat (first | apply rrA | apply rrN | apply rrD)); exact HO268.out)) k_ hk_.2.1), (Kd.fresh' (Kd.N_lt (by (with_reducible repeat (first | apply Kd.N_alloc | apply Kd.N_drewN | apply Kd.N_drew)); exact HO277.out)) k_ hk_.2.1), (Kd.fresh' (Kd.R_lt (by (with_reducible repeat (first | apply rrA | apply rrN | apply rrD)); exact HO279.out)) k_ hk_.2.1), (Kd.freshB (g := gb251) (o := .cells #[.slice A3_0 l3_0.length c3_0, .int .i64 a3_1] 26 (0, 0)) (by (with_reducible repeat (first | refine kkN ?_ _ | refine kkD ?_ | refine kkA ?_ _)); exact BK251.out) k_ hk_.2.1)⟩)) (zzS (by repeat (first | (with_reducible first | exact HB.out | apply zzA | apply zzN | apply zzD | refine below_set ?_ GE251.out) | exact HB.out)))); have n7_ := Aside0.mk (Kd.R_lower (Kd.R_new' (Kd.R_new' (Kd.R_new' (Kd.R_newM (M := fun k_ => (w.heap.size ≤ k_)) ho1 (zzS (by repeat (first | (with_reducible first | exact HB.out | apply zzA | apply zzN | apply zzD | refine below_set ?_ GE251.out) | exact HB.out))) (fun k_ h_ => h_)) (Kd.R_lt (by (with_reducible repeat (first | apply rrA | apply rrN | apply rrD)); exact HO264.out))) (Kd.R_lt (by (with_reducible repeat (first | apply rrA | apply rrN | apply rrD)); exact HO268.out))) (Kd.R_lt (by (with_reducible repeat (first | apply rrA | apply rrN | apply rrD)); exact HO279.out))) (zzS (by repeat (first | (with_reducible first | exact HB.out | apply zzA | apply zzN | apply zzD | refine below_set ?_ GE251.out) | exact HB.out)))); have n8_ := Aside0.mk (blk_below (g := gb251) (o := .cells #[.slice A3_0 l3_0.length c3_0, .int .i64 a3_1] 26 (0, 0)) (by (with_reducible repeat (first | refine kkN ?_ _ | refine kkD ?_ | refine kkA ?_ _)); exact BK251.out) hb); have n9_ := Aside0.mk (zzT (by repeat (first | (with_reducible first | exact HB.out | apply zzA | apply zzN | apply zzD | refine below_set ?_ GE251.out) | exact HB.out)) hb); clear HO3_0; clear HO255; clear HO264; clear HO268; clear HO277; clear HO279; clear BK251; clear HB; have HO3_0 := n0_; have HO255 := n1_; have HO264 := n2_; have HO268 := n3_; have HO277 := n4_; have HO279 := n5_; have HO284 := n6_; have HO286 := n7_; have BK251 := n8_; have HB := n9_; clear n0_ n1_ n2_ n3_ n4_ n5_ n6_ n7_ n8_ n9_; (try clear hb); (try clear hb2); (try clear hk); (try clear hi); (try clear ho0); (try clear ho1)) | ((with_reducible refine gate_callee (f := 19) rfl ?_); refine goesL_ (some 116) rfl rfl Try.func19 (by kernel_rfl) rfl #[.int .i64 a0, .int .i64 a1] rfl (by (try simp only [List.map_toArray, List.map_cons, List.map_nil]); first | done | rfl | (simp only [List.length_drop, List.length_take]; rfl)) ?_; (with_reducible refine (mlp_Dim.calls a0 a1 t287 t288 _ A18.out).mono ?_); rintro e w' ⟨rfl, ⟨nd, rfl⟩⟩; refine ⟨_, rfl, ?_⟩) | ((with_reducible refine gate_callee (f := 20) rfl ?_); refine goesL_ (some 122) rfl rfl Try.func20 (by kernel_rfl) rfl #[.int .i64 a0, .int .i64 a1] rfl (by (try simp only [List.map_toArray, List.map_cons, List.map_nil]); first | done | rfl | (simp only [List.length_drop, List.length_take]; rfl)) ?_; (with_reducible refine (thrumref16_Dim.calls a0 a1 t289 t290 _ A19.out).mono ?_); rintro e w' ⟨rfl, ⟨nd, rfl⟩⟩; refine ⟨_, rfl, ?_⟩) | ((with_reducible refine gate_callee (f := 21) rfl ?_); refine goesL_ (some 127) rfl rfl Try.func21 (by kernel_rfl) rfl #[.slice A2 l2.length c2] rfl (by (try simp only [List.map_toArray, List.map_cons, List.map_nil]); first | done | rfl | (simp only [List.length_drop, List.length_take]; rfl)) ?_; (with_reducible refine (mlp_Bend.calls _ _ l2 t291 t292 _ ?side1 ?side2 A20.out).mono ?_); (case side1 => repeat (first | exact (Kd.C_below HR2.out (by repeat (first | (with_reducible first | exact HB.out | apply zzA | apply zzN | apply zzD | refine below_set ?_ GE251.out) | exact HB.out))) | (with_reducible refine ccA ?_ _) | (with_reducible refine ccN ?_ _) | (with_reducible refine ccD ?_))); (case side2 => exact HC2.out); rintro e w62 ⟨v293, rfl, ho0, hb⟩; refine ⟨_, rfl, ?_⟩; have n0_ := Aside0.mk (Kd.V_elder' (by (with_reducible repeat (first | apply Kd.V_alloc | apply Kd.V_drewN | apply Kd.V_drew)); exact HO3_0.out) (Kd.R_base ho0) hb); have n1_ := Aside0.mk (Kd.N_elder' (by (with_reducible repeat (first | apply Kd.N_alloc | apply Kd.N_drewN | apply Kd.N_drew)); exact HO255.out) (Kd.R_base ho0) hb); have n2_ := Aside0.mk (Kd.R_elder' (by (with_reducible repeat (first | apply rrA | apply rrN | apply rrD)); exact HO264.out) (Kd.R_base ho0) hb); have n3_ := Aside0.mk (Kd.R_elder' (by (with_reducible repeat (first | apply rrA | apply rrN | apply rrD)); exact HO268.out) (Kd.R_base ho0) hb); have n4_ := Aside0.mk (Kd.N_elder' (by (with_reducible repeat (first | apply Kd.N_alloc | apply Kd.N_drewN | apply Kd.N_drew)); exact HO277.out) (Kd.R_base ho0) hb); have n5_ := Aside0.mk (Kd.R_elder' (by (with_reducible repeat (first | apply rrA | apply rrN | apply rrD)); exact HO279.out) (Kd.R_base ho0) hb); have n6_ := Aside0.mk (Kd.N_elder' (by (with_reducible repeat (first | apply Kd.N_alloc | apply Kd.N_drewN | apply Kd.N_drew)); exact HO284.out) (Kd.R_base ho0) hb); have n7_ := Aside0.mk (Kd.R_elder' (by (with_reducible repeat (first | apply rrA | apply rrN | apply rrD)); exact HO286.out) (Kd.R_base ho0) hb); have n8_ := Aside0.mk (Kd.R_lower (Kd.R_new' (Kd.R_new' (Kd.R_new' (Kd.R_new' (Kd.R_newM (M := fun k_ => (w.heap.size ≤ k_)) ho0 (zzS (by repeat (first | (with_reducible first | exact HB.out | apply zzA | apply zzN | apply zzD | refine below_set ?_ GE251.out) | exact HB.out))) (fun k_ h_ => h_)) (Kd.R_lt (by (with_reducible repeat (first | apply rrA | apply rrN | apply rrD)); exact HO264.out))) (Kd.R_lt (by (with_reducible repeat (first | apply rrA | apply rrN | apply rrD)); exact HO268.out))) (Kd.R_lt (by (with_reducible repeat (first | apply rrA | apply rrN | apply rrD)); exact HO279.out))) (Kd.R_lt (by (with_reducible repeat (first | apply rrA | apply rrN | apply rrD)); exact HO286.out))) (zzS (by repeat (first | (with_reducible first | exact HB.out | apply zzA | apply zzN | apply zzD | refine below_set ?_ GE251.out) | exact HB.out)))); have n9_ := Aside0.mk (blk_below (g := gb251) (o := .cells #[.slice A3_0 l3_0.length c3_0, .int .i64 a3_1] 26 (0, 0)) (by (with_reducible repeat (first | refine kkN ?_ _ | refine kkD ?_ | refine kkA ?_ _)); exact BK251.out) hb); have n10_ := Aside0.mk (zzT (by repeat (first | (with_reducible first | exact HB.out | apply zzA | apply zzN | apply zzD | refine below_set ?_ GE251.out) | exact HB.out)) hb); clear HO3_0; clear HO255; clear HO264; clear HO268; clear HO277; clear HO279; clear HO284; clear HO286; clear BK251; clear HB; have HO3_0 := n0_; have HO255 := n1_; have HO264 := n2_; have HO268 := n3_; have HO277 := n4_; have HO279 := n5_; have HO284 := n6_; have HO286 := n7_; have HO294 := n8_; have BK251 := n9_; have HB := n10_; clear n0_ n1_ n2_ n3_ n4_ n5_ n6_ n7_ n8_ n9_ n10_; (try clear hb); (try clear hb2); (try clear hk); (try clear hi); (try clear ho0)) | ((with_reducible refine gate_callee (f := 22) rfl ?_); refine goesL_ (some 132) rfl rfl Try.func22 (by kernel_rfl) rfl #[.slice A2 l2.length c2] rfl (by (try simp only [List.map_toArray, List.map_cons, List.map_nil]); first | done | rfl | (simp only [List.length_drop, List.length_take]; rfl)) ?_; (with_reducible refine (thrumref16_Bend.calls _ _ l2 t295 t296 _ ?side1 ?side2 A21.out).mono ?_); (case side1 => repeat (first | exact (Kd.C_below HR2.out HB.out) | (with_reducible refine ccA ?_ _) | (with_reducible refine ccN ?_ _) | (with_reducible refine ccD ?_))); (case side2 => exact HC2.out); rintro e w63 ⟨v297, rfl, ho0, hb⟩; refine ⟨_, rfl, ?_⟩; have n0_ := Aside0.mk (Kd.V_elder' (by (with_reducible repeat (first | apply Kd.V_alloc | apply Kd.V_drewN | apply Kd.V_drew)); exact HO3_0.out) (Kd.R_base ho0) hb); have n1_ := Aside0.mk (Kd.N_elder' (by (with_reducible repeat (first | apply Kd.N_alloc | apply Kd.N_drewN | apply Kd.N_drew)); exact HO255.out) (Kd.R_base ho0) hb); have n2_ := Aside0.mk (Kd.R_elder' (by (with_reducible repeat (first | apply rrA | apply rrN | apply rrD)); exact HO264.out) (Kd.R_base ho0) hb); have n3_ := Aside0.mk (Kd.R_elder' (by (with_reducible repeat (first | apply rrA | apply rrN | apply rrD)); exact HO268.out) (Kd.R_base ho0) hb); have n4_ := Aside0.mk (Kd.N_elder' (by (with_reducible repeat (first | apply Kd.N_alloc | apply Kd.N_drewN | apply Kd.N_drew)); exact HO277.out) (Kd.R_base ho0) hb); have n5_ := Aside0.mk (Kd.R_elder' (by (with_reducible repeat (first | apply rrA | apply rrN | apply rrD)); exact HO279.out) (Kd.R_base ho0) hb); have n6_ := Aside0.mk (Kd.N_elder' (by (with_reducible repeat (first | apply Kd.N_alloc | apply Kd.N_drewN | apply Kd.N_drew)); exact HO284.out) (Kd.R_base ho0) hb); have n7_ := Aside0.mk (Kd.R_elder' (by (with_reducible repeat (first | apply rrA | apply rrN | apply rrD)); exact HO286.out) (Kd.R_base ho0) hb); have n8_ := Aside0.mk (Kd.R_elder' (by (with_reducible repeat (first | apply rrA | apply rrN | apply rrD)); exact HO294.out) (Kd.R_base ho0) hb); have n9_ := Aside0.mk (Kd.R_lower (Kd.R_new' (Kd.R_new' (Kd.R_new' (Kd.R_new' (Kd.R_new' (Kd.R_newM (M := fun k_ => (w.heap.size ≤ k_)) ho0 (zzS (by repeat (first | (with_reducible first | exact HB.out | apply zzA | apply zzN | apply zzD | refine below_set ?_ GE251.out) | exact HB.out))) (fun k_ h_ => h_)) (Kd.R_lt (by (with_reducible repeat (first | apply rrA | apply rrN | apply rrD)); exact HO264.out))) (Kd.R_lt (by (with_reducible repeat (first | apply rrA | apply rrN | apply rrD)); exact HO268.out))) (Kd.R_lt (by (with_reducible repeat (first | apply rrA | apply rrN | apply rrD)); exact HO279.out))) (Kd.R_lt (by (with_reducible repeat (first | apply rrA | apply rrN | apply rrD)); exact HO286.out))) (Kd.R_lt (by (with_reducible repeat (first | apply rrA | apply rrN | apply rrD)); exact HO294.out))) (zzS (by repeat (first | (with_reducible first | exact HB.out | apply zzA | apply zzN | apply zzD | refine below_set ?_ GE251.out) | exact HB.out)))); have n10_ := Aside0.mk (blk_below (g := gb251) (o := .cells #[.slice A3_0 l3_0.length c3_0, .int .i64 a3_1] 26 (0, 0)) (by (with_reducible repeat (first | refine kkN ?_ _ | refine kkD ?_ | refine kkA ?_ _)); exact BK251.out) hb); have n11_ := Aside0.mk (zzT (by repeat (first | (with_reducible first | exact HB.out | apply zzA | apply zzN | apply zzD | refine below_set ?_ GE251.out) | exact HB.out)) hb); clear HO3_0; clear HO255; clear HO264; clear HO268; clear HO277; clear HO279; clear HO284; clear HO286; clear HO294; clear BK251; clear HB; have HO3_0 := n0_; have HO255 := n1_; have HO264 := n2_; have HO268 := n3_; have HO277 := n4_; have HO279 := n5_; have HO284 := n6_; have HO286 := n7_; have HO294 := n8_; have HO298 := n9_; have BK251 := n10_; have HB := n11_; clear n0_ n1_ n2_ n3_ n4_ n5_ n6_ n7_ n8_ n9_ n10_ n11_; (try clear hb); (try clear hb2); (try clear hk); (try clear hi); (try clear ho0); obtain ⟨Ao64, co64, eo64⟩ := Kd.R_slice HO264.out; subst eo64; obtain ⟨Ao65, co65, eo65⟩ := Kd.R_slice HO268.out; subst eo65; obtain ⟨Ao66, co66, eo66⟩ := Kd.N_slice HO277.out; subst eo66; obtain ⟨Ao67, co67, eo67⟩ := Kd.N_slice HO284.out; subst eo67; obtain ⟨Ao68, co68, eo68⟩ := Kd.R_slice HO279.out; subst eo68; obtain ⟨Ao69, co69, eo69⟩ := Kd.R_slice HO286.out; subst eo69; obtain ⟨Ao70, co70, eo70⟩ := Kd.R_slice HO294.out; subst eo70; obtain ⟨Ao71, co71, eo71⟩ := Kd.R_slice HO298.out; subst eo71))
                 have n0_ := Aside0.mk (Kd.V_drew HO3_0.out)
                 have n1_ := Aside0.mk (Kd.N_drew HO255.out)
                 have n2_ := Aside0.mk (rrD HO264.out)
                 have n3_ := Aside0.mk (rrD HO268.out)
                 have n4_ := Aside0.mk (Kd.N_drew HO277.out)
                 have n5_ := Aside0.mk (rrD HO279.out)
                 have n6_ := Aside0.mk (Kd.N_drew HO284.out)
                 have n7_ := Aside0.mk (rrD HO286.out)
                 have n8_ := Aside0.mk (rrD HO294.out)
                 have n9_ := Aside0.mk (rrD HO298.out)
                 have n10_ := Aside0.mk (kkD BK251.out)
                 have n11_ := Aside0.mk (zzD HB.out)
                 clear HO3_0
                 clear HO255
                 clear HO264
                 clear HO268
                 clear HO277
                 clear HO279
                 clear HO284
                 clear HO286
                 clear HO294
                 clear HO298
                 clear BK251
                 clear HB
                 have HO3_0 := n0_
                 have HO255 := n1_
                 have HO264 := n2_
                 have HO268 := n3_
                 have HO277 := n4_
                 have HO279 := n5_
                 have HO284 := n6_
                 have HO286 := n7_
                 have HO294 := n8_
                 have HO298 := n9_
                 have BK251 := n10_
                 have HB := n11_
                 clear n0_ n1_ n2_ n3_ n4_ n5_ n6_ n7_ n8_ n9_ n10_ n11_
                 refine start_ (n := 82) (S := fun w' => w'.cell? ⟨gb251, 0, none⟩ = some (.slice A3_0 l3_0.length c3_0) ∧ w'.cell? ⟨gb251, 1, none⟩ = some (.int .i64 a3_1)) (ds := []) #[false, false, false, false, false, false, false, false, false, false, false, false, false, false, false, false, false, false, false, false, false, false, false, false, false, false, false, false, false, false, false, false, false, false, false, false, false, false, false, false, false, false, false, false, false, false, false, false, false, false, false, false, false, false, false, false, false, false, false, false, false, false, false, false, false, false, false, false, false, false, false, false, false, false, false, false, false, false, false, false, false, false] (by kernel_rfl) rfl rfl ⟨(blk_cell BK251.out 0).trans rfl, (blk_cell BK251.out 1).trans rfl⟩ (fun hHeld => ?_); refine with_tabW thrumlaw16_MlpTells.tab18 thrumlaw16_MlpTells.bits18 (fun HT_ HW_ => ?_)
                 generalize w63.drew = w72 at HO3_0 HO255 HO264 HO268 HO277 HO279 HO284 HO286 HO294 HO298 BK251 HB hHeld ⊢
                 refine pure_ (i := 0) (N := some 135) (v := ?_) (a' := ?_) #[true, false, false, false, false, false, false, false, false, false, false, false, false, false, false, false, false, false, false, false, false, false, false, false, false, false, false, false, false, false, false, false, false, false, false, false, false, false, false, false, false, false, false, false, false, false, false, false, false, false, false, false, false, false, false, false, false, false, false, false, false, false, false, false, false, false, false, false, false, false, false, false, false, false, false, false, false, false, false, false, false, false] rfl rfl (any_of HT_.out (by kernel_rfl)) (fun _ _ _ h => h) (Or.inl ⟨by rfl, ?_⟩) ?_ ?_
                 rotate_left
                 ·
                  intro w'
                  go_simp
                  with_reducible rfl
                 rotate_left
                 ·
                  simp only [Act.put, List.setIfInBounds_toArray, List.set_cons_zero, List.set_cons_succ, i64_w, i32_w]
                  rfl
                 refine pure_ (i := 1) (N := some 136) (v := ?_) (a' := ?_) #[true, true, false, false, false, false, false, false, false, false, false, false, false, false, false, false, false, false, false, false, false, false, false, false, false, false, false, false, false, false, false, false, false, false, false, false, false, false, false, false, false, false, false, false, false, false, false, false, false, false, false, false, false, false, false, false, false, false, false, false, false, false, false, false, false, false, false, false, false, false, false, false, false, false, false, false, false, false, false, false, false, false] rfl rfl (any_of HT_.out (by kernel_rfl)) (fun _ _ _ h => h) (Or.inl ⟨by rfl, ?_⟩) ?_ ?_
                 rotate_left
                 ·
                  intro w'
                  go_simp
                  with_reducible rfl
                 rotate_left
                 ·
                  simp only [Act.put, List.setIfInBounds_toArray, List.set_cons_zero, List.set_cons_succ, i64_w, i32_w]
                  rfl
                 refine pure_ (i := 2) (N := some 137) (v := ?_) (a' := ?_) #[true, true, true, false, false, false, false, false, false, false, false, false, false, false, false, false, false, false, false, false, false, false, false, false, false, false, false, false, false, false, false, false, false, false, false, false, false, false, false, false, false, false, false, false, false, false, false, false, false, false, false, false, false, false, false, false, false, false, false, false, false, false, false, false, false, false, false, false, false, false, false, false, false, false, false, false, false, false, false, false, false, false] rfl rfl (any_of HT_.out (by kernel_rfl)) (fun _ _ _ h => h) (Or.inl ⟨by rfl, ?_⟩) ?_ ?_
                 rotate_left
                 ·
                  intro w'
                  go_simp
                  with_reducible rfl
                 rotate_left
                 ·
                  simp only [Act.put, List.setIfInBounds_toArray, List.set_cons_zero, List.set_cons_succ, i64_w, i32_w]
                  rfl
                 refine pure_ (i := 3) (N := some 138) (v := ?_) (a' := ?_) #[true, true, true, true, false, false, false, false, false, false, false, false, false, false, false, false, false, false, false, false, false, false, false, false, false, false, false, false, false, false, false, false, false, false, false, false, false, false, false, false, false, false, false, false, false, false, false, false, false, false, false, false, false, false, false, false, false, false, false, false, false, false, false, false, false, false, false, false, false, false, false, false, false, false, false, false, false, false, false, false, false, false] rfl rfl (any_of HT_.out (by kernel_rfl)) (fun _ _ _ h => h) (Or.inl ⟨by rfl, ?_⟩) ?_ ?_
                 rotate_left
                 ·
                  intro w'
                  go_simp
                  with_reducible rfl
                 rotate_left
                 ·
                  simp only [Act.put, List.setIfInBounds_toArray, List.set_cons_zero, List.set_cons_succ, i64_w, i32_w]
                  rfl
                 refine pure_ (i := 4) (N := some 139) (v := ?_) (a' := ?_) #[true, true, true, true, true, false, false, false, false, false, false, false, false, false, false, false, false, false, false, false, false, false, false, false, false, false, false, false, false, false, false, false, false, false, false, false, false, false, false, false, false, false, false, false, false, false, false, false, false, false, false, false, false, false, false, false, false, false, false, false, false, false, false, false, false, false, false, false, false, false, false, false, false, false, false, false, false, false, false, false, false, false] rfl rfl (any_of HT_.out (by kernel_rfl)) (fun _ _ _ h => h) (Or.inl ⟨by rfl, ?_⟩) ?_ ?_
                 rotate_left
                 ·
                  intro w'
                  go_simp
                  with_reducible rfl
                 rotate_left
                 ·
                  simp only [Act.put, List.setIfInBounds_toArray, List.set_cons_zero, List.set_cons_succ, i64_w, i32_w]
                  rfl
                 refine pure_ (i := 5) (N := some 140) (v := ?_) (a' := ?_) #[true, true, true, true, true, true, false, false, false, false, false, false, false, false, false, false, false, false, false, false, false, false, false, false, false, false, false, false, false, false, false, false, false, false, false, false, false, false, false, false, false, false, false, false, false, false, false, false, false, false, false, false, false, false, false, false, false, false, false, false, false, false, false, false, false, false, false, false, false, false, false, false, false, false, false, false, false, false, false, false, false, false] rfl rfl (any_of HT_.out (by kernel_rfl)) (fun _ _ _ h => h) (Or.inl ⟨by rfl, ?_⟩) ?_ ?_
                 rotate_left
                 ·
                  intro w'
                  go_simp
                  with_reducible rfl
                 rotate_left
                 ·
                  simp only [Act.put, List.setIfInBounds_toArray, List.set_cons_zero, List.set_cons_succ, i64_w, i32_w]
                  rfl
                 refine pure_ (i := 6) (N := some 141) (v := ?_) (a' := ?_) #[true, true, true, true, true, true, true, false, false, false, false, false, false, false, false, false, false, false, false, false, false, false, false, false, false, false, false, false, false, false, false, false, false, false, false, false, false, false, false, false, false, false, false, false, false, false, false, false, false, false, false, false, false, false, false, false, false, false, false, false, false, false, false, false, false, false, false, false, false, false, false, false, false, false, false, false, false, false, false, false, false, false] rfl rfl (any_of HT_.out (by kernel_rfl)) (fun _ _ _ h => h) (Or.inl ⟨by rfl, ?_⟩) ?_ ?_
                 rotate_left
                 ·
                  intro w'
                  go_simp
                  with_reducible rfl
                 rotate_left
                 ·
                  simp only [Act.put, List.setIfInBounds_toArray, List.set_cons_zero, List.set_cons_succ, i64_w, i32_w]
                  rfl
                 refine pure_ (i := 7) (N := some 142) (v := ?_) (a' := ?_) #[true, true, true, true, true, true, true, true, false, false, false, false, false, false, false, false, false, false, false, false, false, false, false, false, false, false, false, false, false, false, false, false, false, false, false, false, false, false, false, false, false, false, false, false, false, false, false, false, false, false, false, false, false, false, false, false, false, false, false, false, false, false, false, false, false, false, false, false, false, false, false, false, false, false, false, false, false, false, false, false, false, false] rfl rfl (any_of HT_.out (by kernel_rfl)) (fun _ _ _ h => h) (Or.inl ⟨by rfl, ?_⟩) ?_ ?_
                 rotate_left
                 ·
                  intro w'
                  go_simp
                  with_reducible rfl
                 rotate_left
                 ·
                  simp only [Act.put, List.setIfInBounds_toArray, List.set_cons_zero, List.set_cons_succ, i64_w, i32_w]
                  rfl
                 refine pure_ (i := 8) (N := some 143) (v := ?_) (a' := ?_) #[true, true, true, true, true, true, true, true, true, false, false, false, false, false, false, false, false, false, false, false, false, false, false, false, false, false, false, false, false, false, false, false, false, false, false, false, false, false, false, false, false, false, false, false, false, false, false, false, false, false, false, false, false, false, false, false, false, false, false, false, false, false, false, false, false, false, false, false, false, false, false, false, false, false, false, false, false, false, false, false, false, false] rfl rfl (any_of HT_.out (by kernel_rfl)) (fun _ _ _ h => h) (Or.inl ⟨by rfl, ?_⟩) ?_ ?_
                 rotate_left
                 ·
                  intro w'
                  go_simp
                  with_reducible rfl
                 rotate_left
                 ·
                  simp only [Act.put, List.setIfInBounds_toArray, List.set_cons_zero, List.set_cons_succ, i64_w, i32_w]
                  rfl
                 refine pure_ (i := 9) (N := some 144) (v := ?_) (a' := ?_) #[true, true, true, true, true, true, true, true, true, true, false, false, false, false, false, false, false, false, false, false, false, false, false, false, false, false, false, false, false, false, false, false, false, false, false, false, false, false, false, false, false, false, false, false, false, false, false, false, false, false, false, false, false, false, false, false, false, false, false, false, false, false, false, false, false, false, false, false, false, false, false, false, false, false, false, false, false, false, false, false, false, false] rfl rfl (any_of HT_.out (by kernel_rfl)) (fun _ _ _ h => h) (Or.inl ⟨by rfl, ?_⟩) ?_ ?_
                 rotate_left
                 ·
                  intro w'
                  go_simp
                  with_reducible rfl
                 rotate_left
                 ·
                  simp only [Act.put, List.setIfInBounds_toArray, List.set_cons_zero, List.set_cons_succ, i64_w, i32_w]
                  rfl
                 refine pure_ (i := 10) (N := some 145) (v := ?_) (a' := ?_) #[true, true, true, true, true, true, true, true, true, true, true, false, false, false, false, false, false, false, false, false, false, false, false, false, false, false, false, false, false, false, false, false, false, false, false, false, false, false, false, false, false, false, false, false, false, false, false, false, false, false, false, false, false, false, false, false, false, false, false, false, false, false, false, false, false, false, false, false, false, false, false, false, false, false, false, false, false, false, false, false, false, false] rfl rfl (any_of HT_.out (by kernel_rfl)) (fun _ _ _ h => h) (Or.inl ⟨by rfl, ?_⟩) ?_ ?_
                 rotate_left
                 ·
                  intro w'
                  go_simp
                  with_reducible rfl
                 rotate_left
                 ·
                  simp only [Act.put, List.setIfInBounds_toArray, List.set_cons_zero, List.set_cons_succ, i64_w, i32_w]
                  rfl
                 refine pure_ (i := 11) (N := some 146) (v := ?_) (a' := ?_) #[true, true, true, true, true, true, true, true, true, true, true, true, false, false, false, false, false, false, false, false, false, false, false, false, false, false, false, false, false, false, false, false, false, false, false, false, false, false, false, false, false, false, false, false, false, false, false, false, false, false, false, false, false, false, false, false, false, false, false, false, false, false, false, false, false, false, false, false, false, false, false, false, false, false, false, false, false, false, false, false, false, false] rfl rfl (any_of HT_.out (by kernel_rfl)) (fun _ _ _ h => h) (Or.inl ⟨by rfl, ?_⟩) ?_ ?_
                 rotate_left
                 ·
                  intro w'
                  go_simp
                  with_reducible rfl
                 rotate_left
                 ·
                  simp only [Act.put, List.setIfInBounds_toArray, List.set_cons_zero, List.set_cons_succ, i64_w, i32_w]
                  rfl
                 refine pure_ (i := 12) (N := some 147) (v := ?_) (a' := ?_) #[true, true, true, true, true, true, true, true, true, true, true, true, true, false, false, false, false, false, false, false, false, false, false, false, false, false, false, false, false, false, false, false, false, false, false, false, false, false, false, false, false, false, false, false, false, false, false, false, false, false, false, false, false, false, false, false, false, false, false, false, false, false, false, false, false, false, false, false, false, false, false, false, false, false, false, false, false, false, false, false, false, false] rfl rfl (any_of HT_.out (by kernel_rfl)) (fun _ _ _ h => h) (Or.inl ⟨by rfl, ?_⟩) ?_ ?_
                 rotate_left
                 ·
                  intro w'
                  go_simp
                  with_reducible rfl
                 rotate_left
                 ·
                  simp only [Act.put, List.setIfInBounds_toArray, List.set_cons_zero, List.set_cons_succ, i64_w, i32_w]
                  rfl
                 refine pure_ (i := 13) (N := some 148) (v := ?_) (a' := ?_) #[true, true, true, true, true, true, true, true, true, true, true, true, true, true, false, false, false, false, false, false, false, false, false, false, false, false, false, false, false, false, false, false, false, false, false, false, false, false, false, false, false, false, false, false, false, false, false, false, false, false, false, false, false, false, false, false, false, false, false, false, false, false, false, false, false, false, false, false, false, false, false, false, false, false, false, false, false, false, false, false, false, false] rfl rfl (any_of HT_.out (by kernel_rfl)) (fun _ _ _ h => h) (Or.inl ⟨by rfl, ?_⟩) ?_ ?_
                 rotate_left
                 ·
                  intro w'
                  go_simp
                  with_reducible rfl
                 rotate_left
                 ·
                  simp only [Act.put, List.setIfInBounds_toArray, List.set_cons_zero, List.set_cons_succ, i64_w, i32_w]
                  rfl
                 refine one_ (i := 14) (N := some 149) #[true, true, true, true, true, true, true, true, true, true, true, true, true, true, true, false, false, false, false, false, false, false, false, false, false, false, false, false, false, false, false, false, false, false, false, false, false, false, false, false, false, false, false, false, false, false, false, false, false, false, false, false, false, false, false, false, false, false, false, false, false, false, false, false, false, false, false, false, false, false, false, false, false, false, false, false, false, false, false, false, false, false] rfl rfl (one_of HT_.out (by kernel_rfl)) (by decide) (fun K hK => ?_)
                 refine goes_ Try.func23 (by kernel_rfl) rfl #[.slice Ao64 t261.length co64, .slice Ao65 t265.length co65] (by rfl) rfl rfl (by (try simp only [List.map_toArray, List.map_cons, List.map_nil]); first | done | rfl | (simp only [List.length_drop, List.length_take]; rfl)) ?_
                 with_reducible refine (thrumref02_Same.calls _ _ t261 _ _ t265 true _ ?side1 ?side2 ?side3 ?side4 A24.out).mono ?_
                 (case side1 => repeat (first | exact (Kd.R_reads' HO264.out).2.2 | (with_reducible refine ccA ?_ _) | (with_reducible refine ccN ?_ _) | (with_reducible refine ccD ?_)))
                 (case side2 => exact (Kd.R_reads' HO264.out).2.1)
                 (case side3 => repeat (first | exact (Kd.R_reads' HO268.out).2.2 | (with_reducible refine ccA ?_ _) | (with_reducible refine ccN ?_ _) | (with_reducible refine ccD ?_)))
                 (case side4 => exact (Kd.R_reads' HO268.out).2.1)
                 rintro e w' ⟨rfl, ⟨nd, rfl⟩⟩
                 refine ⟨_, rfl, ?_⟩
                 refine hK.out _ _ ⟨(blk_cell BK251.out 0).trans rfl, (blk_cell BK251.out 1).trans rfl⟩ (fun hHeld => ?_)
                 clear hK K
                 refine norm_ (a' := ?_) ?_ ?_
                 rotate_left
                 ·
                  show Act.put _ (some 149) _ = _
                  simp only [Act.put, List.setIfInBounds_toArray, List.set_cons_zero, List.set_cons_succ, i64_w, i32_w]
                  rfl
                 refine pure_ (i := 15) (N := some 150) (v := ?_) (a' := ?_) #[true, true, true, true, true, true, true, true, true, true, true, true, true, true, true, true, false, false, false, false, false, false, false, false, false, false, false, false, false, false, false, false, false, false, false, false, false, false, false, false, false, false, false, false, false, false, false, false, false, false, false, false, false, false, false, false, false, false, false, false, false, false, false, false, false, false, false, false, false, false, false, false, false, false, false, false, false, false, false, false, false, false] rfl rfl (any_of HT_.out (by kernel_rfl)) (fun _ _ _ h => h) (Or.inl ⟨by rfl, ?_⟩) ?_ ?_
                 rotate_left
                 ·
                  intro w'
                  go_simp
                  with_reducible rfl
                 rotate_left
                 ·
                  simp only [Act.put, List.setIfInBounds_toArray, List.set_cons_zero, List.set_cons_succ, i64_w, i32_w]
                  rfl
                 refine pure_ (i := 16) (N := some 151) (v := ?_) (a' := ?_) #[true, true, true, true, true, true, true, true, true, true, true, true, true, true, true, true, true, false, false, false, false, false, false, false, false, false, false, false, false, false, false, false, false, false, false, false, false, false, false, false, false, false, false, false, false, false, false, false, false, false, false, false, false, false, false, false, false, false, false, false, false, false, false, false, false, false, false, false, false, false, false, false, false, false, false, false, false, false, false, false, false, false] rfl rfl (any_of HT_.out (by kernel_rfl)) (fun _ _ _ h => h) (Or.inl ⟨by rfl, ?_⟩) ?_ ?_
                 rotate_left
                 ·
                  intro w'
                  go_simp
                  with_reducible rfl
                 rotate_left
                 ·
                  simp only [Act.put, List.setIfInBounds_toArray, List.set_cons_zero, List.set_cons_succ, i64_w, i32_w]
                  rfl
                 refine pure_ (i := 17) (N := some 152) (v := ?_) (a' := ?_) #[true, true, true, true, true, true, true, true, true, true, true, true, true, true, true, true, true, true, false, false, false, false, false, false, false, false, false, false, false, false, false, false, false, false, false, false, false, false, false, false, false, false, false, false, false, false, false, false, false, false, false, false, false, false, false, false, false, false, false, false, false, false, false, false, false, false, false, false, false, false, false, false, false, false, false, false, false, false, false, false, false, false] rfl rfl (any_of HT_.out (by kernel_rfl)) (fun _ _ _ h => h) (Or.inl ⟨by rfl, ?_⟩) ?_ ?_
                 rotate_left
                 ·
                  intro w'
                  go_simp
                  with_reducible rfl
                 rotate_left
                 ·
                  simp only [Act.put, List.setIfInBounds_toArray, List.set_cons_zero, List.set_cons_succ, i64_w, i32_w]
                  rfl
                 refine pure_ (i := 18) (N := some 153) (v := ?_) (a' := ?_) #[true, true, true, true, true, true, true, true, true, true, true, true, true, true, true, true, true, true, true, false, false, false, false, false, false, false, false, false, false, false, false, false, false, false, false, false, false, false, false, false, false, false, false, false, false, false, false, false, false, false, false, false, false, false, false, false, false, false, false, false, false, false, false, false, false, false, false, false, false, false, false, false, false, false, false, false, false, false, false, false, false, false] rfl rfl (any_of HT_.out (by kernel_rfl)) (fun _ _ _ h => h) (Or.inl ⟨by rfl, ?_⟩) ?_ ?_
                 rotate_left
                 ·
                  intro w'
                  go_simp
                  with_reducible rfl
                 rotate_left
                 ·
                  simp only [Act.put, List.setIfInBounds_toArray, List.set_cons_zero, List.set_cons_succ, i64_w, i32_w]
                  rfl
                 refine pure_ (i := 19) (N := some 154) (v := ?_) (a' := ?_) #[true, true, true, true, true, true, true, true, true, true, true, true, true, true, true, true, true, true, true, true, false, false, false, false, false, false, false, false, false, false, false, false, false, false, false, false, false, false, false, false, false, false, false, false, false, false, false, false, false, false, false, false, false, false, false, false, false, false, false, false, false, false, false, false, false, false, false, false, false, false, false, false, false, false, false, false, false, false, false, false, false, false] rfl rfl (any_of HT_.out (by kernel_rfl)) (fun _ _ _ h => h) (Or.inl ⟨by rfl, ?_⟩) ?_ ?_
                 rotate_left
                 ·
                  intro w'
                  go_simp
                  with_reducible rfl
                 rotate_left
                 ·
                  simp only [Act.put, List.setIfInBounds_toArray, List.set_cons_zero, List.set_cons_succ, i64_w, i32_w]
                  rfl
                 refine pure_ (i := 20) (N := some 155) (v := ?_) (a' := ?_) #[true, true, true, true, true, true, true, true, true, true, true, true, true, true, true, true, true, true, true, true, true, false, false, false, false, false, false, false, false, false, false, false, false, false, false, false, false, false, false, false, false, false, false, false, false, false, false, false, false, false, false, false, false, false, false, false, false, false, false, false, false, false, false, false, false, false, false, false, false, false, false, false, false, false, false, false, false, false, false, false, false, false] rfl rfl (any_of HT_.out (by kernel_rfl)) (fun _ _ _ h => h) (Or.inl ⟨by rfl, ?_⟩) ?_ ?_
                 rotate_left
                 ·
                  intro w'
                  go_simp
                  with_reducible rfl
                 rotate_left
                 ·
                  simp only [Act.put, List.setIfInBounds_toArray, List.set_cons_zero, List.set_cons_succ, i64_w, i32_w]
                  rfl
                 refine pure_ (i := 21) (N := some 156) (v := ?_) (a' := ?_) #[true, true, true, true, true, true, true, true, true, true, true, true, true, true, true, true, true, true, true, true, true, true, false, false, false, false, false, false, false, false, false, false, false, false, false, false, false, false, false, false, false, false, false, false, false, false, false, false, false, false, false, false, false, false, false, false, false, false, false, false, false, false, false, false, false, false, false, false, false, false, false, false, false, false, false, false, false, false, false, false, false, false] rfl rfl (any_of HT_.out (by kernel_rfl)) (fun _ _ _ h => h) (Or.inl ⟨by rfl, ?_⟩) ?_ ?_
                 rotate_left
                 ·
                  intro w'
                  go_simp
                  with_reducible rfl
                 rotate_left
                 ·
                  simp only [Act.put, List.setIfInBounds_toArray, List.set_cons_zero, List.set_cons_succ, i64_w, i32_w]
                  rfl
                 refine pure_ (i := 22) (N := some 157) (v := ?_) (a' := ?_) #[true, true, true, true, true, true, true, true, true, true, true, true, true, true, true, true, true, true, true, true, true, true, true, false, false, false, false, false, false, false, false, false, false, false, false, false, false, false, false, false, false, false, false, false, false, false, false, false, false, false, false, false, false, false, false, false, false, false, false, false, false, false, false, false, false, false, false, false, false, false, false, false, false, false, false, false, false, false, false, false, false, false] rfl rfl (any_of HT_.out (by kernel_rfl)) (fun _ _ _ h => h) (Or.inl ⟨by rfl, ?_⟩) ?_ ?_
                 rotate_left
                 ·
                  intro w'
                  go_simp
                  with_reducible rfl
                 rotate_left
                 ·
                  simp only [Act.put, List.setIfInBounds_toArray, List.set_cons_zero, List.set_cons_succ, i64_w, i32_w]
                  rfl
                 refine pure_ (i := 23) (N := some 158) (v := ?_) (a' := ?_) #[true, true, true, true, true, true, true, true, true, true, true, true, true, true, true, true, true, true, true, true, true, true, true, true, false, false, false, false, false, false, false, false, false, false, false, false, false, false, false, false, false, false, false, false, false, false, false, false, false, false, false, false, false, false, false, false, false, false, false, false, false, false, false, false, false, false, false, false, false, false, false, false, false, false, false, false, false, false, false, false, false, false] rfl rfl (any_of HT_.out (by kernel_rfl)) (fun _ _ _ h => h) (Or.inl ⟨by rfl, ?_⟩) ?_ ?_
                 rotate_left
                 ·
                  intro w'
                  go_simp
                  with_reducible rfl
                 rotate_left
                 ·
                  simp only [Act.put, List.setIfInBounds_toArray, List.set_cons_zero, List.set_cons_succ, i64_w, i32_w]
                  rfl
                 refine pure_ (i := 24) (N := some 159) (v := ?_) (a' := ?_) #[true, true, true, true, true, true, true, true, true, true, true, true, true, true, true, true, true, true, true, true, true, true, true, true, true, false, false, false, false, false, false, false, false, false, false, false, false, false, false, false, false, false, false, false, false, false, false, false, false, false, false, false, false, false, false, false, false, false, false, false, false, false, false, false, false, false, false, false, false, false, false, false, false, false, false, false, false, false, false, false, false, false] rfl rfl (any_of HT_.out (by kernel_rfl)) (fun _ _ _ h => h) (Or.inl ⟨by rfl, ?_⟩) ?_ ?_
                 rotate_left
                 ·
                  intro w'
                  go_simp
                  with_reducible rfl
                 rotate_left
                 ·
                  simp only [Act.put, List.setIfInBounds_toArray, List.set_cons_zero, List.set_cons_succ, i64_w, i32_w]
                  rfl
                 refine pure_ (i := 25) (N := some 160) (v := ?_) (a' := ?_) #[true, true, true, true, true, true, true, true, true, true, true, true, true, true, true, true, true, true, true, true, true, true, true, true, true, true, false, false, false, false, false, false, false, false, false, false, false, false, false, false, false, false, false, false, false, false, false, false, false, false, false, false, false, false, false, false, false, false, false, false, false, false, false, false, false, false, false, false, false, false, false, false, false, false, false, false, false, false, false, false, false, false] rfl rfl (any_of HT_.out (by kernel_rfl)) (fun _ _ _ h => h) (Or.inl ⟨by rfl, ?_⟩) ?_ ?_
                 rotate_left
                 ·
                  intro w'
                  go_simp
                  with_reducible rfl
                 rotate_left
                 ·
                  simp only [Act.put, List.setIfInBounds_toArray, List.set_cons_zero, List.set_cons_succ, i64_w, i32_w]
                  rfl
                 refine pure_ (i := 26) (N := some 161) (v := ?_) (a' := ?_) #[true, true, true, true, true, true, true, true, true, true, true, true, true, true, true, true, true, true, true, true, true, true, true, true, true, true, true, false, false, false, false, false, false, false, false, false, false, false, false, false, false, false, false, false, false, false, false, false, false, false, false, false, false, false, false, false, false, false, false, false, false, false, false, false, false, false, false, false, false, false, false, false, false, false, false, false, false, false, false, false, false, false] rfl rfl (any_of HT_.out (by kernel_rfl)) (fun _ _ _ h => h) (Or.inl ⟨by rfl, ?_⟩) ?_ ?_
                 rotate_left
                 ·
                  intro w'
                  go_simp
                  with_reducible rfl
                 rotate_left
                 ·
                  simp only [Act.put, List.setIfInBounds_toArray, List.set_cons_zero, List.set_cons_succ, i64_w, i32_w]
                  rfl
                 refine pure_ (i := 27) (N := some 162) (v := ?_) (a' := ?_) #[true, true, true, true, true, true, true, true, true, true, true, true, true, true, true, true, true, true, true, true, true, true, true, true, true, true, true, true, false, false, false, false, false, false, false, false, false, false, false, false, false, false, false, false, false, false, false, false, false, false, false, false, false, false, false, false, false, false, false, false, false, false, false, false, false, false, false, false, false, false, false, false, false, false, false, false, false, false, false, false, false, false] rfl rfl (any_of HT_.out (by kernel_rfl)) (fun _ _ _ h => h) (Or.inl ⟨by rfl, ?_⟩) ?_ ?_
                 rotate_left
                 ·
                  intro w'
                  go_simp
                  with_reducible rfl
                 rotate_left
                 ·
                  simp only [Act.put, List.setIfInBounds_toArray, List.set_cons_zero, List.set_cons_succ, i64_w, i32_w]
                  rfl
                 refine pure_ (i := 28) (N := some 163) (v := ?_) (a' := ?_) #[true, true, true, true, true, true, true, true, true, true, true, true, true, true, true, true, true, true, true, true, true, true, true, true, true, true, true, true, true, false, false, false, false, false, false, false, false, false, false, false, false, false, false, false, false, false, false, false, false, false, false, false, false, false, false, false, false, false, false, false, false, false, false, false, false, false, false, false, false, false, false, false, false, false, false, false, false, false, false, false, false, false] rfl rfl (any_of HT_.out (by kernel_rfl)) (fun _ _ _ h => h) (Or.inl ⟨by rfl, ?_⟩) ?_ ?_
                 rotate_left
                 ·
                  intro w'
                  go_simp
                  with_reducible rfl
                 rotate_left
                 ·
                  simp only [Act.put, List.setIfInBounds_toArray, List.set_cons_zero, List.set_cons_succ, i64_w, i32_w]
                  rfl
                 refine pure_ (i := 29) (N := some 164) (v := ?_) (a' := ?_) #[true, true, true, true, true, true, true, true, true, true, true, true, true, true, true, true, true, true, true, true, true, true, true, true, true, true, true, true, true, true, false, false, false, false, false, false, false, false, false, false, false, false, false, false, false, false, false, false, false, false, false, false, false, false, false, false, false, false, false, false, false, false, false, false, false, false, false, false, false, false, false, false, false, false, false, false, false, false, false, false, false, false] rfl rfl (any_of HT_.out (by kernel_rfl)) (fun _ _ _ h => h) (Or.inl ⟨by rfl, ?_⟩) ?_ ?_
                 rotate_left
                 ·
                  intro w'
                  go_simp
                  with_reducible rfl
                 rotate_left
                 ·
                  simp only [Act.put, List.setIfInBounds_toArray, List.set_cons_zero, List.set_cons_succ, i64_w, i32_w]
                  rfl
                 refine pure_ (i := 30) (N := some 165) (v := ?_) (a' := ?_) #[true, true, true, true, true, true, true, true, true, true, true, true, true, true, true, true, true, true, true, true, true, true, true, true, true, true, true, true, true, true, true, false, false, false, false, false, false, false, false, false, false, false, false, false, false, false, false, false, false, false, false, false, false, false, false, false, false, false, false, false, false, false, false, false, false, false, false, false, false, false, false, false, false, false, false, false, false, false, false, false, false, false] rfl rfl (any_of HT_.out (by kernel_rfl)) (fun _ _ _ h => h) (Or.inl ⟨by rfl, ?_⟩) ?_ ?_
                 rotate_left
                 ·
                  intro w'
                  go_simp
                  with_reducible rfl
                 rotate_left
                 ·
                  simp only [Act.put, List.setIfInBounds_toArray, List.set_cons_zero, List.set_cons_succ, i64_w, i32_w]
                  rfl
                 refine pure_ (i := 31) (N := some 166) (v := ?_) (a' := ?_) #[true, true, true, true, true, true, true, true, true, true, true, true, true, true, true, true, true, true, true, true, true, true, true, true, true, true, true, true, true, true, true, true, false, false, false, false, false, false, false, false, false, false, false, false, false, false, false, false, false, false, false, false, false, false, false, false, false, false, false, false, false, false, false, false, false, false, false, false, false, false, false, false, false, false, false, false, false, false, false, false, false, false] rfl rfl (any_of HT_.out (by kernel_rfl)) (fun _ _ _ h => h) (Or.inl ⟨by rfl, ?_⟩) ?_ ?_
                 rotate_left
                 ·
                  intro w'
                  go_simp
                  with_reducible rfl
                 rotate_left
                 ·
                  simp only [Act.put, List.setIfInBounds_toArray, List.set_cons_zero, List.set_cons_succ, i64_w, i32_w]
                  rfl
                 refine pure_ (i := 32) (N := some 167) (v := ?_) (a' := ?_) #[true, true, true, true, true, true, true, true, true, true, true, true, true, true, true, true, true, true, true, true, true, true, true, true, true, true, true, true, true, true, true, true, true, false, false, false, false, false, false, false, false, false, false, false, false, false, false, false, false, false, false, false, false, false, false, false, false, false, false, false, false, false, false, false, false, false, false, false, false, false, false, false, false, false, false, false, false, false, false, false, false, false] rfl rfl (any_of HT_.out (by kernel_rfl)) (fun _ _ _ h => h) (Or.inl ⟨by rfl, ?_⟩) ?_ ?_
                 rotate_left
                 ·
                  intro w'
                  go_simp
                  with_reducible rfl
                 rotate_left
                 ·
                  simp only [Act.put, List.setIfInBounds_toArray, List.set_cons_zero, List.set_cons_succ, i64_w, i32_w]
                  rfl
                 refine pure_ (i := 33) (N := some 168) (v := ?_) (a' := ?_) #[true, true, true, true, true, true, true, true, true, true, true, true, true, true, true, true, true, true, true, true, true, true, true, true, true, true, true, true, true, true, true, true, true, true, false, false, false, false, false, false, false, false, false, false, false, false, false, false, false, false, false, false, false, false, false, false, false, false, false, false, false, false, false, false, false, false, false, false, false, false, false, false, false, false, false, false, false, false, false, false, false, false] rfl rfl (any_of HT_.out (by kernel_rfl)) (fun _ _ _ h => h) (Or.inl ⟨by rfl, ?_⟩) ?_ ?_
                 rotate_left
                 ·
                  intro w'
                  go_simp
                  with_reducible rfl
                 rotate_left
                 ·
                  simp only [Act.put, List.setIfInBounds_toArray, List.set_cons_zero, List.set_cons_succ, i64_w, i32_w]
                  rfl
                 refine one_ (i := 34) (N := some 169) #[true, true, true, true, true, true, true, true, true, true, true, true, true, true, true, true, true, true, true, true, true, true, true, true, true, true, true, true, true, true, true, true, true, true, true, false, false, false, false, false, false, false, false, false, false, false, false, false, false, false, false, false, false, false, false, false, false, false, false, false, false, false, false, false, false, false, false, false, false, false, false, false, false, false, false, false, false, false, false, false, false, false] rfl rfl (one_of HT_.out (by kernel_rfl)) (by decide) (fun K hK => ?_)
                 refine goes_ Try.func24 (by kernel_rfl) rfl #[.slice Ao66 t273.length co66, .slice Ao67 t280.length co67] (by rfl) rfl rfl (by (try simp only [List.map_toArray, List.map_cons, List.map_nil]); first | done | rfl | (simp only [List.length_drop, List.length_take]; rfl)) ?_
                 with_reducible refine (thrumref15_SameLists.calls _ _ t273 _ _ t280 true _ ?side1 ?side2 ?side3 ?side4 A29.out).mono ?_
                 (case side1 => repeat (first | exact (Kd.N_reads' HO277.out).2.2 | (with_reducible refine ccA ?_ _) | (with_reducible refine ccN ?_ _) | (with_reducible refine ccD ?_)))
                 (case side2 => exact (Kd.N_reads' HO277.out).2.1)
                 (case side3 => repeat (first | exact (Kd.N_reads' HO284.out).2.2 | (with_reducible refine ccA ?_ _) | (with_reducible refine ccN ?_ _) | (with_reducible refine ccD ?_)))
                 (case side4 => exact (Kd.N_reads' HO284.out).2.1)
                 rintro e w' ⟨rfl, ⟨nd, rfl⟩⟩
                 refine ⟨_, rfl, ?_⟩
                 refine hK.out _ _ ⟨(blk_cell BK251.out 0).trans rfl, (blk_cell BK251.out 1).trans rfl⟩ (fun hHeld => ?_)
                 clear hK K
                 refine norm_ (a' := ?_) ?_ ?_
                 rotate_left
                 ·
                  show Act.put _ (some 169) _ = _
                  simp only [Act.put, List.setIfInBounds_toArray, List.set_cons_zero, List.set_cons_succ, i64_w, i32_w]
                  rfl
                 refine pure_ (i := 35) (N := some 170) (v := ?_) (a' := ?_) #[true, true, true, true, true, true, true, true, true, true, true, true, true, true, true, true, true, true, true, true, true, true, true, true, true, true, true, true, true, true, true, true, true, true, true, true, false, false, false, false, false, false, false, false, false, false, false, false, false, false, false, false, false, false, false, false, false, false, false, false, false, false, false, false, false, false, false, false, false, false, false, false, false, false, false, false, false, false, false, false, false, false] rfl rfl (any_of HT_.out (by kernel_rfl)) (fun _ _ _ h => h) (Or.inl ⟨by rfl, ?_⟩) ?_ ?_
                 rotate_left
                 ·
                  intro w'
                  go_simp
                  with_reducible rfl
                 rotate_left
                 ·
                  simp only [Act.put, List.setIfInBounds_toArray, List.set_cons_zero, List.set_cons_succ, i64_w, i32_w]
                  rfl
                 refine pure_ (i := 36) (N := some 171) (v := ?_) (a' := ?_) #[true, true, true, true, true, true, true, true, true, true, true, true, true, true, true, true, true, true, true, true, true, true, true, true, true, true, true, true, true, true, true, true, true, true, true, true, true, false, false, false, false, false, false, false, false, false, false, false, false, false, false, false, false, false, false, false, false, false, false, false, false, false, false, false, false, false, false, false, false, false, false, false, false, false, false, false, false, false, false, false, false, false] rfl rfl (any_of HT_.out (by kernel_rfl)) (fun _ _ _ h => h) (Or.inl ⟨by rfl, ?_⟩) ?_ ?_
                 rotate_left
                 ·
                  intro w'
                  go_simp
                  with_reducible rfl
                 rotate_left
                 ·
                  simp only [Act.put, List.setIfInBounds_toArray, List.set_cons_zero, List.set_cons_succ, i64_w, i32_w]
                  rfl
                 refine pure_ (i := 37) (N := some 172) (v := ?_) (a' := ?_) #[true, true, true, true, true, true, true, true, true, true, true, true, true, true, true, true, true, true, true, true, true, true, true, true, true, true, true, true, true, true, true, true, true, true, true, true, true, true, false, false, false, false, false, false, false, false, false, false, false, false, false, false, false, false, false, false, false, false, false, false, false, false, false, false, false, false, false, false, false, false, false, false, false, false, false, false, false, false, false, false, false, false] rfl rfl (any_of HT_.out (by kernel_rfl)) (fun _ _ _ h => h) (Or.inl ⟨by rfl, ?_⟩) ?_ ?_
                 rotate_left
                 ·
                  intro w'
                  go_simp
                  with_reducible rfl
                 rotate_left
                 ·
                  simp only [Act.put, List.setIfInBounds_toArray, List.set_cons_zero, List.set_cons_succ, i64_w, i32_w]
                  rfl
                 refine pure_ (i := 38) (N := some 173) (v := ?_) (a' := ?_) #[true, true, true, true, true, true, true, true, true, true, true, true, true, true, true, true, true, true, true, true, true, true, true, true, true, true, true, true, true, true, true, true, true, true, true, true, true, true, true, false, false, false, false, false, false, false, false, false, false, false, false, false, false, false, false, false, false, false, false, false, false, false, false, false, false, false, false, false, false, false, false, false, false, false, false, false, false, false, false, false, false, false] rfl rfl (any_of HT_.out (by kernel_rfl)) (fun _ _ _ h => h) (Or.inl ⟨by rfl, ?_⟩) ?_ ?_
                 rotate_left
                 ·
                  intro w'
                  go_simp
                  with_reducible rfl
                 rotate_left
                 ·
                  simp only [Act.put, List.setIfInBounds_toArray, List.set_cons_zero, List.set_cons_succ, i64_w, i32_w]
                  rfl
                 refine one_ (i := 39) (N := some 174) #[true, true, true, true, true, true, true, true, true, true, true, true, true, true, true, true, true, true, true, true, true, true, true, true, true, true, true, true, true, true, true, true, true, true, true, true, true, true, true, true, false, false, false, false, false, false, false, false, false, false, false, false, false, false, false, false, false, false, false, false, false, false, false, false, false, false, false, false, false, false, false, false, false, false, false, false, false, false, false, false, false, false] rfl rfl (one_of HT_.out (by kernel_rfl)) (by decide) (fun K hK => ?_)
                 refine goes_ Try.func23 (by kernel_rfl) rfl #[.slice Ao68 t274.length co68, .slice Ao69 t281.length co69] (by rfl) rfl rfl (by (try simp only [List.map_toArray, List.map_cons, List.map_nil]); first | done | rfl | (simp only [List.length_drop, List.length_take]; rfl)) ?_
                 with_reducible refine (thrumref02_Same.calls _ _ t274 _ _ t281 true _ ?side1 ?side2 ?side3 ?side4 A31.out).mono ?_
                 (case side1 => repeat (first | exact (Kd.R_reads' HO279.out).2.2 | (with_reducible refine ccA ?_ _) | (with_reducible refine ccN ?_ _) | (with_reducible refine ccD ?_)))
                 (case side2 => exact (Kd.R_reads' HO279.out).2.1)
                 (case side3 => repeat (first | exact (Kd.R_reads' HO286.out).2.2 | (with_reducible refine ccA ?_ _) | (with_reducible refine ccN ?_ _) | (with_reducible refine ccD ?_)))
                 (case side4 => exact (Kd.R_reads' HO286.out).2.1)
                 rintro e w' ⟨rfl, ⟨nd, rfl⟩⟩
                 refine ⟨_, rfl, ?_⟩
                 refine hK.out _ _ ⟨(blk_cell BK251.out 0).trans rfl, (blk_cell BK251.out 1).trans rfl⟩ (fun hHeld => ?_)
                 clear hK K
                 refine norm_ (a' := ?_) ?_ ?_
                 rotate_left
                 ·
                  show Act.put _ (some 174) _ = _
                  simp only [Act.put, List.setIfInBounds_toArray, List.set_cons_zero, List.set_cons_succ, i64_w, i32_w]
                  rfl
                 refine pure_ (i := 40) (N := some 175) (v := ?_) (a' := ?_) #[true, true, true, true, true, true, true, true, true, true, true, true, true, true, true, true, true, true, true, true, true, true, true, true, true, true, true, true, true, true, true, true, true, true, true, true, true, true, true, true, true, false, false, false, false, false, false, false, false, false, false, false, false, false, false, false, false, false, false, false, false, false, false, false, false, false, false, false, false, false, false, false, false, false, false, false, false, false, false, false, false, false] rfl rfl (any_of HT_.out (by kernel_rfl)) (fun _ _ _ h => h) (Or.inl ⟨by rfl, ?_⟩) ?_ ?_
                 rotate_left
                 ·
                  intro w'
                  go_simp
                  with_reducible rfl
                 rotate_left
                 ·
                  simp only [Act.put, List.setIfInBounds_toArray, List.set_cons_zero, List.set_cons_succ, i64_w, i32_w]
                  rfl
                 refine pure_ (i := 41) (N := some 176) (v := ?_) (a' := ?_) #[true, true, true, true, true, true, true, true, true, true, true, true, true, true, true, true, true, true, true, true, true, true, true, true, true, true, true, true, true, true, true, true, true, true, true, true, true, true, true, true, true, true, false, false, false, false, false, false, false, false, false, false, false, false, false, false, false, false, false, false, false, false, false, false, false, false, false, false, false, false, false, false, false, false, false, false, false, false, false, false, false, false] rfl rfl (any_of HT_.out (by kernel_rfl)) (fun _ _ _ h => h) (Or.inl ⟨by rfl, ?_⟩) ?_ ?_
                 rotate_left
                 ·
                  intro w'
                  go_simp
                  with_reducible rfl
                 rotate_left
                 ·
                  simp only [Act.put, List.setIfInBounds_toArray, List.set_cons_zero, List.set_cons_succ, i64_w, i32_w]
                  rfl
                 refine pure_ (i := 42) (N := some 177) (v := ?_) (a' := ?_) #[true, true, true, true, true, true, true, true, true, true, true, true, true, true, true, true, true, true, true, true, true, true, true, true, true, true, true, true, true, true, true, true, true, true, true, true, true, true, true, true, true, true, true, false, false, false, false, false, false, false, false, false, false, false, false, false, false, false, false, false, false, false, false, false, false, false, false, false, false, false, false, false, false, false, false, false, false, false, false, false, false, false] rfl rfl (any_of HT_.out (by kernel_rfl)) (fun _ _ _ h => h) (Or.inl ⟨by rfl, ?_⟩) ?_ ?_
                 rotate_left
                 ·
                  intro w'
                  go_simp
                  with_reducible rfl
                 rotate_left
                 ·
                  simp only [Act.put, List.setIfInBounds_toArray, List.set_cons_zero, List.set_cons_succ, i64_w, i32_w]
                  rfl
                 refine pure_ (i := 43) (N := some 178) (v := ?_) (a' := ?_) #[true, true, true, true, true, true, true, true, true, true, true, true, true, true, true, true, true, true, true, true, true, true, true, true, true, true, true, true, true, true, true, true, true, true, true, true, true, true, true, true, true, true, true, true, false, false, false, false, false, false, false, false, false, false, false, false, false, false, false, false, false, false, false, false, false, false, false, false, false, false, false, false, false, false, false, false, false, false, false, false, false, false] rfl rfl (any_of HT_.out (by kernel_rfl)) (fun _ _ _ h => h) (Or.inl ⟨by rfl, ?_⟩) ?_ ?_
                 rotate_left
                 ·
                  intro w'
                  go_simp
                  with_reducible rfl
                 rotate_left
                 ·
                  simp only [Act.put, List.setIfInBounds_toArray, List.set_cons_zero, List.set_cons_succ, i64_w, i32_w]
                  rfl
                 refine pure_ (i := 44) (N := some 179) (v := ?_) (a' := ?_) #[true, true, true, true, true, true, true, true, true, true, true, true, true, true, true, true, true, true, true, true, true, true, true, true, true, true, true, true, true, true, true, true, true, true, true, true, true, true, true, true, true, true, true, true, true, false, false, false, false, false, false, false, false, false, false, false, false, false, false, false, false, false, false, false, false, false, false, false, false, false, false, false, false, false, false, false, false, false, false, false, false, false] rfl rfl (any_of HT_.out (by kernel_rfl)) (fun _ _ _ h => h) (Or.inl ⟨by rfl, ?_⟩) ?_ ?_
                 rotate_left
                 ·
                  intro w'
                  go_simp
                  with_reducible rfl
                 rotate_left
                 ·
                  simp only [Act.put, List.setIfInBounds_toArray, List.set_cons_zero, List.set_cons_succ, i64_w, i32_w]
                  rfl
                 refine pure_ (i := 45) (N := some 180) (v := ?_) (a' := ?_) #[true, true, true, true, true, true, true, true, true, true, true, true, true, true, true, true, true, true, true, true, true, true, true, true, true, true, true, true, true, true, true, true, true, true, true, true, true, true, true, true, true, true, true, true, true, true, false, false, false, false, false, false, false, false, false, false, false, false, false, false, false, false, false, false, false, false, false, false, false, false, false, false, false, false, false, false, false, false, false, false, false, false] rfl rfl (any_of HT_.out (by kernel_rfl)) (fun _ _ _ h => h) (Or.inl ⟨by rfl, ?_⟩) ?_ ?_
                 rotate_left
                 ·
                  intro w'
                  go_simp
                  with_reducible rfl
                 rotate_left
                 ·
                  simp only [Act.put, List.setIfInBounds_toArray, List.set_cons_zero, List.set_cons_succ, i64_w, i32_w]
                  rfl
                 refine pure_ (i := 46) (N := some 181) (v := ?_) (a' := ?_) #[true, true, true, true, true, true, true, true, true, true, true, true, true, true, true, true, true, true, true, true, true, true, true, true, true, true, true, true, true, true, true, true, true, true, true, true, true, true, true, true, true, true, true, true, true, true, true, false, false, false, false, false, false, false, false, false, false, false, false, false, false, false, false, false, false, false, false, false, false, false, false, false, false, false, false, false, false, false, false, false, false, false] rfl rfl (any_of HT_.out (by kernel_rfl)) (fun _ _ _ h => h) (Or.inl ⟨by rfl, ?_⟩) ?_ ?_
                 rotate_left
                 ·
                  intro w'
                  go_simp
                  with_reducible rfl
                 rotate_left
                 ·
                  simp only [Act.put, List.setIfInBounds_toArray, List.set_cons_zero, List.set_cons_succ, i64_w, i32_w]
                  rfl
                 refine pure_ (i := 47) (N := some 182) (v := ?_) (a' := ?_) #[true, true, true, true, true, true, true, true, true, true, true, true, true, true, true, true, true, true, true, true, true, true, true, true, true, true, true, true, true, true, true, true, true, true, true, true, true, true, true, true, true, true, true, true, true, true, true, true, false, false, false, false, false, false, false, false, false, false, false, false, false, false, false, false, false, false, false, false, false, false, false, false, false, false, false, false, false, false, false, false, false, false] rfl rfl (any_of HT_.out (by kernel_rfl)) (fun _ _ _ h => h) (Or.inl ⟨by rfl, ?_⟩) ?_ ?_
                 rotate_left
                 ·
                  intro w'
                  go_simp
                  with_reducible rfl
                 rotate_left
                 ·
                  simp only [Act.put, List.setIfInBounds_toArray, List.set_cons_zero, List.set_cons_succ, i64_w, i32_w]
                  rfl
                 refine pure_ (i := 48) (N := some 183) (v := ?_) (a' := ?_) #[true, true, true, true, true, true, true, true, true, true, true, true, true, true, true, true, true, true, true, true, true, true, true, true, true, true, true, true, true, true, true, true, true, true, true, true, true, true, true, true, true, true, true, true, true, true, true, true, true, false, false, false, false, false, false, false, false, false, false, false, false, false, false, false, false, false, false, false, false, false, false, false, false, false, false, false, false, false, false, false, false, false] rfl rfl (any_of HT_.out (by kernel_rfl)) (fun _ _ _ h => h) (Or.inl ⟨by rfl, ?_⟩) ?_ ?_
                 rotate_left
                 ·
                  intro w'
                  go_simp
                  with_reducible rfl
                 rotate_left
                 ·
                  simp only [Act.put, List.setIfInBounds_toArray, List.set_cons_zero, List.set_cons_succ, i64_w, i32_w]
                  rfl
                 refine pure_ (i := 49) (N := some 184) (v := ?_) (a' := ?_) #[true, true, true, true, true, true, true, true, true, true, true, true, true, true, true, true, true, true, true, true, true, true, true, true, true, true, true, true, true, true, true, true, true, true, true, true, true, true, true, true, true, true, true, true, true, true, true, true, true, true, false, false, false, false, false, false, false, false, false, false, false, false, false, false, false, false, false, false, false, false, false, false, false, false, false, false, false, false, false, false, false, false] rfl rfl (any_of HT_.out (by kernel_rfl)) (fun _ _ _ h => h) (Or.inl ⟨by rfl, ?_⟩) ?_ ?_
                 rotate_left
                 ·
                  intro w'
                  go_simp
                  with_reducible rfl
                 rotate_left
                 ·
                  simp only [Act.put, List.setIfInBounds_toArray, List.set_cons_zero, List.set_cons_succ, i64_w, i32_w]
                  rfl
                 refine pure_ (i := 50) (N := some 185) (v := ?_) (a' := ?_) #[true, true, true, true, true, true, true, true, true, true, true, true, true, true, true, true, true, true, true, true, true, true, true, true, true, true, true, true, true, true, true, true, true, true, true, true, true, true, true, true, true, true, true, true, true, true, true, true, true, true, true, false, false, false, false, false, false, false, false, false, false, false, false, false, false, false, false, false, false, false, false, false, false, false, false, false, false, false, false, false, false, false] rfl rfl (any_of HT_.out (by kernel_rfl)) (fun _ _ _ h => h) (Or.inl ⟨by rfl, ?_⟩) ?_ ?_
                 rotate_left
                 ·
                  intro w'
                  go_simp
                  with_reducible rfl
                 rotate_left
                 ·
                  simp only [Act.put, List.setIfInBounds_toArray, List.set_cons_zero, List.set_cons_succ, i64_w, i32_w]
                  rfl
                 refine pure_ (i := 51) (N := some 186) (v := ?_) (a' := ?_) #[true, true, true, true, true, true, true, true, true, true, true, true, true, true, true, true, true, true, true, true, true, true, true, true, true, true, true, true, true, true, true, true, true, true, true, true, true, true, true, true, true, true, true, true, true, true, true, true, true, true, true, true, false, false, false, false, false, false, false, false, false, false, false, false, false, false, false, false, false, false, false, false, false, false, false, false, false, false, false, false, false, false] rfl rfl (any_of HT_.out (by kernel_rfl)) (fun _ _ _ h => h) (Or.inl ⟨by rfl, ?_⟩) ?_ ?_
                 rotate_left
                 ·
                  intro w'
                  go_simp
                  with_reducible rfl
                 rotate_left
                 ·
                  simp only [Act.put, List.setIfInBounds_toArray, List.set_cons_zero, List.set_cons_succ, i64_w, i32_w]
                  rfl
                 refine pure_ (i := 52) (N := some 187) (v := ?_) (a' := ?_) #[true, true, true, true, true, true, true, true, true, true, true, true, true, true, true, true, true, true, true, true, true, true, true, true, true, true, true, true, true, true, true, true, true, true, true, true, true, true, true, true, true, true, true, true, true, true, true, true, true, true, true, true, true, false, false, false, false, false, false, false, false, false, false, false, false, false, false, false, false, false, false, false, false, false, false, false, false, false, false, false, false, false] rfl rfl (any_of HT_.out (by kernel_rfl)) (fun _ _ _ h => h) (Or.inl ⟨by rfl, ?_⟩) ?_ ?_
                 rotate_left
                 ·
                  intro w'
                  go_simp
                  with_reducible rfl
                 rotate_left
                 ·
                  simp only [Act.put, List.setIfInBounds_toArray, List.set_cons_zero, List.set_cons_succ, i64_w, i32_w]
                  rfl
                 refine pure_ (i := 53) (N := some 188) (v := ?_) (a' := ?_) #[true, true, true, true, true, true, true, true, true, true, true, true, true, true, true, true, true, true, true, true, true, true, true, true, true, true, true, true, true, true, true, true, true, true, true, true, true, true, true, true, true, true, true, true, true, true, true, true, true, true, true, true, true, true, false, false, false, false, false, false, false, false, false, false, false, false, false, false, false, false, false, false, false, false, false, false, false, false, false, false, false, false] rfl rfl (any_of HT_.out (by kernel_rfl)) (fun _ _ _ h => h) (Or.inl ⟨by rfl, ?_⟩) ?_ ?_
                 rotate_left
                 ·
                  intro w'
                  go_simp
                  with_reducible rfl
                 rotate_left
                 ·
                  simp only [Act.put, List.setIfInBounds_toArray, List.set_cons_zero, List.set_cons_succ, i64_w, i32_w]
                  rfl
                 refine pure_ (i := 54) (N := some 189) (v := ?_) (a' := ?_) #[true, true, true, true, true, true, true, true, true, true, true, true, true, true, true, true, true, true, true, true, true, true, true, true, true, true, true, true, true, true, true, true, true, true, true, true, true, true, true, true, true, true, true, true, true, true, true, true, true, true, true, true, true, true, true, false, false, false, false, false, false, false, false, false, false, false, false, false, false, false, false, false, false, false, false, false, false, false, false, false, false, false] rfl rfl (any_of HT_.out (by kernel_rfl)) (fun _ _ _ h => h) (Or.inl ⟨by rfl, ?_⟩) ?_ ?_
                 rotate_left
                 ·
                  intro w'
                  go_simp
                  with_reducible rfl
                 rotate_left
                 ·
                  simp only [Act.put, List.setIfInBounds_toArray, List.set_cons_zero, List.set_cons_succ, i64_w, i32_w]
                  rfl
                 refine pure_ (i := 55) (N := some 190) (v := ?_) (a' := ?_) #[true, true, true, true, true, true, true, true, true, true, true, true, true, true, true, true, true, true, true, true, true, true, true, true, true, true, true, true, true, true, true, true, true, true, true, true, true, true, true, true, true, true, true, true, true, true, true, true, true, true, true, true, true, true, true, true, false, false, false, false, false, false, false, false, false, false, false, false, false, false, false, false, false, false, false, false, false, false, false, false, false, false] rfl rfl (any_of HT_.out (by kernel_rfl)) (fun _ _ _ h => h) (Or.inl ⟨by rfl, ?_⟩) ?_ ?_
                 rotate_left
                 ·
                  intro w'
                  go_simp
                  with_reducible rfl
                 rotate_left
                 ·
                  simp only [Act.put, List.setIfInBounds_toArray, List.set_cons_zero, List.set_cons_succ, i64_w, i32_w]
                  rfl
                 refine pure_ (i := 56) (N := some 191) (v := ?_) (a' := ?_) #[true, true, true, true, true, true, true, true, true, true, true, true, true, true, true, true, true, true, true, true, true, true, true, true, true, true, true, true, true, true, true, true, true, true, true, true, true, true, true, true, true, true, true, true, true, true, true, true, true, true, true, true, true, true, true, true, true, false, false, false, false, false, false, false, false, false, false, false, false, false, false, false, false, false, false, false, false, false, false, false, false, false] rfl rfl (any_of HT_.out (by kernel_rfl)) (fun _ _ _ h => h) (Or.inl ⟨by rfl, ?_⟩) ?_ ?_
                 rotate_left
                 ·
                  intro w'
                  go_simp
                  with_reducible rfl
                 rotate_left
                 ·
                  simp only [Act.put, List.setIfInBounds_toArray, List.set_cons_zero, List.set_cons_succ, i64_w, i32_w]
                  rfl
                 refine pure_ (i := 57) (N := some 192) (v := ?_) (a' := ?_) #[true, true, true, true, true, true, true, true, true, true, true, true, true, true, true, true, true, true, true, true, true, true, true, true, true, true, true, true, true, true, true, true, true, true, true, true, true, true, true, true, true, true, true, true, true, true, true, true, true, true, true, true, true, true, true, true, true, true, false, false, false, false, false, false, false, false, false, false, false, false, false, false, false, false, false, false, false, false, false, false, false, false] rfl rfl (any_of HT_.out (by kernel_rfl)) (fun _ _ _ h => h) (Or.inl ⟨by rfl, ?_⟩) ?_ ?_
                 rotate_left
                 ·
                  intro w'
                  go_simp
                  with_reducible rfl
                 rotate_left
                 ·
                  simp only [Act.put, List.setIfInBounds_toArray, List.set_cons_zero, List.set_cons_succ, i64_w, i32_w]
                  rfl
                 refine pure_ (i := 58) (N := some 193) (v := ?_) (a' := ?_) #[true, true, true, true, true, true, true, true, true, true, true, true, true, true, true, true, true, true, true, true, true, true, true, true, true, true, true, true, true, true, true, true, true, true, true, true, true, true, true, true, true, true, true, true, true, true, true, true, true, true, true, true, true, true, true, true, true, true, true, false, false, false, false, false, false, false, false, false, false, false, false, false, false, false, false, false, false, false, false, false, false, false] rfl rfl (any_of HT_.out (by kernel_rfl)) (fun _ _ _ h => h) (Or.inl ⟨by rfl, ?_⟩) ?_ ?_
                 rotate_left
                 ·
                  intro w'
                  go_simp
                  with_reducible rfl
                 rotate_left
                 ·
                  simp only [Act.put, List.setIfInBounds_toArray, List.set_cons_zero, List.set_cons_succ, i64_w, i32_w]
                  rfl
                 refine one_ (i := 59) (N := some 194) #[true, true, true, true, true, true, true, true, true, true, true, true, true, true, true, true, true, true, true, true, true, true, true, true, true, true, true, true, true, true, true, true, true, true, true, true, true, true, true, true, true, true, true, true, true, true, true, true, true, true, true, true, true, true, true, true, true, true, true, true, false, false, false, false, false, false, false, false, false, false, false, false, false, false, false, false, false, false, false, false, false, false] rfl rfl (one_of HT_.out (by kernel_rfl)) (by decide) (fun K hK => ?_)
                 refine goes_ Try.func23 (by kernel_rfl) rfl #[.slice Ao70 t291.length co70, .slice Ao71 t295.length co71] (by rfl) rfl rfl (by (try simp only [List.map_toArray, List.map_cons, List.map_nil]); first | done | rfl | (simp only [List.length_drop, List.length_take]; rfl)) ?_
                 with_reducible refine (thrumref02_Same.calls _ _ t291 _ _ t295 true _ ?side1 ?side2 ?side3 ?side4 A36.out).mono ?_
                 (case side1 => repeat (first | exact (Kd.R_reads' HO294.out).2.2 | (with_reducible refine ccA ?_ _) | (with_reducible refine ccN ?_ _) | (with_reducible refine ccD ?_)))
                 (case side2 => exact (Kd.R_reads' HO294.out).2.1)
                 (case side3 => repeat (first | exact (Kd.R_reads' HO298.out).2.2 | (with_reducible refine ccA ?_ _) | (with_reducible refine ccN ?_ _) | (with_reducible refine ccD ?_)))
                 (case side4 => exact (Kd.R_reads' HO298.out).2.1)
                 rintro e w' ⟨rfl, ⟨nd, rfl⟩⟩
                 refine ⟨_, rfl, ?_⟩
                 refine hK.out _ _ ⟨(blk_cell BK251.out 0).trans rfl, (blk_cell BK251.out 1).trans rfl⟩ (fun hHeld => ?_)
                 clear hK K
                 refine norm_ (a' := ?_) ?_ ?_
                 rotate_left
                 ·
                  show Act.put _ (some 194) _ = _
                  simp only [Act.put, List.setIfInBounds_toArray, List.set_cons_zero, List.set_cons_succ, i64_w, i32_w]
                  rfl
                 refine pure_ (i := 60) (N := some 195) (v := ?_) (a' := ?_) #[true, true, true, true, true, true, true, true, true, true, true, true, true, true, true, true, true, true, true, true, true, true, true, true, true, true, true, true, true, true, true, true, true, true, true, true, true, true, true, true, true, true, true, true, true, true, true, true, true, true, true, true, true, true, true, true, true, true, true, true, true, false, false, false, false, false, false, false, false, false, false, false, false, false, false, false, false, false, false, false, false, false] rfl rfl (any_of HT_.out (by kernel_rfl)) (fun _ _ _ h => h) (Or.inl ⟨by rfl, ?_⟩) ?_ ?_
                 rotate_left
                 ·
                  intro w'
                  go_simp
                  with_reducible rfl
                 rotate_left
                 ·
                  simp only [Act.put, List.setIfInBounds_toArray, List.set_cons_zero, List.set_cons_succ, i64_w, i32_w]
                  rfl
                 refine pure_ (i := 61) (N := some 196) (v := ?_) (a' := ?_) #[true, true, true, true, true, true, true, true, true, true, true, true, true, true, true, true, true, true, true, true, true, true, true, true, true, true, true, true, true, true, true, true, true, true, true, true, true, true, true, true, true, true, true, true, true, true, true, true, true, true, true, true, true, true, true, true, true, true, true, true, true, true, false, false, false, false, false, false, false, false, false, false, false, false, false, false, false, false, false, false, false, false] rfl rfl (any_of HT_.out (by kernel_rfl)) (fun _ _ _ h => h) (Or.inl ⟨by rfl, ?_⟩) ?_ ?_
                 rotate_left
                 ·
                  intro w'
                  go_simp
                  with_reducible rfl
                 rotate_left
                 ·
                  simp only [Act.put, List.setIfInBounds_toArray, List.set_cons_zero, List.set_cons_succ, i64_w, i32_w]
                  rfl
                 refine pure_ (i := 62) (N := some 197) (v := ?_) (a' := ?_) #[true, true, true, true, true, true, true, true, true, true, true, true, true, true, true, true, true, true, true, true, true, true, true, true, true, true, true, true, true, true, true, true, true, true, true, true, true, true, true, true, true, true, true, true, true, true, true, true, true, true, true, true, true, true, true, true, true, true, true, true, true, true, true, false, false, false, false, false, false, false, false, false, false, false, false, false, false, false, false, false, false, false] rfl rfl (any_of HT_.out (by kernel_rfl)) (fun _ _ _ h => h) (Or.inl ⟨by rfl, ?_⟩) ?_ ?_
                 rotate_left
                 ·
                  intro w'
                  go_simp
                  with_reducible rfl
                 rotate_left
                 ·
                  simp only [Act.put, List.setIfInBounds_toArray, List.set_cons_zero, List.set_cons_succ, i64_w, i32_w]
                  rfl
                 refine pure_ (i := 63) (N := some 198) (v := ?_) (a' := ?_) #[true, true, true, true, true, true, true, true, true, true, true, true, true, true, true, true, true, true, true, true, true, true, true, true, true, true, true, true, true, true, true, true, true, true, true, true, true, true, true, true, true, true, true, true, true, true, true, true, true, true, true, true, true, true, true, true, true, true, true, true, true, true, true, true, false, false, false, false, false, false, false, false, false, false, false, false, false, false, false, false, false, false] rfl rfl (any_of HT_.out (by kernel_rfl)) (fun _ _ _ h => h) (Or.inl ⟨by rfl, ?_⟩) ?_ ?_
                 rotate_left
                 ·
                  intro w'
                  go_simp
                  with_reducible rfl
                 rotate_left
                 ·
                  simp only [Act.put, List.setIfInBounds_toArray, List.set_cons_zero, List.set_cons_succ, i64_w, i32_w]
                  rfl
                 refine pure_ (i := 64) (N := some 199) (v := ?_) (a' := ?_) #[true, true, true, true, true, true, true, true, true, true, true, true, true, true, true, true, true, true, true, true, true, true, true, true, true, true, true, true, true, true, true, true, true, true, true, true, true, true, true, true, true, true, true, true, true, true, true, true, true, true, true, true, true, true, true, true, true, true, true, true, true, true, true, true, true, false, false, false, false, false, false, false, false, false, false, false, false, false, false, false, false, false] rfl rfl (any_of HT_.out (by kernel_rfl)) (fun _ _ _ h => h) (Or.inl ⟨by rfl, ?_⟩) ?_ ?_
                 rotate_left
                 ·
                  intro w'
                  go_simp
                  with_reducible rfl
                 rotate_left
                 ·
                  simp only [Act.put, List.setIfInBounds_toArray, List.set_cons_zero, List.set_cons_succ, i64_w, i32_w]
                  rfl
                 refine pure_ (i := 65) (N := some 200) (v := ?_) (a' := ?_) #[true, true, true, true, true, true, true, true, true, true, true, true, true, true, true, true, true, true, true, true, true, true, true, true, true, true, true, true, true, true, true, true, true, true, true, true, true, true, true, true, true, true, true, true, true, true, true, true, true, true, true, true, true, true, true, true, true, true, true, true, true, true, true, true, true, true, false, false, false, false, false, false, false, false, false, false, false, false, false, false, false, false] rfl rfl (any_of HT_.out (by kernel_rfl)) (fun _ _ _ h => h) (Or.inl ⟨by rfl, ?_⟩) ?_ ?_
                 rotate_left
                 ·
                  intro w'
                  go_simp
                  with_reducible rfl
                 rotate_left
                 ·
                  simp only [Act.put, List.setIfInBounds_toArray, List.set_cons_zero, List.set_cons_succ, i64_w, i32_w]
                  rfl
                 refine pure_ (i := 66) (N := some 201) (v := ?_) (a' := ?_) #[true, true, true, true, true, true, true, true, true, true, true, true, true, true, true, true, true, true, true, true, true, true, true, true, true, true, true, true, true, true, true, true, true, true, true, true, true, true, true, true, true, true, true, true, true, true, true, true, true, true, true, true, true, true, true, true, true, true, true, true, true, true, true, true, true, true, true, false, false, false, false, false, false, false, false, false, false, false, false, false, false, false] rfl rfl (any_of HT_.out (by kernel_rfl)) (fun _ _ _ h => h) (Or.inl ⟨by rfl, ?_⟩) ?_ ?_
                 rotate_left
                 ·
                  intro w'
                  go_simp
                  with_reducible rfl
                 rotate_left
                 ·
                  simp only [Act.put, List.setIfInBounds_toArray, List.set_cons_zero, List.set_cons_succ, i64_w, i32_w]
                  rfl
                 refine pure_ (i := 67) (N := some 202) (v := ?_) (a' := ?_) #[true, true, true, true, true, true, true, true, true, true, true, true, true, true, true, true, true, true, true, true, true, true, true, true, true, true, true, true, true, true, true, true, true, true, true, true, true, true, true, true, true, true, true, true, true, true, true, true, true, true, true, true, true, true, true, true, true, true, true, true, true, true, true, true, true, true, true, true, false, false, false, false, false, false, false, false, false, false, false, false, false, false] rfl rfl (any_of HT_.out (by kernel_rfl)) (fun _ _ _ h => h) (Or.inl ⟨by rfl, ?_⟩) ?_ ?_
                 rotate_left
                 ·
                  intro w'
                  go_simp
                  with_reducible rfl
                 rotate_left
                 ·
                  simp only [Act.put, List.setIfInBounds_toArray, List.set_cons_zero, List.set_cons_succ, i64_w, i32_w]
                  rfl
                 refine pure_ (i := 68) (N := some 203) (v := ?_) (a' := ?_) #[true, true, true, true, true, true, true, true, true, true, true, true, true, true, true, true, true, true, true, true, true, true, true, true, true, true, true, true, true, true, true, true, true, true, true, true, true, true, true, true, true, true, true, true, true, true, true, true, true, true, true, true, true, true, true, true, true, true, true, true, true, true, true, true, true, true, true, true, true, false, false, false, false, false, false, false, false, false, false, false, false, false] rfl rfl (any_of HT_.out (by kernel_rfl)) (fun _ _ _ h => h) (Or.inl ⟨by rfl, ?_⟩) ?_ ?_
                 rotate_left
                 ·
                  intro w'
                  go_simp
                  with_reducible rfl
                 rotate_left
                 ·
                  simp only [Act.put, List.setIfInBounds_toArray, List.set_cons_zero, List.set_cons_succ, i64_w, i32_w]
                  rfl
                 refine pure_ (i := 69) (N := some 204) (v := ?_) (a' := ?_) #[true, true, true, true, true, true, true, true, true, true, true, true, true, true, true, true, true, true, true, true, true, true, true, true, true, true, true, true, true, true, true, true, true, true, true, true, true, true, true, true, true, true, true, true, true, true, true, true, true, true, true, true, true, true, true, true, true, true, true, true, true, true, true, true, true, true, true, true, true, true, false, false, false, false, false, false, false, false, false, false, false, false] rfl rfl (any_of HT_.out (by kernel_rfl)) (fun _ _ _ h => h) (Or.inl ⟨by rfl, ?_⟩) ?_ ?_
                 rotate_left
                 ·
                  intro w'
                  go_simp
                  with_reducible rfl
                 rotate_left
                 ·
                  simp only [Act.put, List.setIfInBounds_toArray, List.set_cons_zero, List.set_cons_succ, i64_w, i32_w]
                  rfl
                 refine pure_ (i := 73) (N := some 208) (v := ?_) (a' := ?_) #[true, true, true, true, true, true, true, true, true, true, true, true, true, true, true, true, true, true, true, true, true, true, true, true, true, true, true, true, true, true, true, true, true, true, true, true, true, true, true, true, true, true, true, true, true, true, true, true, true, true, true, true, true, true, true, true, true, true, true, true, true, true, true, true, true, true, true, true, true, true, false, false, false, true, false, false, false, false, false, false, false, false] rfl rfl (any_of HT_.out (by kernel_rfl)) (fun _ _ _ h => h) (Or.inl ⟨by rfl, ?_⟩) ?_ ?_
                 rotate_left
                 ·
                  intro w'
                  go_simp
                  with_reducible rfl
                 rotate_left
                 ·
                  simp only [Act.put, List.setIfInBounds_toArray, List.set_cons_zero, List.set_cons_succ, i64_w, i32_w]
                  rfl
                 refine pure_ (i := 74) (N := some 209) (v := ?_) (a' := ?_) #[true, true, true, true, true, true, true, true, true, true, true, true, true, true, true, true, true, true, true, true, true, true, true, true, true, true, true, true, true, true, true, true, true, true, true, true, true, true, true, true, true, true, true, true, true, true, true, true, true, true, true, true, true, true, true, true, true, true, true, true, true, true, true, true, true, true, true, true, true, true, false, false, false, true, true, false, false, false, false, false, false, false] rfl rfl (any_of HT_.out (by kernel_rfl)) (fun _ _ _ h => h) (Or.inl ⟨by rfl, ?_⟩) ?_ ?_
                 rotate_left
                 ·
                  intro w'
                  go_simp
                  with_reducible rfl
                 rotate_left
                 ·
                  simp only [Act.put, List.setIfInBounds_toArray, List.set_cons_zero, List.set_cons_succ, i64_w, i32_w]
                  rfl
                 refine pure_ (i := 75) (N := some 210) (v := ?_) (a' := ?_) #[true, true, true, true, true, true, true, true, true, true, true, true, true, true, true, true, true, true, true, true, true, true, true, true, true, true, true, true, true, true, true, true, true, true, true, true, true, true, true, true, true, true, true, true, true, true, true, true, true, true, true, true, true, true, true, true, true, true, true, true, true, true, true, true, true, true, true, true, true, true, false, false, false, true, true, true, false, false, false, false, false, false] rfl rfl (any_of HT_.out (by kernel_rfl)) (fun _ _ _ h => h) (Or.inl ⟨by rfl, ?_⟩) ?_ ?_
                 rotate_left
                 ·
                  intro w'
                  go_simp
                  with_reducible rfl
                 rotate_left
                 ·
                  simp only [Act.put, List.setIfInBounds_toArray, List.set_cons_zero, List.set_cons_succ, i64_w, i32_w]
                  rfl
                 refine take_ (i := 70) (N := some 205) (v := ?_) (a' := ?_) #[true, true, true, true, true, true, true, true, true, true, true, true, true, true, true, true, true, true, true, true, true, true, true, true, true, true, true, true, true, true, true, true, true, true, true, true, true, true, true, true, true, true, true, true, true, true, true, true, true, true, true, true, true, true, true, true, true, true, true, true, true, true, true, true, true, true, true, true, true, true, true, false, false, true, true, true, false, false, false, false, false, false] rfl rfl (take_ofW HT_.out HW_.out (by kernel_rfl)) (fun _ _ _ h => h) (Or.inl ⟨by rfl, ?_⟩) hHeld ?_ ?_
                 rotate_left
                 ·
                  rintro w' ⟨s0, s1⟩
                  go_simp
                  with_reducible rfl
                 rotate_left
                 ·
                  simp only [Act.put, List.setIfInBounds_toArray, List.set_cons_zero, List.set_cons_succ, i64_w, i32_w]
                  rfl
                 refine take_ (i := 76) (N := some 211) (v := ?_) (a' := ?_) #[true, true, true, true, true, true, true, true, true, true, true, true, true, true, true, true, true, true, true, true, true, true, true, true, true, true, true, true, true, true, true, true, true, true, true, true, true, true, true, true, true, true, true, true, true, true, true, true, true, true, true, true, true, true, true, true, true, true, true, true, true, true, true, true, true, true, true, true, true, true, true, false, false, true, true, true, true, false, false, false, false, false] rfl rfl (take_ofW HT_.out HW_.out (by kernel_rfl)) (fun _ _ _ h => h) (Or.inl ⟨by rfl, ?_⟩) hHeld ?_ ?_
                 rotate_left
                 ·
                  rintro w' ⟨s0, s1⟩
                  go_simp
                  with_reducible rfl
                 rotate_left
                 ·
                  simp only [Act.put, List.setIfInBounds_toArray, List.set_cons_zero, List.set_cons_succ, i64_w, i32_w]
                  rfl
                 have n_ := Aside0.mk (Kd.V_mono (ok' := (fun k_ => (P3_0_ k_ ∨ w.heap.size ≤ k_))) HO3_0.out (fun k_ hk => by repeat (first | exact hk | replace hk := hk.1)))
                 clear HO3_0
                 have HO3_0 := n_
                 clear n_
                 refine join_ (σ := Value × Value) 4 #[true, true, true, true, true, true, true, true, true, true, true, true, true, true, true, true, true, true, true, true, true, true, true, true, true, true, true, true, true, true, true, true, true, true, true, true, true, true, true, true, true, true, true, true, true, true, true, true, true, true, true, true, true, true, true, true, true, true, true, true, true, true, true, true, true, true, true, true, true, true, true, true, true, true, true, true, true, true, false, false, false, false] (fun s_ => [(206, s_.1), (207, .int .i64 t306), (212, s_.2)]) (fun s_ w' => (w'.cell? ⟨gb251, 0, none⟩ = some (.slice A3_0 l3_0.length c3_0) ∧ w'.cell? ⟨gb251, 1, none⟩ = some (.int .i64 a3_1)) ∧ (Kd.N k26 26 w' w.heap.size (fun k_ => (P3_0_ k_ ∨ w.heap.size ≤ k_)) s_.1 y303) ∧ (Kd.N k26 26 w' w.heap.size (fun k_ => (P3_0_ k_ ∨ w.heap.size ≤ k_)) s_.2 y307) ∧ (Kd.V (Kd.int .i64) 2 w' w.heap.size (fun k_ => (P3_0_ k_ ∨ w.heap.size ≤ k_)) (.slice A3_0 l3_0.length c3_0) l3_0) ∧ (w'.heap[gb251]? = some (.cells #[.slice A3_0 l3_0.length c3_0, .int .i64 a3_1] 26 (0, 0))) ∧ (Below w.heap.size w w')) ?_ ?_
                 rotate_left
                 ·
                  intro hCont
                  refine two_ (i := 71) (j := 77) (Ni := some 206) (Nj := some 212) #[true, true, true, true, true, true, true, true, true, true, true, true, true, true, true, true, true, true, true, true, true, true, true, true, true, true, true, true, true, true, true, true, true, true, true, true, true, true, true, true, true, true, true, true, true, true, true, true, true, true, true, true, true, true, true, true, true, true, true, true, true, true, true, true, true, true, true, true, true, true, true, true, false, true, true, true, true, false, false, false, false, false] #[true, true, true, true, true, true, true, true, true, true, true, true, true, true, true, true, true, true, true, true, true, true, true, true, true, true, true, true, true, true, true, true, true, true, true, true, true, true, true, true, true, true, true, true, true, true, true, true, true, true, true, true, true, true, true, true, true, true, true, true, true, true, true, true, true, true, true, true, true, true, true, false, false, true, true, true, true, true, false, false, false, false] rfl rfl rfl rfl (two_of HT_.out (by kernel_rfl)) (by decide) (by decide) (fun K hK => ?_) (fun K hK => ?_)
                  ·
                   skip
                   refine Kd.N_lit_step k26 _ 26 ?hg (N' := 206) ?hd (xs := ([(⟨l3_0, a3_1⟩ : S26)] : List (S26))) (inner := [.slice A3_0 l3_0.length c3_0, .int .i64 a3_1]) (ok := (fun k_ => (P3_0_ k_ ∨ w.heap.size ≤ k_))) (okp := (fun k_ => (P3_0_ k_ ∨ w.heap.size ≤ k_))) ?hr ?hp (fun _ hk => hk) ((show ∀ k_, w72.heap.size ≤ k_ → (fun k_ => (P3_0_ k_ ∨ w.heap.size ≤ k_)) k_ from fun k_ hk => (.inr (Nat.le_trans (zzS (by repeat (first | (with_reducible first | exact HB.out | apply zzA | apply zzN | apply zzD | refine below_set ?_ GE251.out) | exact HB.out))) hk))) _ (Nat.le_refl _)) (Below.refl _ _) (Nat.le_refl _) (by simp) ?_; (case hd => rfl); (case hg => rfl); (case hr => first | (go_simp; done) | (go_simp; rfl)); (case hp => exact (Reps.c2 (show Kd.FK k26 _ _ (⟨l3_0, a3_1⟩ : S26) [.slice A3_0 l3_0.length c3_0, .int .i64 a3_1] from (k26_mkF _ _ (⟨l3_0, a3_1⟩ : S26) (Kd.V_reads' HO3_0.out).2.1 (Kd.V_F (base := w.heap.size) (e := 2) HO3_0.out))) (Reps.none _ _)))
                   intro v304 w73 ho74 hb hg_ hnew_
                   clear hg_ hnew_
                   (first | rw [← Ny303.out] at ho74 | (simp only [Int.reduceToNat] at ho74; rw [← Ny303.out] at ho74))
                   have n0_ := Aside0.mk (Kd.V_below (by (with_reducible repeat (first | apply Kd.V_alloc | apply Kd.V_drewN | apply Kd.V_drew)); exact HO3_0.out) hb)
                   have n10_ := Aside0.mk (Kd.N_lower ho74 (zzS (by repeat (first | (with_reducible first | exact HB.out | apply zzA | apply zzN | apply zzD | refine below_set ?_ GE251.out) | exact HB.out))))
                   have n11_ := Aside0.mk (blk_below (g := gb251) (o := .cells #[.slice A3_0 l3_0.length c3_0, .int .i64 a3_1] 26 (0, 0)) (by (with_reducible repeat (first | refine kkN ?_ _ | refine kkD ?_ | refine kkA ?_ _)); exact BK251.out) hb)
                   have n12_ := Aside0.mk (zzT (by repeat (first | (with_reducible first | exact HB.out | apply zzA | apply zzN | apply zzD | refine below_set ?_ GE251.out) | exact HB.out)) hb)
                   clear HO3_0
                   clear BK251
                   clear HB
                   have HO3_0 := n0_
                   have HO305 := n10_
                   have BK251 := n11_
                   have HB := n12_
                   clear n0_ n10_ n11_ n12_
                   clear hb ho74
                   obtain ⟨Ao75, co75, eo75⟩ := Kd.N_slice HO305.out
                   (first | subst eo75 | (injection eo75 with f1_ f2_ f3_; have f4_ := f1_.symm; have f5_ := f3_.symm; clear f1_ f2_ f3_; subst f4_; subst f5_))
                   refine hK.out _ _ ⟨(blk_cell BK251.out 0).trans rfl, (blk_cell BK251.out 1).trans rfl⟩ (fun hHeld => ?_)
                   clear hK K
                   refine norm_ (a' := ?_) ?_ ?_
                   rotate_left
                   ·
                    show Act.put _ (some 206) _ = _
                    simp only [Act.put, List.setIfInBounds_toArray, List.set_cons_zero, List.set_cons_succ, i64_w, i32_w]
                    rfl
                   refine two_ (i := 72) (j := 77) (Ni := some 207) (Nj := some 212) #[true, true, true, true, true, true, true, true, true, true, true, true, true, true, true, true, true, true, true, true, true, true, true, true, true, true, true, true, true, true, true, true, true, true, true, true, true, true, true, true, true, true, true, true, true, true, true, true, true, true, true, true, true, true, true, true, true, true, true, true, true, true, true, true, true, true, true, true, true, true, true, true, true, true, true, true, true, false, false, false, false, false] #[true, true, true, true, true, true, true, true, true, true, true, true, true, true, true, true, true, true, true, true, true, true, true, true, true, true, true, true, true, true, true, true, true, true, true, true, true, true, true, true, true, true, true, true, true, true, true, true, true, true, true, true, true, true, true, true, true, true, true, true, true, true, true, true, true, true, true, true, true, true, true, true, false, true, true, true, true, true, false, false, false, false] rfl rfl rfl rfl (two_of HT_.out (by kernel_rfl)) (by decide) (by decide) (fun K hK => ?_) (fun K hK => ?_)
                   ·
                    skip
                    refine goes_ Try.func25 (by kernel_rfl) rfl #[.int .i64 a0, .int .i64 a1, .slice A2 l2.length c2, .slice Ao75 y303.length co75] (by rfl) rfl rfl (by (try simp only [List.map_toArray, List.map_cons, List.map_nil]); first | done | rfl | (simp only [List.length_drop, List.length_take]; rfl)) ?_
                    with_reducible refine (mlp_Check.calls a0 a1 _ _ l2 _ _ y303 t306 _ ?side1 ?side2 ?side3 ?side4 A39.out).mono ?_
                    (case side1 => repeat (first | exact (Kd.C_below HR2.out HB.out) | (with_reducible refine ccA ?_ _) | (with_reducible refine ccN ?_ _) | (with_reducible refine ccD ?_)))
                    (case side2 => exact HC2.out)
                    (case side3 => repeat (first | exact (Kd.N_reads' HO305.out).2.2 | (with_reducible refine ccA ?_ _) | (with_reducible refine ccN ?_ _) | (with_reducible refine ccD ?_)))
                    (case side4 => exact (Kd.N_reads' HO305.out).2.1)
                    rintro e w76 ⟨rfl, hb⟩
                    refine ⟨_, rfl, ?_⟩
                    have n0_ := Aside0.mk (Kd.V_below (by (with_reducible repeat (first | apply Kd.V_alloc | apply Kd.V_drewN | apply Kd.V_drew)); exact HO3_0.out) hb)
                    have n10_ := Aside0.mk (Kd.N_below (by (with_reducible repeat (first | apply Kd.N_alloc | apply Kd.N_drewN | apply Kd.N_drew)); exact HO305.out) hb)
                    have n11_ := Aside0.mk (blk_below (g := gb251) (o := .cells #[.slice A3_0 l3_0.length c3_0, .int .i64 a3_1] 26 (0, 0)) (by (with_reducible repeat (first | refine kkN ?_ _ | refine kkD ?_ | refine kkA ?_ _)); exact BK251.out) hb)
                    have n12_ := Aside0.mk (zzT (by repeat (first | (with_reducible first | exact HB.out | apply zzA | apply zzN | apply zzD | refine below_set ?_ GE251.out) | exact HB.out)) hb)
                    clear HO3_0
                    clear HO305
                    clear BK251
                    clear HB
                    have HO3_0 := n0_
                    have HO305 := n10_
                    have BK251 := n11_
                    have HB := n12_
                    clear n0_ n10_ n11_ n12_
                    (try clear hb)
                    (try clear hb2)
                    (try clear hk)
                    (try clear hi)
                    refine hK.out _ _ ⟨(blk_cell BK251.out 0).trans rfl, (blk_cell BK251.out 1).trans rfl⟩ (fun hHeld => ?_)
                    clear hK K
                    refine norm_ (a' := ?_) ?_ ?_
                    rotate_left
                    ·
                     show Act.put _ (some 207) _ = _
                     simp only [Act.put, List.setIfInBounds_toArray, List.set_cons_zero, List.set_cons_succ, i64_w, i32_w]
                     rfl
                    refine one_ (i := 77) (N := some 212) #[true, true, true, true, true, true, true, true, true, true, true, true, true, true, true, true, true, true, true, true, true, true, true, true, true, true, true, true, true, true, true, true, true, true, true, true, true, true, true, true, true, true, true, true, true, true, true, true, true, true, true, true, true, true, true, true, true, true, true, true, true, true, true, true, true, true, true, true, true, true, true, true, true, true, true, true, true, true, false, false, false, false] rfl rfl (one_of HT_.out (by kernel_rfl)) (by decide) (fun K hK => ?_)
                    refine Kd.N_lit_step k26 _ 26 ?hg (N' := 212) ?hd (xs := ([(⟨l3_0, a3_1⟩ : S26)] : List (S26))) (inner := [.slice A3_0 l3_0.length c3_0, .int .i64 a3_1]) (ok := (fun k_ => (P3_0_ k_ ∨ w.heap.size ≤ k_))) (okp := (fun k_ => (P3_0_ k_ ∨ w.heap.size ≤ k_))) ?hr ?hp (fun _ hk => hk) ((show ∀ k_, w76.heap.size ≤ k_ → (fun k_ => (P3_0_ k_ ∨ w.heap.size ≤ k_)) k_ from fun k_ hk => (.inr (Nat.le_trans (zzS (by repeat (first | (with_reducible first | exact HB.out | apply zzA | apply zzN | apply zzD | refine below_set ?_ GE251.out) | exact HB.out))) hk))) _ (Nat.le_refl _)) (Below.refl _ _) (Nat.le_refl _) (by simp) ?_; (case hd => rfl); (case hg => rfl); (case hr => first | (go_simp; done) | (go_simp; rfl)); (case hp => exact (Reps.c2 (show Kd.FK k26 _ _ (⟨l3_0, a3_1⟩ : S26) [.slice A3_0 l3_0.length c3_0, .int .i64 a3_1] from (k26_mkF _ _ (⟨l3_0, a3_1⟩ : S26) (Kd.V_reads' HO3_0.out).2.1 (Kd.V_F (base := w.heap.size) (e := 2) HO3_0.out))) (Reps.none _ _)))
                    intro v308 w77 ho78 hb hg_ hnew_
                    clear hg_ hnew_
                    (first | rw [← Ny307.out] at ho78 | (simp only [Int.reduceToNat] at ho78; rw [← Ny307.out] at ho78))
                    have n0_ := Aside0.mk (Kd.V_below (by (with_reducible repeat (first | apply Kd.V_alloc | apply Kd.V_drewN | apply Kd.V_drew)); exact HO3_0.out) hb)
                    have n10_ := Aside0.mk (Kd.N_below (by (with_reducible repeat (first | apply Kd.N_alloc | apply Kd.N_drewN | apply Kd.N_drew)); exact HO305.out) hb)
                    have n11_ := Aside0.mk (Kd.N_lower ho78 (zzS (by repeat (first | (with_reducible first | exact HB.out | apply zzA | apply zzN | apply zzD | refine below_set ?_ GE251.out) | exact HB.out))))
                    have n12_ := Aside0.mk (blk_below (g := gb251) (o := .cells #[.slice A3_0 l3_0.length c3_0, .int .i64 a3_1] 26 (0, 0)) (by (with_reducible repeat (first | refine kkN ?_ _ | refine kkD ?_ | refine kkA ?_ _)); exact BK251.out) hb)
                    have n13_ := Aside0.mk (zzT (by repeat (first | (with_reducible first | exact HB.out | apply zzA | apply zzN | apply zzD | refine below_set ?_ GE251.out) | exact HB.out)) hb)
                    clear HO3_0
                    clear HO305
                    clear BK251
                    clear HB
                    have HO3_0 := n0_
                    have HO305 := n10_
                    have HO309 := n11_
                    have BK251 := n12_
                    have HB := n13_
                    clear n0_ n10_ n11_ n12_ n13_
                    clear hb ho78
                    refine hK.out _ _ ⟨(blk_cell BK251.out 0).trans rfl, (blk_cell BK251.out 1).trans rfl⟩ (fun hHeld => ?_)
                    clear hK K
                    refine norm_ (a' := ?_) ?_ ?_
                    rotate_left
                    ·
                     show Act.put _ (some 212) _ = _
                     simp only [Act.put, List.setIfInBounds_toArray, List.set_cons_zero, List.set_cons_succ, i64_w, i32_w]
                     rfl
                    exact norm_ (by simp only [putAll, Act.put, List.setIfInBounds_toArray, List.set_cons_zero, List.set_cons_succ]) (hCont (.slice Ao75 y303.length co75, v308) _ ⟨hHeld, (by (with_reducible repeat (first | apply Kd.N_alloc | apply Kd.N_drewN | apply Kd.N_drew)); exact HO305.out), (by (with_reducible repeat (first | apply Kd.N_alloc | apply Kd.N_drewN | apply Kd.N_drew)); exact HO309.out), (by (with_reducible repeat (first | apply Kd.V_alloc | apply Kd.V_drewN | apply Kd.V_drew)); exact HO3_0.out), (by (with_reducible repeat (first | refine kkN ?_ _ | refine kkD ?_ | refine kkA ?_ _)); exact BK251.out), (by repeat (first | (with_reducible first | exact HB.out | apply zzA | apply zzN | apply zzD | refine below_set ?_ GE251.out) | exact HB.out))⟩)
                   ·
                    skip
                    refine Kd.N_lit_step k26 _ 26 ?hg (N' := 212) ?hd (xs := ([(⟨l3_0, a3_1⟩ : S26)] : List (S26))) (inner := [.slice A3_0 l3_0.length c3_0, .int .i64 a3_1]) (ok := (fun k_ => (P3_0_ k_ ∨ w.heap.size ≤ k_))) (okp := (fun k_ => (P3_0_ k_ ∨ w.heap.size ≤ k_))) ?hr ?hp (fun _ hk => hk) ((show ∀ k_, w73.heap.size ≤ k_ → (fun k_ => (P3_0_ k_ ∨ w.heap.size ≤ k_)) k_ from fun k_ hk => (.inr (Nat.le_trans (zzS (by repeat (first | (with_reducible first | exact HB.out | apply zzA | apply zzN | apply zzD | refine below_set ?_ GE251.out) | exact HB.out))) hk))) _ (Nat.le_refl _)) (Below.refl _ _) (Nat.le_refl _) (by simp) ?_; (case hd => rfl); (case hg => rfl); (case hr => first | (go_simp; done) | (go_simp; rfl)); (case hp => exact (Reps.c2 (show Kd.FK k26 _ _ (⟨l3_0, a3_1⟩ : S26) [.slice A3_0 l3_0.length c3_0, .int .i64 a3_1] from (k26_mkF _ _ (⟨l3_0, a3_1⟩ : S26) (Kd.V_reads' HO3_0.out).2.1 (Kd.V_F (base := w.heap.size) (e := 2) HO3_0.out))) (Reps.none _ _)))
                    intro v308 w75 ho76 hb hg_ hnew_
                    clear hg_ hnew_
                    (first | rw [← Ny307.out] at ho76 | (simp only [Int.reduceToNat] at ho76; rw [← Ny307.out] at ho76))
                    have n0_ := Aside0.mk (Kd.V_below (by (with_reducible repeat (first | apply Kd.V_alloc | apply Kd.V_drewN | apply Kd.V_drew)); exact HO3_0.out) hb)
                    have n10_ := Aside0.mk (Kd.N_below (by (with_reducible repeat (first | apply Kd.N_alloc | apply Kd.N_drewN | apply Kd.N_drew)); exact HO305.out) hb)
                    have n11_ := Aside0.mk (Kd.N_lower ho76 (zzS (by repeat (first | (with_reducible first | exact HB.out | apply zzA | apply zzN | apply zzD | refine below_set ?_ GE251.out) | exact HB.out))))
                    have n12_ := Aside0.mk (blk_below (g := gb251) (o := .cells #[.slice A3_0 l3_0.length c3_0, .int .i64 a3_1] 26 (0, 0)) (by (with_reducible repeat (first | refine kkN ?_ _ | refine kkD ?_ | refine kkA ?_ _)); exact BK251.out) hb)
                    have n13_ := Aside0.mk (zzT (by repeat (first | (with_reducible first | exact HB.out | apply zzA | apply zzN | apply zzD | refine below_set ?_ GE251.out) | exact HB.out)) hb)
                    clear HO3_0
                    clear HO305
                    clear BK251
                    clear HB
                    have HO3_0 := n0_
                    have HO305 := n10_
                    have HO309 := n11_
                    have BK251 := n12_
                    have HB := n13_
                    clear n0_ n10_ n11_ n12_ n13_
                    clear hb ho76
                    obtain ⟨Ao77, co77, eo77⟩ := Kd.N_slice HO305.out
                    (first | subst eo77 | (injection eo77 with f1_ f2_ f3_; have f4_ := f1_.symm; have f5_ := f3_.symm; clear f1_ f2_ f3_; subst f4_; subst f5_))
                    refine hK.out _ _ ⟨(blk_cell BK251.out 0).trans rfl, (blk_cell BK251.out 1).trans rfl⟩ (fun hHeld => ?_)
                    clear hK K
                    refine norm_ (a' := ?_) ?_ ?_
                    rotate_left
                    ·
                     show Act.put _ (some 212) _ = _
                     simp only [Act.put, List.setIfInBounds_toArray, List.set_cons_zero, List.set_cons_succ, i64_w, i32_w]
                     rfl
                    refine one_ (i := 72) (N := some 207) #[true, true, true, true, true, true, true, true, true, true, true, true, true, true, true, true, true, true, true, true, true, true, true, true, true, true, true, true, true, true, true, true, true, true, true, true, true, true, true, true, true, true, true, true, true, true, true, true, true, true, true, true, true, true, true, true, true, true, true, true, true, true, true, true, true, true, true, true, true, true, true, true, true, true, true, true, true, true, false, false, false, false] rfl rfl (one_of HT_.out (by kernel_rfl)) (by decide) (fun K hK => ?_)
                    refine goes_ Try.func25 (by kernel_rfl) rfl #[.int .i64 a0, .int .i64 a1, .slice A2 l2.length c2, .slice Ao77 y303.length co77] (by rfl) rfl rfl (by (try simp only [List.map_toArray, List.map_cons, List.map_nil]); first | done | rfl | (simp only [List.length_drop, List.length_take]; rfl)) ?_
                    with_reducible refine (mlp_Check.calls a0 a1 _ _ l2 _ _ y303 t306 _ ?side1 ?side2 ?side3 ?side4 A39.out).mono ?_
                    (case side1 => repeat (first | exact (Kd.C_below HR2.out HB.out) | (with_reducible refine ccA ?_ _) | (with_reducible refine ccN ?_ _) | (with_reducible refine ccD ?_)))
                    (case side2 => exact HC2.out)
                    (case side3 => repeat (first | exact (Kd.N_reads' HO305.out).2.2 | (with_reducible refine ccA ?_ _) | (with_reducible refine ccN ?_ _) | (with_reducible refine ccD ?_)))
                    (case side4 => exact (Kd.N_reads' HO305.out).2.1)
                    rintro e w78 ⟨rfl, hb⟩
                    refine ⟨_, rfl, ?_⟩
                    have n0_ := Aside0.mk (Kd.V_below (by (with_reducible repeat (first | apply Kd.V_alloc | apply Kd.V_drewN | apply Kd.V_drew)); exact HO3_0.out) hb)
                    have n10_ := Aside0.mk (Kd.N_below (by (with_reducible repeat (first | apply Kd.N_alloc | apply Kd.N_drewN | apply Kd.N_drew)); exact HO305.out) hb)
                    have n11_ := Aside0.mk (Kd.N_below (by (with_reducible repeat (first | apply Kd.N_alloc | apply Kd.N_drewN | apply Kd.N_drew)); exact HO309.out) hb)
                    have n12_ := Aside0.mk (blk_below (g := gb251) (o := .cells #[.slice A3_0 l3_0.length c3_0, .int .i64 a3_1] 26 (0, 0)) (by (with_reducible repeat (first | refine kkN ?_ _ | refine kkD ?_ | refine kkA ?_ _)); exact BK251.out) hb)
                    have n13_ := Aside0.mk (zzT (by repeat (first | (with_reducible first | exact HB.out | apply zzA | apply zzN | apply zzD | refine below_set ?_ GE251.out) | exact HB.out)) hb)
                    clear HO3_0
                    clear HO305
                    clear HO309
                    clear BK251
                    clear HB
                    have HO3_0 := n0_
                    have HO305 := n10_
                    have HO309 := n11_
                    have BK251 := n12_
                    have HB := n13_
                    clear n0_ n10_ n11_ n12_ n13_
                    (try clear hb)
                    (try clear hb2)
                    (try clear hk)
                    (try clear hi)
                    refine hK.out _ _ ⟨(blk_cell BK251.out 0).trans rfl, (blk_cell BK251.out 1).trans rfl⟩ (fun hHeld => ?_)
                    clear hK K
                    refine norm_ (a' := ?_) ?_ ?_
                    rotate_left
                    ·
                     show Act.put _ (some 207) _ = _
                     simp only [Act.put, List.setIfInBounds_toArray, List.set_cons_zero, List.set_cons_succ, i64_w, i32_w]
                     rfl
                    exact norm_ (by simp only [putAll, Act.put, List.setIfInBounds_toArray, List.set_cons_zero, List.set_cons_succ]) (hCont (.slice Ao77 y303.length co77, v308) _ ⟨hHeld, (by (with_reducible repeat (first | apply Kd.N_alloc | apply Kd.N_drewN | apply Kd.N_drew)); exact HO305.out), (by (with_reducible repeat (first | apply Kd.N_alloc | apply Kd.N_drewN | apply Kd.N_drew)); exact HO309.out), (by (with_reducible repeat (first | apply Kd.V_alloc | apply Kd.V_drewN | apply Kd.V_drew)); exact HO3_0.out), (by (with_reducible repeat (first | refine kkN ?_ _ | refine kkD ?_ | refine kkA ?_ _)); exact BK251.out), (by repeat (first | (with_reducible first | exact HB.out | apply zzA | apply zzN | apply zzD | refine below_set ?_ GE251.out) | exact HB.out))⟩)
                  ·
                   skip
                   refine Kd.N_lit_step k26 _ 26 ?hg (N' := 212) ?hd (xs := ([(⟨l3_0, a3_1⟩ : S26)] : List (S26))) (inner := [.slice A3_0 l3_0.length c3_0, .int .i64 a3_1]) (ok := (fun k_ => (P3_0_ k_ ∨ w.heap.size ≤ k_))) (okp := (fun k_ => (P3_0_ k_ ∨ w.heap.size ≤ k_))) ?hr ?hp (fun _ hk => hk) ((show ∀ k_, w72.heap.size ≤ k_ → (fun k_ => (P3_0_ k_ ∨ w.heap.size ≤ k_)) k_ from fun k_ hk => (.inr (Nat.le_trans (zzS (by repeat (first | (with_reducible first | exact HB.out | apply zzA | apply zzN | apply zzD | refine below_set ?_ GE251.out) | exact HB.out))) hk))) _ (Nat.le_refl _)) (Below.refl _ _) (Nat.le_refl _) (by simp) ?_; (case hd => rfl); (case hg => rfl); (case hr => first | (go_simp; done) | (go_simp; rfl)); (case hp => exact (Reps.c2 (show Kd.FK k26 _ _ (⟨l3_0, a3_1⟩ : S26) [.slice A3_0 l3_0.length c3_0, .int .i64 a3_1] from (k26_mkF _ _ (⟨l3_0, a3_1⟩ : S26) (Kd.V_reads' HO3_0.out).2.1 (Kd.V_F (base := w.heap.size) (e := 2) HO3_0.out))) (Reps.none _ _)))
                   intro v308 w73 ho74 hb hg_ hnew_
                   clear hg_ hnew_
                   (first | rw [← Ny307.out] at ho74 | (simp only [Int.reduceToNat] at ho74; rw [← Ny307.out] at ho74))
                   have n0_ := Aside0.mk (Kd.V_below (by (with_reducible repeat (first | apply Kd.V_alloc | apply Kd.V_drewN | apply Kd.V_drew)); exact HO3_0.out) hb)
                   have n10_ := Aside0.mk (Kd.N_lower ho74 (zzS (by repeat (first | (with_reducible first | exact HB.out | apply zzA | apply zzN | apply zzD | refine below_set ?_ GE251.out) | exact HB.out))))
                   have n11_ := Aside0.mk (blk_below (g := gb251) (o := .cells #[.slice A3_0 l3_0.length c3_0, .int .i64 a3_1] 26 (0, 0)) (by (with_reducible repeat (first | refine kkN ?_ _ | refine kkD ?_ | refine kkA ?_ _)); exact BK251.out) hb)
                   have n12_ := Aside0.mk (zzT (by repeat (first | (with_reducible first | exact HB.out | apply zzA | apply zzN | apply zzD | refine below_set ?_ GE251.out) | exact HB.out)) hb)
                   clear HO3_0
                   clear BK251
                   clear HB
                   have HO3_0 := n0_
                   have HO309 := n10_
                   have BK251 := n11_
                   have HB := n12_
                   clear n0_ n10_ n11_ n12_
                   clear hb ho74
                   refine hK.out _ _ ⟨(blk_cell BK251.out 0).trans rfl, (blk_cell BK251.out 1).trans rfl⟩ (fun hHeld => ?_)
                   clear hK K
                   refine norm_ (a' := ?_) ?_ ?_
                   rotate_left
                   ·
                    show Act.put _ (some 212) _ = _
                    simp only [Act.put, List.setIfInBounds_toArray, List.set_cons_zero, List.set_cons_succ, i64_w, i32_w]
                    rfl
                   refine one_ (i := 71) (N := some 206) #[true, true, true, true, true, true, true, true, true, true, true, true, true, true, true, true, true, true, true, true, true, true, true, true, true, true, true, true, true, true, true, true, true, true, true, true, true, true, true, true, true, true, true, true, true, true, true, true, true, true, true, true, true, true, true, true, true, true, true, true, true, true, true, true, true, true, true, true, true, true, true, true, false, true, true, true, true, true, false, false, false, false] rfl rfl (one_of HT_.out (by kernel_rfl)) (by decide) (fun K hK => ?_)
                   refine Kd.N_lit_step k26 _ 26 ?hg (N' := 206) ?hd (xs := ([(⟨l3_0, a3_1⟩ : S26)] : List (S26))) (inner := [.slice A3_0 l3_0.length c3_0, .int .i64 a3_1]) (ok := (fun k_ => (P3_0_ k_ ∨ w.heap.size ≤ k_))) (okp := (fun k_ => (P3_0_ k_ ∨ w.heap.size ≤ k_))) ?hr ?hp (fun _ hk => hk) ((show ∀ k_, w73.heap.size ≤ k_ → (fun k_ => (P3_0_ k_ ∨ w.heap.size ≤ k_)) k_ from fun k_ hk => (.inr (Nat.le_trans (zzS (by repeat (first | (with_reducible first | exact HB.out | apply zzA | apply zzN | apply zzD | refine below_set ?_ GE251.out) | exact HB.out))) hk))) _ (Nat.le_refl _)) (Below.refl _ _) (Nat.le_refl _) (by simp) ?_; (case hd => rfl); (case hg => rfl); (case hr => first | (go_simp; done) | (go_simp; rfl)); (case hp => exact (Reps.c2 (show Kd.FK k26 _ _ (⟨l3_0, a3_1⟩ : S26) [.slice A3_0 l3_0.length c3_0, .int .i64 a3_1] from (k26_mkF _ _ (⟨l3_0, a3_1⟩ : S26) (Kd.V_reads' HO3_0.out).2.1 (Kd.V_F (base := w.heap.size) (e := 2) HO3_0.out))) (Reps.none _ _)))
                   intro v304 w75 ho76 hb hg_ hnew_
                   clear hg_ hnew_
                   (first | rw [← Ny303.out] at ho76 | (simp only [Int.reduceToNat] at ho76; rw [← Ny303.out] at ho76))
                   have n0_ := Aside0.mk (Kd.V_below (by (with_reducible repeat (first | apply Kd.V_alloc | apply Kd.V_drewN | apply Kd.V_drew)); exact HO3_0.out) hb)
                   have n10_ := Aside0.mk (Kd.N_below (by (with_reducible repeat (first | apply Kd.N_alloc | apply Kd.N_drewN | apply Kd.N_drew)); exact HO309.out) hb)
                   have n11_ := Aside0.mk (Kd.N_lower ho76 (zzS (by repeat (first | (with_reducible first | exact HB.out | apply zzA | apply zzN | apply zzD | refine below_set ?_ GE251.out) | exact HB.out))))
                   have n12_ := Aside0.mk (blk_below (g := gb251) (o := .cells #[.slice A3_0 l3_0.length c3_0, .int .i64 a3_1] 26 (0, 0)) (by (with_reducible repeat (first | refine kkN ?_ _ | refine kkD ?_ | refine kkA ?_ _)); exact BK251.out) hb)
                   have n13_ := Aside0.mk (zzT (by repeat (first | (with_reducible first | exact HB.out | apply zzA | apply zzN | apply zzD | refine below_set ?_ GE251.out) | exact HB.out)) hb)
                   clear HO3_0
                   clear HO309
                   clear BK251
                   clear HB
                   have HO3_0 := n0_
                   have HO309 := n10_
                   have HO305 := n11_
                   have BK251 := n12_
                   have HB := n13_
                   clear n0_ n10_ n11_ n12_ n13_
                   clear hb ho76
                   obtain ⟨Ao77, co77, eo77⟩ := Kd.N_slice HO305.out
                   (first | subst eo77 | (injection eo77 with f1_ f2_ f3_; have f4_ := f1_.symm; have f5_ := f3_.symm; clear f1_ f2_ f3_; subst f4_; subst f5_))
                   refine hK.out _ _ ⟨(blk_cell BK251.out 0).trans rfl, (blk_cell BK251.out 1).trans rfl⟩ (fun hHeld => ?_)
                   clear hK K
                   refine norm_ (a' := ?_) ?_ ?_
                   rotate_left
                   ·
                    show Act.put _ (some 206) _ = _
                    simp only [Act.put, List.setIfInBounds_toArray, List.set_cons_zero, List.set_cons_succ, i64_w, i32_w]
                    rfl
                   refine one_ (i := 72) (N := some 207) #[true, true, true, true, true, true, true, true, true, true, true, true, true, true, true, true, true, true, true, true, true, true, true, true, true, true, true, true, true, true, true, true, true, true, true, true, true, true, true, true, true, true, true, true, true, true, true, true, true, true, true, true, true, true, true, true, true, true, true, true, true, true, true, true, true, true, true, true, true, true, true, true, true, true, true, true, true, true, false, false, false, false] rfl rfl (one_of HT_.out (by kernel_rfl)) (by decide) (fun K hK => ?_)
                   refine goes_ Try.func25 (by kernel_rfl) rfl #[.int .i64 a0, .int .i64 a1, .slice A2 l2.length c2, .slice Ao77 y303.length co77] (by rfl) rfl rfl (by (try simp only [List.map_toArray, List.map_cons, List.map_nil]); first | done | rfl | (simp only [List.length_drop, List.length_take]; rfl)) ?_
                   with_reducible refine (mlp_Check.calls a0 a1 _ _ l2 _ _ y303 t306 _ ?side1 ?side2 ?side3 ?side4 A39.out).mono ?_
                   (case side1 => repeat (first | exact (Kd.C_below HR2.out HB.out) | (with_reducible refine ccA ?_ _) | (with_reducible refine ccN ?_ _) | (with_reducible refine ccD ?_)))
                   (case side2 => exact HC2.out)
                   (case side3 => repeat (first | exact (Kd.N_reads' HO305.out).2.2 | (with_reducible refine ccA ?_ _) | (with_reducible refine ccN ?_ _) | (with_reducible refine ccD ?_)))
                   (case side4 => exact (Kd.N_reads' HO305.out).2.1)
                   rintro e w78 ⟨rfl, hb⟩
                   refine ⟨_, rfl, ?_⟩
                   have n0_ := Aside0.mk (Kd.V_below (by (with_reducible repeat (first | apply Kd.V_alloc | apply Kd.V_drewN | apply Kd.V_drew)); exact HO3_0.out) hb)
                   have n10_ := Aside0.mk (Kd.N_below (by (with_reducible repeat (first | apply Kd.N_alloc | apply Kd.N_drewN | apply Kd.N_drew)); exact HO309.out) hb)
                   have n11_ := Aside0.mk (Kd.N_below (by (with_reducible repeat (first | apply Kd.N_alloc | apply Kd.N_drewN | apply Kd.N_drew)); exact HO305.out) hb)
                   have n12_ := Aside0.mk (blk_below (g := gb251) (o := .cells #[.slice A3_0 l3_0.length c3_0, .int .i64 a3_1] 26 (0, 0)) (by (with_reducible repeat (first | refine kkN ?_ _ | refine kkD ?_ | refine kkA ?_ _)); exact BK251.out) hb)
                   have n13_ := Aside0.mk (zzT (by repeat (first | (with_reducible first | exact HB.out | apply zzA | apply zzN | apply zzD | refine below_set ?_ GE251.out) | exact HB.out)) hb)
                   clear HO3_0
                   clear HO309
                   clear HO305
                   clear BK251
                   clear HB
                   have HO3_0 := n0_
                   have HO309 := n10_
                   have HO305 := n11_
                   have BK251 := n12_
                   have HB := n13_
                   clear n0_ n10_ n11_ n12_ n13_
                   (try clear hb)
                   (try clear hb2)
                   (try clear hk)
                   (try clear hi)
                   refine hK.out _ _ ⟨(blk_cell BK251.out 0).trans rfl, (blk_cell BK251.out 1).trans rfl⟩ (fun hHeld => ?_)
                   clear hK K
                   refine norm_ (a' := ?_) ?_ ?_
                   rotate_left
                   ·
                    show Act.put _ (some 207) _ = _
                    simp only [Act.put, List.setIfInBounds_toArray, List.set_cons_zero, List.set_cons_succ, i64_w, i32_w]
                    rfl
                   exact norm_ (by simp only [putAll, Act.put, List.setIfInBounds_toArray, List.set_cons_zero, List.set_cons_succ]) (hCont (.slice Ao77 y303.length co77, v308) _ ⟨hHeld, (by (with_reducible repeat (first | apply Kd.N_alloc | apply Kd.N_drewN | apply Kd.N_drew)); exact HO305.out), (by (with_reducible repeat (first | apply Kd.N_alloc | apply Kd.N_drewN | apply Kd.N_drew)); exact HO309.out), (by (with_reducible repeat (first | apply Kd.V_alloc | apply Kd.V_drewN | apply Kd.V_drew)); exact HO3_0.out), (by (with_reducible repeat (first | refine kkN ?_ _ | refine kkD ?_ | refine kkA ?_ _)); exact BK251.out), (by repeat (first | (with_reducible first | exact HB.out | apply zzA | apply zzN | apply zzD | refine below_set ?_ GE251.out) | exact HB.out))⟩)
                 rintro ⟨v304, v308⟩ w79 ⟨hS_, h9_, h10_, h11_, h12_, h13_⟩
                 have n9_ : Aside0 (Kd.N k26 26 w79 w.heap.size (fun k_ => (P3_0_ k_ ∨ w.heap.size ≤ k_)) v304 y303) := ⟨h9_⟩
                 have n10_ : Aside0 (Kd.N k26 26 w79 w.heap.size (fun k_ => (P3_0_ k_ ∨ w.heap.size ≤ k_)) v308 y307) := ⟨h10_⟩
                 have n11_ : Aside0 (Kd.V (Kd.int .i64) 2 w79 w.heap.size (fun k_ => (P3_0_ k_ ∨ w.heap.size ≤ k_)) (.slice A3_0 l3_0.length c3_0) l3_0) := ⟨h11_⟩
                 have n12_ : Aside0 (w79.heap[gb251]? = some (.cells #[.slice A3_0 l3_0.length c3_0, .int .i64 a3_1] 26 (0, 0))) := ⟨h12_⟩
                 have n13_ : Aside0 (Below w.heap.size w w79) := ⟨h13_⟩
                 clear HO3_0
                 clear BK251
                 clear HB
                 clear h9_ h10_ h11_ h12_ h13_
                 have HO305 := n9_
                 have HO309 := n10_
                 have HO3_0 := n11_
                 have BK251 := n12_
                 have HB := n13_
                 clear n9_ n10_ n11_ n12_ n13_
                 have hHeld : w79.cell? ⟨gb251, 0, none⟩ = some (.slice A3_0 l3_0.length c3_0) ∧ w79.cell? ⟨gb251, 1, none⟩ = some (.int .i64 a3_1) := hS_
                 obtain ⟨Ao80, co80, eo80⟩ := Kd.N_slice HO309.out
                 (first | subst eo80 | (injection eo80 with f1_ f2_ f3_; have f4_ := f1_.symm; have f5_ := f3_.symm; clear f1_ f2_ f3_; subst f4_; subst f5_))
                 refine norm_ (a' := ?_) ?_ ?_
                 rotate_left
                 ·
                  simp only [putAll, Act.put, List.setIfInBounds_toArray, List.set_cons_zero, List.set_cons_succ]
                  rfl
                 refine one_ (i := 78) (N := some 213) #[true, true, true, true, true, true, true, true, true, true, true, true, true, true, true, true, true, true, true, true, true, true, true, true, true, true, true, true, true, true, true, true, true, true, true, true, true, true, true, true, true, true, true, true, true, true, true, true, true, true, true, true, true, true, true, true, true, true, true, true, true, true, true, true, true, true, true, true, true, true, true, true, true, true, true, true, true, true, true, false, false, false] rfl rfl (one_of HT_.out (by kernel_rfl)) (by decide) (fun K hK => ?_)
                 refine goes_ Try.func26 (by kernel_rfl) rfl #[.int .i64 a0, .int .i64 a1, .slice A2 l2.length c2, .slice Ao80 y307.length co80] (by rfl) rfl rfl (by (try simp only [List.map_toArray, List.map_cons, List.map_nil]); first | done | rfl | (simp only [List.length_drop, List.length_take]; rfl)) ?_
                 with_reducible refine (thrumref16_Check.calls a0 a1 _ _ l2 _ _ y307 t310 _ ?side1 ?side2 ?side3 ?side4 A40.out).mono ?_
                 (case side1 => repeat (first | exact (Kd.C_below HR2.out HB.out) | (with_reducible refine ccA ?_ _) | (with_reducible refine ccN ?_ _) | (with_reducible refine ccD ?_)))
                 (case side2 => exact HC2.out)
                 (case side3 => repeat (first | exact (Kd.N_reads' HO309.out).2.2 | (with_reducible refine ccA ?_ _) | (with_reducible refine ccN ?_ _) | (with_reducible refine ccD ?_)))
                 (case side4 => exact (Kd.N_reads' HO309.out).2.1)
                 rintro e w81 ⟨rfl, hb⟩
                 refine ⟨_, rfl, ?_⟩
                 have n0_ := Aside0.mk (Kd.V_below (by (with_reducible repeat (first | apply Kd.V_alloc | apply Kd.V_drewN | apply Kd.V_drew)); exact HO3_0.out) hb)
                 have n10_ := Aside0.mk (Kd.N_below (by (with_reducible repeat (first | apply Kd.N_alloc | apply Kd.N_drewN | apply Kd.N_drew)); exact HO305.out) hb)
                 have n11_ := Aside0.mk (Kd.N_below (by (with_reducible repeat (first | apply Kd.N_alloc | apply Kd.N_drewN | apply Kd.N_drew)); exact HO309.out) hb)
                 have n12_ := Aside0.mk (blk_below (g := gb251) (o := .cells #[.slice A3_0 l3_0.length c3_0, .int .i64 a3_1] 26 (0, 0)) (by (with_reducible repeat (first | refine kkN ?_ _ | refine kkD ?_ | refine kkA ?_ _)); exact BK251.out) hb)
                 have n13_ := Aside0.mk (zzT (by repeat (first | (with_reducible first | exact HB.out | apply zzA | apply zzN | apply zzD | refine below_set ?_ GE251.out) | exact HB.out)) hb)
                 clear HO3_0
                 clear HO305
                 clear HO309
                 clear BK251
                 clear HB
                 have HO3_0 := n0_
                 have HO305 := n10_
                 have HO309 := n11_
                 have BK251 := n12_
                 have HB := n13_
                 clear n0_ n10_ n11_ n12_ n13_
                 (try clear hb)
                 (try clear hb2)
                 (try clear hk)
                 (try clear hi)
                 refine hK.out _ _ ⟨(blk_cell BK251.out 0).trans rfl, (blk_cell BK251.out 1).trans rfl⟩ (fun hHeld => ?_)
                 clear hK K
                 refine norm_ (a' := ?_) ?_ ?_
                 rotate_left
                 ·
                  show Act.put _ (some 213) _ = _
                  simp only [Act.put, List.setIfInBounds_toArray, List.set_cons_zero, List.set_cons_succ, i64_w, i32_w]
                  rfl
                 refine pure_ (i := 79) (N := some 214) (v := ?_) (a' := ?_) #[true, true, true, true, true, true, true, true, true, true, true, true, true, true, true, true, true, true, true, true, true, true, true, true, true, true, true, true, true, true, true, true, true, true, true, true, true, true, true, true, true, true, true, true, true, true, true, true, true, true, true, true, true, true, true, true, true, true, true, true, true, true, true, true, true, true, true, true, true, true, true, true, true, true, true, true, true, true, true, true, false, false] rfl rfl (any_of HT_.out (by kernel_rfl)) (fun _ _ _ h => h) (Or.inl ⟨by rfl, ?_⟩) ?_ ?_
                 rotate_left
                 ·
                  intro w'
                  go_simp
                  with_reducible rfl
                 rotate_left
                 ·
                  simp only [Act.put, List.setIfInBounds_toArray, List.set_cons_zero, List.set_cons_succ, i64_w, i32_w]
                  rfl
                 refine pure_ (i := 80) (N := some 215) (v := ?_) (a' := ?_) #[true, true, true, true, true, true, true, true, true, true, true, true, true, true, true, true, true, true, true, true, true, true, true, true, true, true, true, true, true, true, true, true, true, true, true, true, true, true, true, true, true, true, true, true, true, true, true, true, true, true, true, true, true, true, true, true, true, true, true, true, true, true, true, true, true, true, true, true, true, true, true, true, true, true, true, true, true, true, true, true, true, false] rfl rfl (any_of HT_.out (by kernel_rfl)) (fun _ _ _ h => h) (Or.inl ⟨by rfl, ?_⟩) ?_ ?_
                 rotate_left
                 ·
                  intro w'
                  go_simp
                  with_reducible rfl
                 rotate_left
                 ·
                  simp only [Act.put, List.setIfInBounds_toArray, List.set_cons_zero, List.set_cons_succ, i64_w, i32_w]
                  rfl
                 refine pure_ (i := 81) (N := some 10) (v := ?_) (a' := ?_) #[true, true, true, true, true, true, true, true, true, true, true, true, true, true, true, true, true, true, true, true, true, true, true, true, true, true, true, true, true, true, true, true, true, true, true, true, true, true, true, true, true, true, true, true, true, true, true, true, true, true, true, true, true, true, true, true, true, true, true, true, true, true, true, true, true, true, true, true, true, true, true, true, true, true, true, true, true, true, true, true, true, true] rfl rfl (any_of HT_.out (by kernel_rfl)) (fun _ _ _ h => h) (Or.inl ⟨by rfl, ?_⟩) ?_ ?_
                 rotate_left
                 ·
                  intro w'
                  go_simp
                  with_reducible rfl
                 rotate_left
                 ·
                  simp only [Act.put, List.setIfInBounds_toArray, List.set_cons_zero, List.set_cons_succ, i64_w, i32_w]
                  rfl
                 refine done_ (done_of HT_.out (by kernel_rfl)) ?_
                 try go_wp2
                 go_ret
                 exact ⟨by first | rfl | (simp [errW_none, errW_some] <;> rfl) | (simp [*, errW_none, errW_some] <;> rfl), by repeat (first | (with_reducible first | exact HB.out | apply zzA | apply zzN | apply zzD | refine below_set ?_ GE251.out) | exact HB.out)⟩
               ·
                rw [if_neg c38] at H
                exact absurd (Option.some.inj H) (by rw [HR_.out]; decide)
              ·
               replace c37 := Bool.eq_false_iff.mpr c37
               subst c37
               have H1 : (some false) = some r := by rw [if_neg (show ¬ (false = true) by decide)] at H; exact H
               exact absurd (Option.some.inj H1) (by rw [HR_.out]; decide)
             ·
              rw [if_neg c35] at H
              exact absurd (Option.some.inj H) (by rw [HR_.out]; decide)
            ·
             rw [if_neg c34] at H
             exact absurd (Option.some.inj H) (by rw [HR_.out]; decide)
           ·
            rw [if_neg c33] at H
            exact absurd (Option.some.inj H) (by rw [HR_.out]; decide)
          ·
           replace c32 := Bool.eq_false_iff.mpr c32
           subst c32
           have H1 : (some false) = some r := by rw [if_neg (show ¬ (false = true) by decide)] at H; exact H
           exact absurd (Option.some.inj H1) (by rw [HR_.out]; decide)
         ·
          replace c30 := Bool.eq_false_iff.mpr c30
          subst c30
          have H1 : (some false) = some r := by rw [if_neg (show ¬ (false = true) by decide)] at H; exact H
          exact absurd (Option.some.inj H1) (by rw [HR_.out]; decide)
        ·
         rw [if_neg c28] at H
         exact absurd (Option.some.inj H) (by rw [HR_.out]; decide)
       ·
        rw [if_neg c27] at H
        exact absurd (Option.some.inj H) (by rw [HR_.out]; decide)
      ·
       rw [if_neg c26] at H
       exact absurd (Option.some.inj H) (by rw [HR_.out]; decide)
     ·
      replace c25 := Bool.eq_false_iff.mpr c25
      subst c25
      have H1 : (some false) = some r := by rw [if_neg (show ¬ (false = true) by decide)] at H; exact H
      exact absurd (Option.some.inj H1) (by rw [HR_.out]; decide)
    ·
     rw [if_neg c23] at H
     exact absurd (Option.some.inj H) (by rw [HR_.out]; decide)
   ·
    rw [if_neg c22] at H
    exact absurd (Option.some.inj H) (by rw [HR_.out]; decide)
  ·
   replace c9 := Bool.eq_false_iff.mpr c9
   subst c9
   have H1 : (some true) = some r := by rw [if_neg (show ¬ (false = true) by decide)] at H; exact H
   clear H
   have H := H1
   clear H1
   focus
    obtain rfl := Option.some.inj H
    go_enter Try.func4, Try.ntmps4
    go_wp2_with (first | ((with_reducible refine gate_dst (N := 8) rfl ?_); (try (refine gate_guard (by rfl) ?_; dsimp only)); refine box_event ?hg (N := 8) ?hd (cs := #[.slice A3_0 l3_0.length c3_0, .int .i64 a3_1]) (t := 26) ?hr ?_; (case hd => rfl); (case hg => rfl); (case hr => first | (go_simp; done) | (go_simp; rfl)); intro gb251 hg w446 hbox hb; have n0_ := Aside0.mk (Kd.V_below (Kd.V_elderB (by (with_reducible repeat (first | apply Kd.V_alloc | apply Kd.V_drewN | apply Kd.V_drew)); exact HO3_0.out) gb251 (Nat.le_of_eq hg.symm)) hb); have n1_ := Aside0.mk (zzT (by repeat (first | (with_reducible first | exact HB.out | apply zzA | apply zzN | apply zzD) | exact HB.out)) hb); have n2_ := Aside0.mk (hbox); have n3_ := Aside0.mk ((by rw [hg]; exact (zzS (by repeat (first | (with_reducible first | exact HB.out | apply zzA | apply zzN | apply zzD) | exact HB.out))) : w.heap.size ≤ gb251)); have n4_ := Aside0.mk ((by rw [hg]; exact (zzS (by repeat (first | (with_reducible first | exact HB.out | apply zzA | apply zzN | apply zzD) | exact HB.out))) : w.heap.size ≤ gb251)); clear HO3_0; clear HB; have HO3_0 := n0_; have HB := n1_; have BK251 := n2_; have GW251 := n3_; have GE251 := n4_; clear n0_ n1_ n2_ n3_ n4_; clear hb hbox hg) | ((with_reducible refine gate_callee (f := 8) rfl ?_); refine goesL_ (some 38) rfl rfl Try.func8 (by kernel_rfl) rfl #[] rfl (by (try simp only [List.map_toArray, List.map_cons, List.map_nil]); first | done | rfl | (simp only [List.length_drop, List.length_take]; rfl)) ?_; (with_reducible refine (thrumlaw16_live.calls  true _ A6.out).mono ?_); rintro e w447 ⟨rfl, hb⟩; refine ⟨_, rfl, ?_⟩; have n0_ := Aside0.mk (Kd.V_below (by (with_reducible repeat (first | apply Kd.V_alloc | apply Kd.V_drewN | apply Kd.V_drew)); exact HO3_0.out) hb); have n1_ := Aside0.mk (blk_below (g := gb251) (o := .cells #[.slice A3_0 l3_0.length c3_0, .int .i64 a3_1] 26 (0, 0)) (by (with_reducible repeat (first | refine kkN ?_ _ | refine kkD ?_ | refine kkA ?_ _)); exact BK251.out) hb); have n2_ := Aside0.mk (zzT (by repeat (first | (with_reducible first | exact HB.out | apply zzA | apply zzN | apply zzD | refine below_set ?_ GE251.out) | exact HB.out)) hb); clear HO3_0; clear BK251; clear HB; have HO3_0 := n0_; have BK251 := n1_; have HB := n2_; clear n0_ n1_ n2_; (try clear hb); (try clear hb2); (try clear hk); (try clear hi); have hcz448_0 : w447.cell? ⟨gb251, 0, none⟩ = some (.slice A3_0 l3_0.length c3_0) := (blk_cell BK251.out 0).trans rfl; have hcz448_1 : w447.cell? ⟨gb251, 1, none⟩ = some (.int .i64 a3_1) := (blk_cell BK251.out 1).trans rfl; have hfz448_0 := blk_frozen BK251.out 0; have hfz448_1 := blk_frozen BK251.out 1) | ((with_reducible refine gate_dst (N := 43) rfl ?_); (try (refine gate_guard (by rfl) ?_; dsimp only)); refine Kd.N_lit k26 _ 26 ?hg (N' := 43) ?hd (xs := ([(⟨l3_0, a3_1⟩ : S26)] : List (S26))) (inner := [.slice A3_0 l3_0.length c3_0, .int .i64 a3_1]) (ok := (fun k_ => (P3_0_ k_ ∨ w.heap.size ≤ k_) ∧ k_ ≠ gb251)) (okp := (fun k_ => (P3_0_ k_ ∨ w.heap.size ≤ k_) ∧ k_ ≠ gb251)) ?hr ?hp (fun _ hk => hk) ((show ∀ k_, w447.heap.size ≤ k_ → (fun k_ => (P3_0_ k_ ∨ w.heap.size ≤ k_) ∧ k_ ≠ gb251) k_ from fun k_ hk => ⟨(.inr (Nat.le_trans (zzS (by repeat (first | (with_reducible first | exact HB.out | apply zzA | apply zzN | apply zzD | refine below_set ?_ GE251.out) | exact HB.out))) hk)), Kd.freshB (g := gb251) (o := .cells #[.slice A3_0 l3_0.length c3_0, .int .i64 a3_1] 26 (0, 0)) (by (with_reducible repeat (first | refine kkN ?_ _ | refine kkD ?_ | refine kkA ?_ _)); exact BK251.out) k_ hk⟩) _ (Nat.le_refl _)) (Below.refl _ _) (Nat.le_refl _) (by simp) ?_; (case hd => rfl); (case hg => rfl); (case hr => first | (go_simp; done) | (go_simp; rfl)); (case hp => exact (Reps.c2 (show Kd.FK k26 _ _ (⟨l3_0, a3_1⟩ : S26) [.slice A3_0 l3_0.length c3_0, .int .i64 a3_1] from (k26_mkF _ _ (⟨l3_0, a3_1⟩ : S26) (Kd.V_reads' (Kd.V_mono (ok' := (fun k_ => (P3_0_ k_ ∨ w.heap.size ≤ k_) ∧ k_ ≠ gb251)) (HO3_0.out) (fun k_ hk => ⟨hk.1, hk.2⟩))).2.1 (Kd.V_F (base := w.heap.size) (e := 2) (Kd.V_mono (ok' := (fun k_ => (P3_0_ k_ ∨ w.heap.size ≤ k_) ∧ k_ ≠ gb251)) (HO3_0.out) (fun k_ hk => ⟨hk.1, hk.2⟩))))) (Reps.none _ _))); intro v254 w449 ho450 hb hg_ hnew_; clear hg_ hnew_; (first | rw [← Ny253.out] at ho450 | (simp only [Int.reduceToNat] at ho450; rw [← Ny253.out] at ho450)); have n0_ := Aside0.mk (Kd.V_elder' (by (with_reducible repeat (first | apply Kd.V_alloc | apply Kd.V_drewN | apply Kd.V_drew)); exact HO3_0.out) (Kd.N_base ho450) hb); have n1_ := Aside0.mk (Kd.N_lower ho450 (zzS (by repeat (first | (with_reducible first | exact HB.out | apply zzA | apply zzN | apply zzD | refine below_set ?_ GE251.out) | exact HB.out)))); have n2_ := Aside0.mk (blk_below (g := gb251) (o := .cells #[.slice A3_0 l3_0.length c3_0, .int .i64 a3_1] 26 (0, 0)) (by (with_reducible repeat (first | refine kkN ?_ _ | refine kkD ?_ | refine kkA ?_ _)); exact BK251.out) hb); have n3_ := Aside0.mk (zzT (by repeat (first | (with_reducible first | exact HB.out | apply zzA | apply zzN | apply zzD | refine below_set ?_ GE251.out) | exact HB.out)) hb); clear HO3_0; clear BK251; clear HB; have HO3_0 := n0_; have HO255 := n1_; have BK251 := n2_; have HB := n3_; clear n0_ n1_ n2_ n3_; clear hb ho450; obtain ⟨Ao451, co451, eo451⟩ := Kd.N_slice HO255.out; subst eo451) | ((with_reducible refine gate_callee (f := 9) rfl ?_); refine goesL_ (some 44) rfl rfl Try.func9 (by kernel_rfl) rfl #[.slice A2 l2.length c2, .slice Ao451 y253.length co451] rfl (by (try simp only [List.map_toArray, List.map_cons, List.map_nil]); first | done | rfl | (simp only [List.length_drop, List.length_take]; rfl)) ?_; (with_reducible refine (thrumref14_Few.calls _ _ l2 _ _ y253 false _ ?side1 ?side2 ?side3 ?side4 A8.out).mono ?_); (case side1 => repeat (first | exact (Kd.C_below HR2.out HB.out) | (with_reducible refine ccA ?_ _) | (with_reducible refine ccN ?_ _) | (with_reducible refine ccD ?_))); (case side2 => exact HC2.out); (case side3 => repeat (first | exact (Kd.N_reads' HO255.out).2.2 | (with_reducible refine ccA ?_ _) | (with_reducible refine ccN ?_ _) | (with_reducible refine ccD ?_))); (case side4 => exact (Kd.N_reads' HO255.out).2.1); rintro e w452 ⟨rfl, hb⟩; refine ⟨_, rfl, ?_⟩; have n0_ := Aside0.mk (Kd.V_below (by (with_reducible repeat (first | apply Kd.V_alloc | apply Kd.V_drewN | apply Kd.V_drew)); exact HO3_0.out) hb); have n1_ := Aside0.mk (Kd.N_below (by (with_reducible repeat (first | apply Kd.N_alloc | apply Kd.N_drewN | apply Kd.N_drew)); exact HO255.out) hb); have n2_ := Aside0.mk (blk_below (g := gb251) (o := .cells #[.slice A3_0 l3_0.length c3_0, .int .i64 a3_1] 26 (0, 0)) (by (with_reducible repeat (first | refine kkN ?_ _ | refine kkD ?_ | refine kkA ?_ _)); exact BK251.out) hb); have n3_ := Aside0.mk (zzT (by repeat (first | (with_reducible first | exact HB.out | apply zzA | apply zzN | apply zzD | refine below_set ?_ GE251.out) | exact HB.out)) hb); clear HO3_0; clear HO255; clear BK251; clear HB; have HO3_0 := n0_; have HO255 := n1_; have BK251 := n2_; have HB := n3_; clear n0_ n1_ n2_ n3_; (try clear hb); (try clear hb2); (try clear hk); (try clear hi)))
    go_ret
    exact ⟨by first | rfl | (simp [errW_none, errW_some] <;> rfl) | (simp [*, errW_none, errW_some] <;> rfl), by repeat (first | (with_reducible first | exact HB.out | apply zzA | apply zzN | apply zzD | refine below_set ?_ GE251.out) | exact HB.out)⟩
 ·
  replace c7 := Bool.eq_false_iff.mpr c7
  subst c7
  have H1 : (some false) = some r := by rw [if_neg (show ¬ (false = true) by decide)] at H; exact H
  exact absurd (Option.some.inj H1) (by rw [HR_.out]; decide)


end Go.Proofs.Ytalamamjodihaaa.HN
