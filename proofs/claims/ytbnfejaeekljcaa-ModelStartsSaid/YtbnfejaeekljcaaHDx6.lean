/- What Go functions do, each as a plain Lean function with the same answers, and the proof of it, in every world: printed by the session's driver over the kit's print, with texts by hand. -/
import Derived.Test.YtbnfejaeekljcaaHDx0
import Derived.Test.YtbnfejaeekljcaaHDx1
import Derived.Test.YtbnfejaeekljcaaHDx2
import Derived.Test.YtbnfejaeekljcaaHDx5
namespace Go.Proofs.Ytbnfejaeekljcaa.HD
open Go.RowKit Go.Proofs.YtbnfejaeekljcaaW.PrintWords Go.Proofs.YtbnfejaeekljcaaW.PrintLast Go.Proofs.YtbnfejaeekljcaaW.PrintMore
attribute [local go_sem] max2_int min2_int max_two min_two max_three min_three max_four min_four   -- for this text's walks alone
open Go.Proofs.Ytbnfejaeekljcaa.Sp
attribute [local go_sem] Go.Proofs.Ytbnfejaeekljcaa.Sp.u64_not
set_option linter.unusedVariables false
set_option linter.unusedSimpArgs false

/-! ### model_Fits: function 11 -/
def fitsK (k i o h f : Int) (w : List Int) (l : List (List Int × Int)) : Int := if (ofK k i o h f).2.2 ≠ 0 then (ofK k i o h f).2.2 else if k = 0 then checkL i w l else if k = 1 then checkS i o w l else checkM i h w l
def model_Fits.f (a0_0 a0_1 a0_2 a0_3 a0_4 : Int) (l1 : List Int) (l2 : List S37) : Option Int := some (fitsK a0_0 a0_1 a0_2 a0_3 a0_4 l1 (l2.map sm))
theorem ofK_good {k i o h f : Int} (c : (ofK k i o h f).2.2 = 0) : ¬ offK k o h f ∧ ((k = 0 ∧ ofK k i o h f = (.of 86 k i o h f, dimL i) ∧ (dimL i).2 = 0) ∨ (k = 1 ∧ ofK k i o h f = (.of 87 k i o h f, dimS i o) ∧ (dimS i o).2 = 0) ∨ (k = 2 ∧ ofK k i o h f = (.of 88 k i o h f, dimM i h) ∧ (dimM i h).2 = 0)) := by
  by_cases d : offK k o h f
  · rw [ofK_off d] at c; cases c
  · refine ⟨d, ?_⟩
    have hk : k = 0 ∨ k = 1 ∨ k = 2 := by unfold offK at d; omega
    unfold ofK at c ⊢
    rw [if_neg d] at c ⊢
    rcases hk with rfl | rfl | rfl
    · rw [if_pos rfl] at c ⊢; exact .inl ⟨rfl, rfl, c⟩
    · rw [if_neg (by decide), if_pos rfl] at c ⊢; exact .inr (.inl ⟨rfl, rfl, c⟩)
    · rw [if_neg (by decide), if_neg (by decide)] at c ⊢; exact .inr (.inr ⟨rfl, rfl, c⟩)
theorem model_straight_fits.is (k i o h f : Int) (w : List Int) (l : List S37) : model_straight_fits.f k i o h f w l = some (checkL i w (l.map sm)) := rfl
theorem model_classes_fits.is (k i o h f : Int) (w : List Int) (l : List S37) : model_classes_fits.f k i o h f w l = some (checkS i o w (l.map sm)) := rfl
theorem model_layers_fits.is (k i o h f : Int) (w : List Int) (l : List S37) : model_layers_fits.f k i o h f w l = some (checkM i h w (l.map sm)) := rfl
set_option maxHeartbeats 8000000 in
set_option maxRecDepth 100000 in
theorem model_Fits.calls (a0_0 : Int) (a0_1 : Int) (a0_2 : Int) (a0_3 : Int) (a0_4 : Int) (A1 : Option Addr) (c1 : Nat) (l1 : List Int) (A2 : Option Addr) (c2 : Nat) (l2 : List (S37)) (r : Int) (w : World) (hr1 : Kd.C (Kd.int .i64) w A1 l1.length l1) (hc1 : l1.length ≤ c1) (hr2 : Kd.C k37 w A2 l2.length l2) (hc2 : l2.length ≤ c2) (h : model_Fits.f a0_0 a0_1 a0_2 a0_3 a0_4 l1 l2 = some r) :
    Calls Try.prog 11 #[.agg #[.int .i64 a0_0, .int .i64 a0_1, .int .i64 a0_2, .int .i64 a0_3, .int .i64 a0_4], .slice A1 l1.length c1, .slice A2 l2.length c2] w fun e w' => e = .returned (.int .i64 r) ∧ Below w.heap.size w w' := by
  have h := Option.some.inj h
  have hu := Try.underlying23
  have HR1 := Aside0.mk hr1
  have HR2 := Aside0.mk hr2
  have HC1 := Aside0.mk hc1
  have HC2 := Aside0.mk hc2
  have HO := fun (K : KN) (d e : Int) (hof : ofK a0_0 a0_1 a0_2 a0_3 a0_4 = (K, d, e)) => Aside0.mk (fun W : World => model_of.calls a0_0 a0_1 a0_2 a0_3 a0_4 K d e W (congrArg some hof))
  have HB0 : Aside0 (Below w.heap.size w (w.alloc (.cells #[.int .i64 a0_0, .int .i64 a0_1, .int .i64 a0_2, .int .i64 a0_3, .int .i64 a0_4] 23))) := ⟨below_alloc (Below.refl _ _) _⟩
  clear hr1 hr2 hc1 hc2
  unfold fitsK at h
  by_cases c : (ofK a0_0 a0_1 a0_2 a0_3 a0_4).2.2 = 0
  · rw [if_neg (not_not_intro c)] at h
    obtain ⟨-, g⟩ := ofK_good c
    clear c
    rcases g with ⟨rfl, g, g2⟩ | ⟨rfl, g, g2⟩ | ⟨rfl, g, g2⟩

    · rw [if_pos rfl] at h
      generalize dimL a0_1 = dm at g g2
      obtain ⟨d, e⟩ := dm
      obtain rfl : e = 0 := g2
      have HO := HO _ _ _ g
      simp only [knW] at HO
      have hme : ∀ (n : Nat) (k i o h f : Int) (W : World), (method (n + 1) 86 (.agg #[.int .i64 k, .int .i64 i, .int .i64 o, .int .i64 h, .int .i64 f]) "thrum/model.fits").run Try.prog W = .ok (117, .agg #[.int .i64 k, .int .i64 i, .int .i64 o, .int .i64 h, .int .i64 f]) W := fun _ _ _ _ _ _ _ => by kernel_rfl
      have HF := Aside0.mk (fun (W : World) h1 h2 => model_straight_fits.calls 0 a0_1 a0_2 a0_3 a0_4 A1 c1 l1 A2 c2 l2 r W h1 HC1.out h2 HC2.out ((model_straight_fits.is 0 a0_1 a0_2 a0_3 a0_4 l1 l2).trans (congrArg some h)))
      clear g h
      go_enter Try.func11, Try.ntmps11
      go_wp2_with (first | (go_at_call 23; refine (HO.out _).mono ?_; rintro e_ W1 ⟨rfl, hb⟩; have HB1 := Aside0.mk (below_then HB0.out HB0.out.size hb); clear hb) | (go_at_call 117; refine (HF.out _ (Kd.C_below HR1.out HB1.out) (Kd.C_below HR2.out HB1.out)).mono ?_; rintro e_ W2 ⟨rfl, hb⟩; have HB2 := Aside0.mk (below_then HB1.out HB1.out.size hb); clear hb))
      go_ret
      exact ⟨rfl, HB2.out⟩

    · rw [if_neg (by decide), if_pos rfl] at h
      generalize dimS a0_1 a0_2 = dm at g g2
      obtain ⟨d, e⟩ := dm
      obtain rfl : e = 0 := g2
      have HO := HO _ _ _ g
      simp only [knW] at HO
      have hme : ∀ (n : Nat) (k i o h f : Int) (W : World), (method (n + 1) 87 (.agg #[.int .i64 k, .int .i64 i, .int .i64 o, .int .i64 h, .int .i64 f]) "thrum/model.fits").run Try.prog W = .ok (122, .agg #[.int .i64 k, .int .i64 i, .int .i64 o, .int .i64 h, .int .i64 f]) W := fun _ _ _ _ _ _ _ => by kernel_rfl
      have HF := Aside0.mk (fun (W : World) h1 h2 => model_classes_fits.calls 1 a0_1 a0_2 a0_3 a0_4 A1 c1 l1 A2 c2 l2 r W h1 HC1.out h2 HC2.out ((model_classes_fits.is 1 a0_1 a0_2 a0_3 a0_4 l1 l2).trans (congrArg some h)))
      clear g h
      go_enter Try.func11, Try.ntmps11
      go_wp2_with (first | (go_at_call 23; refine (HO.out _).mono ?_; rintro e_ W1 ⟨rfl, hb⟩; have HB1 := Aside0.mk (below_then HB0.out HB0.out.size hb); clear hb) | (go_at_call 122; refine (HF.out _ (Kd.C_below HR1.out HB1.out) (Kd.C_below HR2.out HB1.out)).mono ?_; rintro e_ W2 ⟨rfl, hb⟩; have HB2 := Aside0.mk (below_then HB1.out HB1.out.size hb); clear hb))
      go_ret
      exact ⟨rfl, HB2.out⟩

    · rw [if_neg (by decide), if_neg (by decide)] at h
      generalize dimM a0_1 a0_3 = dm at g g2
      obtain ⟨d, e⟩ := dm
      obtain rfl : e = 0 := g2
      have HO := HO _ _ _ g
      simp only [knW] at HO
      have hme : ∀ (n : Nat) (k i o h f : Int) (W : World), (method (n + 1) 88 (.agg #[.int .i64 k, .int .i64 i, .int .i64 o, .int .i64 h, .int .i64 f]) "thrum/model.fits").run Try.prog W = .ok (126, .agg #[.int .i64 k, .int .i64 i, .int .i64 o, .int .i64 h, .int .i64 f]) W := fun _ _ _ _ _ _ _ => by kernel_rfl
      have HF := Aside0.mk (fun (W : World) h1 h2 => model_layers_fits.calls 2 a0_1 a0_2 a0_3 a0_4 A1 c1 l1 A2 c2 l2 r W h1 HC1.out h2 HC2.out ((model_layers_fits.is 2 a0_1 a0_2 a0_3 a0_4 l1 l2).trans (congrArg some h)))
      clear g h
      go_enter Try.func11, Try.ntmps11
      go_wp2_with (first | (go_at_call 23; refine (HO.out _).mono ?_; rintro e_ W1 ⟨rfl, hb⟩; have HB1 := Aside0.mk (below_then HB0.out HB0.out.size hb); clear hb) | (go_at_call 126; refine (HF.out _ (Kd.C_below HR1.out HB1.out) (Kd.C_below HR2.out HB1.out)).mono ?_; rintro e_ W2 ⟨rfl, hb⟩; have HB2 := Aside0.mk (below_then HB1.out HB1.out.size hb); clear hb))
      go_ret
      exact ⟨rfl, HB2.out⟩

  · rw [if_pos c] at h
    obtain ⟨⟨K, d, e⟩, hK⟩ : ∃ z, ofK a0_0 a0_1 a0_2 a0_3 a0_4 = z := ⟨_, rfl⟩
    have HO := HO _ _ _ hK
    rw [hK] at h c
    dsimp only at h c
    subst h
    have he1 : (e != 0) = true := bne_iff_ne.2 c
    clear hK c
    go_enter Try.func11, Try.ntmps11
    go_wp2_with (first | (go_at_call 23; refine (HO.out _).mono ?_; rintro e_ W1 ⟨rfl, hb⟩; have HB1 := Aside0.mk (below_then HB0.out HB0.out.size hb); clear hb))
    go_ret
    exact ⟨rfl, HB1.out⟩
































































































































































































































































































































































































































































































































end Go.Proofs.Ytbnfejaeekljcaa.HD
