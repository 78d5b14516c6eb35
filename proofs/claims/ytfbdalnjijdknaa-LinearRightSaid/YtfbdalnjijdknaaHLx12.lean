/- What Go functions do, each as a plain Lean function with the same answers, and the proof of it, in every world: printed by the session's driver over the kit's print, with texts by hand. -/
import Derived.Test.YtfbdalnjijdknaaHLx0
import Derived.Test.YtfbdalnjijdknaaHLx1
import Derived.Test.YtfbdalnjijdknaaHLx2
import Derived.Test.YtfbdalnjijdknaaHLx3
import Derived.Test.YtfbdalnjijdknaaHLx5
import Derived.Test.YtfbdalnjijdknaaHLx11
namespace Go.Proofs.Ytfbdalnjijdknaa.HL
open Go.RowKit Go.Proofs.YtfbdalnjijdknaaW.PrintWords Go.Proofs.YtfbdalnjijdknaaW.PrintLast Go.Proofs.YtfbdalnjijdknaaW.PrintMore
attribute [local go_sem] max2_int min2_int max_two min_two max_three min_three max_four min_four   -- for this text's walks alone
open Go.Proofs.Ytfbdalnjijdknaa.Sp
attribute [local go_sem] Go.Proofs.Ytfbdalnjijdknaa.Sp.u64_not
set_option linter.unusedVariables false
set_option linter.unusedSimpArgs false

/-! ### linear_walk: function 127 -/
/-- What a walk through samples comes to. -/
def walkGo {σ α : Type} (off : α → Int × Int) (stp : σ → α → Int → σ × Int) : List α → σ → σ × Int
  | [], s => (s, 0)
  | x :: l, s => if (off x).2 = 0 then (if (stp s x (off x).1).2 = 0 then walkGo off stp l (stp s x (off x).1).1 else stp s x (off x).1) else (s, (off x).2)
def walkF {σ : Type} (w : List Int) (f : Int) (l : List S26) (stp : σ → S26 → Int → σ × Int) (s : σ) : σ × Int :=
  if checkL (wrap64 ((w.length : Int) - 1)) w (l.map sm) = 0 then walkGo (fun x : S26 => offL w x.f0 x.f1 f) stp l s else (s, checkL (wrap64 ((w.length : Int) - 1)) w (l.map sm))
set_option maxHeartbeats 4000000 in
set_option maxRecDepth 100000 in
theorem linear_walk.calls {σ : Type} (K : Nat) (caps : Array Value) (I : Nat → World → σ → Prop) (stp : σ → S26 → Int → σ × Int) (A0 : Option Addr) (c0 : Nat) (l0 : List Int) (a1 : Int) (A2 : Option Addr) (c2 : Nat) (l2 : List S26) (w0 w : World) (s0 sf : σ) (ef : Int)
    (hent : ∀ (args : Array Value) (w : World), (callFunc K args).run Try.prog w = .ok (.enter K args) w)
    (hr0 : Kd.C (Kd.int .i64) w0 A0 l0.length l0) (hc0 : l0.length ≤ c0) (hr2 : Kd.C k26 w0 A2 l2.length l2) (hc2 : l2.length ≤ c2) (hv : V64 l0 ∧ ∀ s ∈ l2, Sm64 s)
    (hB : Below w0.heap.size w0 w) (hI : I 0 w s0) (hst : ∀ k W W' s, I k W s → Below W.heap.size W W' → I k W' s)
    (hK : ∀ k W s (x : S26) A c o, k < l2.length → l2.length ≤ 64 → Sm64 x → I64 o → Below w0.heap.size w0 W → I k W s → Kd.C (Kd.int .i64) W A x.f0.length x.f0 → x.f0.length ≤ c →
      Calls Try.prog K (#[.agg #[.slice A x.f0.length c, .int .i64 x.f1], .int .i64 o] ++ caps) W fun ed W' => ed = .returned (.int .i64 (stp s x o).2) ∧ I (k + 1) W' (stp s x o).1 ∧ Below w0.heap.size w0 W')
    (h : walkF l0 a1 l2 stp s0 = (sf, ef)) :
    Calls Try.prog 127 #[.slice A0 l0.length c0, .int .i64 a1, .slice A2 l2.length c2, .func (.func K) #[] caps] w fun e w' => e = .returned (.int .i64 ef) ∧ (∃ k, I k w' sf) ∧ Below w0.heap.size w0 w' := by
  have hu := Try.underlying26
  have HR0 := Aside0.mk hr0
  have HC0 := Aside0.mk hc0
  have HR2 := Aside0.mk hr2
  have HC2 := Aside0.mk hc2
  have HB := Aside0.mk hB
  have HI := Aside0.mk hI
  have HK := Aside0.mk hK
  have HST := Aside0.mk hst
  have HV := Aside0.mk hv
  have hmx := Kd.C_max hr2
  have HM := Aside0.mk hmx
  obtain ⟨ce, hce⟩ : ∃ c, checkL (wrap64 ((l0.length : Int) - 1)) l0 (l2.map sm) = c := ⟨_, rfl⟩
  have A3 : Aside0 (linear_Check.f (wrap64 ((l0.length : Int) - 1)) l0 l2 = some ce) := ⟨congrArg some hce⟩
  have hlen : ce = 0 → l2.length ≤ 64 := fun e => by have := (checkL_len (hce.trans e)).2.2.2.2.2; rwa [List.length_map] at this
  have HL := Aside0.mk hlen
  unfold walkF at h
  rw [hce] at h
  have hstart : (if ce = 0 then walkGo (fun x : S26 => offL l0 x.f0 x.f1 a1) stp l2 s0 else (s0, ce)) = (sf, ef) := h
  have HG := Aside0.mk hstart
  clear hr0 hc0 hr2 hc2 hB hI hK hst hv hmx h hstart hlen hce
  go_enter Try.func127, Try.ntmps127
  go_wp2_with (go_at_call 69; (with_reducible refine (linear_Check.calls (wrap64 ((l0.length : Int) - 1)) A0 c0 l0 A2 c2 l2 ce _ (Kd.C_below HR0.out HB.out) HC0.out (Kd.C_below HR2.out HB.out) HC2.out A3.out).mono ?_); rintro ed W1 ⟨rfl, hb⟩; have n0 := Aside0.mk (below_then HB.out HB.out.size hb); have n1 := Aside0.mk (HST.out _ _ _ _ HI.out hb); clear HB HI hb; have HB := n0; have HI := n1; clear n0 n1)
  go_loopw [9, 21] (fun ve vi W => ∃ (k j : Nat) (e : Int) (s : σ), ve = .int .i64 e ∧ vi = .int .i64 k ∧ Aside0 (k ≤ l2.length) ∧ Aside0 (e = 0 → j = k) ∧ Aside0 (e = 0 → l2.length ≤ 64) ∧ Aside0 (I j W s) ∧ Aside0 ((if e = 0 then walkGo (fun x : S26 => offL l0 x.f0 x.f1 a1) stp (l2.drop k) s else (s, e)) = (sf, ef)) ∧ Aside0 (Below w0.heap.size w0 W)) (fun _ i _ => l2.length - (intOf i).toNat)
  case atStart => exact ⟨0, 0, ce, s0, rfl, rfl, ⟨Nat.zero_le _⟩, ⟨fun _ => rfl⟩, HL, HI, ⟨by rw [List.drop_zero]; exact HG.out⟩, HB⟩
  case round =>
    obtain ⟨k, j, e, s, rfl, rfl, ⟨hk⟩, HJ, HL, HI, ⟨hgo⟩, HB⟩ := hrel
    clear HG
    by_cases hlt : k < l2.length
    · have hM := HM.out
      obtain ⟨ad, A, c, rfl, hx0, hx1, hl, hi⟩ := at_T26 HR2.out (k : Int) (by omega) (by omega)
      obtain ⟨x, hx⟩ : ∃ x, rd_T26 l2 (k : Int) = x := ⟨_, rfl⟩
      have hmem : l2[k] = x := (rd_sm hlt).symm.trans hx
      rw [hx] at hx0 hx1 hl hi
      simp only [Int.toNat_natCast] at hx0 hx1
      replace hx0 := (HB.out.cell (World.block_lt_of_cell? _ _ hx0)).trans hx0
      replace hx1 := (HB.out.cell (World.block_lt_of_cell? _ _ hx1)).trans hx1
      have HRX := Aside0.mk hi
      have HCX := Aside0.mk hl
      have hsx : Sm64 x := by rw [← hmem]; exact HV.out.2 _ (List.getElem_mem hlt)
      have HSX := Aside0.mk hsx
      have HLT := Aside0.mk hlt
      have HW := Aside0.mk (Below.refl wr.heap.size wr)
      rw [List.drop_eq_getElem_cons hlt, hmem] at hgo
      clear hl hi hsx hx hmem hk
      by_cases he : e = 0
      · subst he
        rw [if_pos rfl] at hgo
        obtain rfl := HJ.out rfl
        have HL64 := Aside0.mk (HL.out rfl)
        clear HL HJ
        obtain ⟨⟨o, oe⟩, ho⟩ : ∃ p, offL l0 x.f0 x.f1 a1 = p := ⟨_, rfl⟩
        have hoi := offL_i64 l0 x.f0 x.f1 a1
        rw [ho] at hoi
        have HOI := Aside0.mk hoi
        have A5 : Aside0 (linear_Off.f l0 x.f0 x.f1 a1 = some (o, oe)) := ⟨(linear_Off.of _ _ _ _ ⟨HV.out.1, HSX.out.1, HSX.out.2⟩).trans (congrArg some ho)⟩
        unfold walkGo at hgo
        simp only [ho] at hgo
        clear ho hoi
        by_cases hoe : oe = 0
        · subst hoe
          rw [if_pos rfl] at hgo
          have HG := Aside0.mk hgo
          clear hgo
          go_wp2_with (first | ((with_reducible refine gate_dst (N := 11) rfl ?_); refine box_event ?hg (N := 11) ?hd (cs := #[.slice none 0 0, .int .i64 0]) (t := 26) ?hr ?_; (case hd => rfl); (case hg => rfl); (case hr => first | (go_simp; done) | (go_simp; rfl)); intro gb hg w1 hbox hb; have GE : Aside0 (wr.heap.size ≤ gb) := ⟨by rw [hg]; exact HW.out.size⟩; have n0 := Aside0.mk (((below_then HW.out HW.out.size hb).setCell (p := ⟨gb, 0, none⟩) GE.out (.slice A x.f0.length c)).setCell (p := ⟨gb, 1, none⟩) GE.out (.int .i64 x.f1)); have BK := Aside0.mk (blk_put (cs := #[.slice A x.f0.length c, .int .i64 0]) (blk_put (cs := #[.slice none 0 0, .int .i64 0]) hbox 0 (.slice A x.f0.length c) rfl) 1 (.int .i64 x.f1) (cs' := #[.slice A x.f0.length c, .int .i64 x.f1]) rfl); have hz0 : w1.cell? ⟨gb, 0, none⟩ = some (.slice none 0 0) := (blk_cell hbox 0).trans rfl; have hz1 : w1.cell? ⟨gb, 1, none⟩ = some (.int .i64 0) := (blk_cell hbox 1).trans rfl; have hf0 := blk_frozen hbox 0; have hf1 := blk_frozen hbox 1; clear HW; have HW := n0; clear n0 hb hbox hg) | (go_at_call 63; (with_reducible refine (linear_Off.calls A0 c0 l0 A c x.f0 x.f1 a1 o 0 _ (Kd.C_below HR0.out (below_then HB.out HB.out.size HW.out)) HC0.out (Kd.C_below HRX.out (below_then HB.out HB.out.size HW.out)) HCX.out A5.out).mono ?_); rintro ed W2 ⟨rfl, hb⟩; have n0 := Aside0.mk (below_then HW.out HW.out.size hb); have BK := Aside0.mk (blk_below BK.out hb); clear HW hb; have HW := n0; clear n0; have hz0 : W2.cell? ⟨gb, 0, none⟩ = some (.slice A x.f0.length c) := (blk_cell BK.out 0).trans rfl; have hz1 : W2.cell? ⟨gb, 1, none⟩ = some (.int .i64 x.f1) := (blk_cell BK.out 1).trans rfl) | (go_at_fn K; refine (HK.out j _ s x A c o HLT.out HL64.out HSX.out HOI.out (below_then HB.out HB.out.size HW.out) (HST.out _ _ _ _ HI.out HW.out) (Kd.C_below HRX.out (below_then HB.out HB.out.size HW.out)) HCX.out).mono ?_; rintro ed W3 ⟨rfl, hi3, hb3⟩; have HI3 := Aside0.mk hi3; have HB3 := Aside0.mk hb3; clear hi3 hb3))
          refine ⟨⟨j + 1, j + 1, (stp s x o).2, (stp s x o).1, rfl, by first | rfl | (rw [wrap64_of (show I64 ((j : Int) + 1) by unfold I64; omega)]; rfl), ⟨HLT.out⟩, ⟨fun _ => rfl⟩, ⟨fun _ => HL64.out⟩, HI3, ⟨?_⟩, HB3⟩, by have := HLT.out; have := HM.out; (try rw [wrap64_of (show I64 ((j : Int) + 1) by unfold I64; omega)]); simp [intOf]; omega⟩
          have hG := HG.out
          by_cases hse : (stp s x o).2 = 0
          · rw [if_pos hse] at hG ⊢; exact hG
          · rw [if_neg hse] at hG ⊢; exact hG
        · rw [if_neg hoe] at hgo
          have HG := Aside0.mk hgo
          have he0 : (oe == 0) = false := beq_eq_false_iff_ne.2 hoe
          have he1 : (oe != 0) = true := bne_iff_ne.2 hoe
          have HOE := Aside0.mk hoe
          clear hgo hoe
          go_wp2_with (first | ((with_reducible refine gate_dst (N := 11) rfl ?_); refine box_event ?hg (N := 11) ?hd (cs := #[.slice none 0 0, .int .i64 0]) (t := 26) ?hr ?_; (case hd => rfl); (case hg => rfl); (case hr => first | (go_simp; done) | (go_simp; rfl)); intro gb hg w1 hbox hb; have GE : Aside0 (wr.heap.size ≤ gb) := ⟨by rw [hg]; exact HW.out.size⟩; have n0 := Aside0.mk (((below_then HW.out HW.out.size hb).setCell (p := ⟨gb, 0, none⟩) GE.out (.slice A x.f0.length c)).setCell (p := ⟨gb, 1, none⟩) GE.out (.int .i64 x.f1)); have BK := Aside0.mk (blk_put (cs := #[.slice A x.f0.length c, .int .i64 0]) (blk_put (cs := #[.slice none 0 0, .int .i64 0]) hbox 0 (.slice A x.f0.length c) rfl) 1 (.int .i64 x.f1) (cs' := #[.slice A x.f0.length c, .int .i64 x.f1]) rfl); have hz0 : w1.cell? ⟨gb, 0, none⟩ = some (.slice none 0 0) := (blk_cell hbox 0).trans rfl; have hz1 : w1.cell? ⟨gb, 1, none⟩ = some (.int .i64 0) := (blk_cell hbox 1).trans rfl; have hf0 := blk_frozen hbox 0; have hf1 := blk_frozen hbox 1; clear HW; have HW := n0; clear n0 hb hbox hg) | (go_at_call 63; (with_reducible refine (linear_Off.calls A0 c0 l0 A c x.f0 x.f1 a1 o oe _ (Kd.C_below HR0.out (below_then HB.out HB.out.size HW.out)) HC0.out (Kd.C_below HRX.out (below_then HB.out HB.out.size HW.out)) HCX.out A5.out).mono ?_); rintro ed W2 ⟨rfl, hb⟩; have n0 := Aside0.mk (below_then HW.out HW.out.size hb); have BK := Aside0.mk (blk_below BK.out hb); clear HW hb; have HW := n0; clear n0; have hz0 : W2.cell? ⟨gb, 0, none⟩ = some (.slice A x.f0.length c) := (blk_cell BK.out 0).trans rfl; have hz1 : W2.cell? ⟨gb, 1, none⟩ = some (.int .i64 x.f1) := (blk_cell BK.out 1).trans rfl))
          exact ⟨⟨j + 1, j, oe, s, rfl, by first | rfl | (rw [wrap64_of (show I64 ((j : Int) + 1) by unfold I64; omega)]; rfl), ⟨HLT.out⟩, ⟨fun h => absurd h HOE.out⟩, ⟨fun h => absurd h HOE.out⟩, ⟨HST.out _ _ _ _ HI.out HW.out⟩, ⟨by rw [if_neg HOE.out]; exact HG.out⟩, ⟨below_then HB.out HB.out.size HW.out⟩⟩, by have := HLT.out; have := HM.out; (try rw [wrap64_of (show I64 ((j : Int) + 1) by unfold I64; omega)]); simp [intOf]; omega⟩
      · rw [if_neg he] at hgo
        have HG := Aside0.mk hgo
        have he0 : (e == 0) = false := beq_eq_false_iff_ne.2 he
        have he1 : (e != 0) = true := bne_iff_ne.2 he
        have HE := Aside0.mk he
        clear hgo he
        go_wp2_with ((with_reducible refine gate_dst (N := 11) rfl ?_); refine box_event ?hg (N := 11) ?hd (cs := #[.slice none 0 0, .int .i64 0]) (t := 26) ?hr ?_; (case hd => rfl); (case hg => rfl); (case hr => first | (go_simp; done) | (go_simp; rfl)); intro gb hg w1 hbox hb; have GE : Aside0 (wr.heap.size ≤ gb) := ⟨by rw [hg]; exact HW.out.size⟩; have n0 := Aside0.mk (((below_then HW.out HW.out.size hb).setCell (p := ⟨gb, 0, none⟩) GE.out (.slice A x.f0.length c)).setCell (p := ⟨gb, 1, none⟩) GE.out (.int .i64 x.f1)); have BK := Aside0.mk (blk_put (cs := #[.slice A x.f0.length c, .int .i64 0]) (blk_put (cs := #[.slice none 0 0, .int .i64 0]) hbox 0 (.slice A x.f0.length c) rfl) 1 (.int .i64 x.f1) (cs' := #[.slice A x.f0.length c, .int .i64 x.f1]) rfl); have hz0 : w1.cell? ⟨gb, 0, none⟩ = some (.slice none 0 0) := (blk_cell hbox 0).trans rfl; have hz1 : w1.cell? ⟨gb, 1, none⟩ = some (.int .i64 0) := (blk_cell hbox 1).trans rfl; have hf0 := blk_frozen hbox 0; have hf1 := blk_frozen hbox 1; clear HW; have HW := n0; clear n0 hb hbox hg)
        exact ⟨⟨k + 1, j, e, s, rfl, by first | rfl | (rw [wrap64_of (show I64 ((k : Int) + 1) by unfold I64; omega)]; rfl), ⟨HLT.out⟩, ⟨fun h => absurd h HE.out⟩, ⟨fun h => absurd h HE.out⟩, ⟨HST.out _ _ _ _ HI.out HW.out⟩, ⟨by rw [if_neg HE.out]; exact HG.out⟩, ⟨below_then HB.out HB.out.size HW.out⟩⟩, by have := HLT.out; have := HM.out; (try rw [wrap64_of (show I64 ((k : Int) + 1) by unfold I64; omega)]); simp [intOf]; omega⟩
    · have hkn : k = l2.length := by omega
      subst hkn
      rw [List.drop_length] at hgo
      have hef : e = ef ∧ s = sf := by
        by_cases he : e = 0
        · rw [if_pos he] at hgo; cases hgo; exact ⟨he, rfl⟩
        · rw [if_neg he] at hgo; cases hgo; exact ⟨rfl, rfl⟩
      obtain ⟨rfl, rfl⟩ := hef
      clear hgo hk
      go_wp2
      go_ret
      exact ⟨rfl, ⟨_, HI.out⟩, HB.out⟩


-- NOT PRINTED: function 135 (vec_Scale_1)

/-! ### vec_Scale: function 75 -/
set_option maxHeartbeats 2000000 in
set_option maxRecDepth 100000 in
theorem vec_Scale_1.calls (b1 b2 b3 : Nat) (A0 : Option Addr) (c0 : Nat) (l0 : List Int) (a1 : Int) (a2 : Int) (i : Nat) (W : World) (x e : Int)
    (hb1 : W.cell? ⟨b1, 0, none⟩ = some (.slice A0 l0.length c0)) (hb2 : W.cell? ⟨b2, 0, none⟩ = some (.int .i64 a1)) (hb3 : W.cell? ⟨b3, 0, none⟩ = some (.int .i64 a2))
    (hr0 : Kd.C (Kd.int .i64) W A0 l0.length l0) (h0 : i < l0.length)
    (h : fix_Mul.f (rd l0 i) a1 a2 = some (x, e)) :
    Calls Try.prog 135 #[.int .i64 i, .pointer (some ⟨b1, 0, none⟩), .pointer (some ⟨b2, 0, none⟩), .pointer (some ⟨b3, 0, none⟩)] W fun ed W' => ed = .returned (.tuple #[.int .i64 x, .int .i64 e]) ∧ Below W.heap.size W W' := by
  obtain ⟨ad0, rfl, hc0⟩ := Kd.at_int hr0 (i : Int) (by omega) (by omega)
  simp only [Int.toNat_natCast] at hc0
  have HC := Aside0.mk h
  clear hr0 h
  go_enter Try.func135, Try.ntmps135
  go_wp2
  go_region_held3 (fun w' => w'.cell? ⟨b1, 0, none⟩ = some (.slice (some ad0) l0.length c0) ∧ w'.cell? ⟨b2, 0, none⟩ = some (.int .i64 a1) ∧ w'.cell? ⟨b3, 0, none⟩ = some (.int .i64 a2) ∧ w'.cell? (ad0.add i) = some (.int .i64 (rd l0 i)))
    (first | go_keep | (go_split_ands; exact ⟨pw_cell_below hb (by assumption), pw_cell_below hb (by assumption), pw_cell_below hb (by assumption), pw_cell_below hb (by assumption)⟩))
    ((go_at_call 131; (with_reducible refine (fix_Mul.calls (rd l0 i) a1 a2 x e _ HC.out).mono ?_); rintro ed W2 ⟨rfl, hb⟩))
  go_wp2
  go_ret2
  exact ⟨rfl, below_then (below_drew (Below.refl _ _)) (Nat.le_refl _) hb⟩
def vec_Scale.f (l0 : List Int) (a1 a2 : Int) : Option (List Int × Int) := if V64 l0 ∧ I64 a1 then some (scaleV l0 a1 a2) else none
theorem vec_Scale.of (l0 : List Int) (a1 a2 : Int)  (h_ : V64 l0 ∧ I64 a1) : vec_Scale.f l0 a1 a2 = some (scaleV l0 a1 a2) := if_pos h_
set_option maxHeartbeats 2000000 in
set_option maxRecDepth 100000 in
theorem vec_Scale.calls (A0 : Option Addr) (c0 : Nat) (l0 : List Int) (a1 : Int) (a2 : Int) (r1 : List Int) (r2 : Int) (w : World) (hr0 : Kd.C (Kd.int .i64) w A0 l0.length l0) (hc0 : l0.length ≤ c0) (h : vec_Scale.f l0 a1 a2 = some (r1, r2)) :
    Calls Try.prog 75 #[.slice A0 l0.length c0, .int .i64 a1, .int .i64 a2] w fun e w' => ∃ v0_ : Value, e = .returned (.tuple #[v0_, .int .i64 r2]) ∧ Kd.R (Kd.int .i64) 2 w' w.heap.size (fun _ => True) v0_ r1 ∧ Below w.heap.size w w' := by
  unfold vec_Scale.f at h
  split at h
  case isFalse => cases h
  rename_i hv
  have h := Option.some.inj h
  unfold scaleV at h
  have HR0 := Aside0.mk hr0
  have HC0 := Aside0.mk hc0
  clear hr0 hc0
  have HV := Aside0.mk hv
  clear hv
  try have hu22 := Try.underlying22
  try have hu2 := Try.underlying2
  try have hu3 := Try.underlying3
  have HP0 : Aside0 (vec_Check.f l0 = some (checkE l0)) := ⟨vec_Check.of l0⟩
  by_cases hp0 : checkE l0 = 0
  · rw [if_pos hp0] at h
    rw [hp0] at HP0
    have HP1 : Aside0 (vec_behind.f a2 = some (fracE a2)) := ⟨vec_behind.of a2⟩
    by_cases hp1 : fracE a2 = 0
    · rw [if_pos hp1] at h
      rw [hp1] at HP1
      have HN : Aside0 (l0.length ≤ 4096) := ⟨checkE_le hp0⟩
      have HH := Aside0.mk h
      clear h hp0 hp1
      have HX0 : Aside0 ((((w.alloc (Obj.cells #[Value.slice A0 l0.length c0] 22)).alloc (Obj.cells #[Value.int .i64 a1] 2)).alloc (Obj.cells #[Value.int .i64 a2] 3)).cell? ⟨w.heap.size, 0, none⟩ = some (.slice A0 l0.length c0)) := ⟨by simp [go_sem]⟩
      have HX1 : Aside0 ((((w.alloc (Obj.cells #[Value.slice A0 l0.length c0] 22)).alloc (Obj.cells #[Value.int .i64 a1] 2)).alloc (Obj.cells #[Value.int .i64 a2] 3)).cell? ⟨w.heap.size + 1, 0, none⟩ = some (.int .i64 a1)) := ⟨by simp [go_sem]⟩
      have HX2 : Aside0 ((((w.alloc (Obj.cells #[Value.slice A0 l0.length c0] 22)).alloc (Obj.cells #[Value.int .i64 a1] 2)).alloc (Obj.cells #[Value.int .i64 a2] 3)).cell? ⟨w.heap.size + 2, 0, none⟩ = some (.int .i64 a2)) := ⟨by simp [go_sem]⟩
      have HB : Aside0 (Below w.heap.size w (((w.alloc (Obj.cells #[Value.slice A0 l0.length c0] 22)).alloc (Obj.cells #[Value.int .i64 a1] 2)).alloc (Obj.cells #[Value.int .i64 a2] 3))) := ⟨below_alloc (below_alloc (below_alloc (Below.refl _ _) _) _) _⟩
      go_enter Try.func75, Try.ntmps75
      go_wp2_with (first | (go_at_call 110; (with_reducible refine (vec_Check.calls A0 c0 l0 0 _ (Kd.C_below HR0.out HB.out) HC0.out HP0.out).mono ?_); rintro ed W1 ⟨rfl, hd⟩; have hb := hd.below; clear hd; have HB := Aside0.mk (below_then HB.out HB.out.size hb); have HX0 := Aside0.mk (pw_cell_below hb HX0.out); have HX1 := Aside0.mk (pw_cell_below hb HX1.out); have HX2 := Aside0.mk (pw_cell_below hb HX2.out); have hx0 := HX0.out; have hx1 := HX1.out; have hx2 := HX2.out; clear hb) | (go_at_call 133; (with_reducible refine (vec_behind.calls a2 0 _ HP1.out).mono ?_); rintro ed W1 ⟨rfl, hd⟩; have hb := hd; clear hd; have HB := Aside0.mk (below_then HB.out HB.out.size hb); have HX0 := Aside0.mk (pw_cell_below hb HX0.out); have HX1 := Aside0.mk (pw_cell_below hb HX1.out); have HX2 := Aside0.mk (pw_cell_below hb HX2.out); have hx0 := HX0.out; have hx1 := HX1.out; have hx2 := HX2.out; clear hb) | (go_at_call 134; (with_reducible refine (vec_each.calls 135 _ (fun i : Nat => fix_Mul.f (rd l0 i) a1 a2) l0.length (by have := HN.out; omega) _ r1 r2 ?ent ?tells ?go).mono ?_); (case ent => exact enters_of Try.func135 rfl rfl); (case tells => intro i W x e hi hb hg; refine (vec_Scale_1.calls (w.heap.size) (w.heap.size + 1) (w.heap.size + 2) A0 c0 l0 a1 a2 i W x e (pw_cell_below hb HX0.out) (pw_cell_below hb HX1.out) (pw_cell_below hb HX2.out) (Kd.C_below (Kd.C_below HR0.out HB.out) hb) (by omega) hg).mono ?_; rintro ed W' ⟨rfl, hd⟩; exact ⟨rfl, hd⟩); (case go => exact (each_spec (ps := l0.map fun x => mulF x a1 a2) (List.length_map _) (fun j h => by rw [map_get _ j h]; exact fix_Mul.of _ _ _ ⟨HV.out.1.rd _, HV.out.2⟩)).trans (congrArg some HH.out)); rintro ed W2 ⟨v_, rfl, hR, hb⟩; have HO := Aside0.mk (Kd.R_lower hR HB.out.size); have HB2 := Aside0.mk (below_then HB.out HB.out.size hb); clear hR hb))
      go_ret2
      exact ⟨_, rfl, HO.out, HB2.out⟩
    · rw [if_neg hp1] at h
      cases h
      have HX0 : Aside0 ((((w.alloc (Obj.cells #[Value.slice A0 l0.length c0] 22)).alloc (Obj.cells #[Value.int .i64 a1] 2)).alloc (Obj.cells #[Value.int .i64 a2] 3)).cell? ⟨w.heap.size, 0, none⟩ = some (.slice A0 l0.length c0)) := ⟨by simp [go_sem]⟩
      have HX1 : Aside0 ((((w.alloc (Obj.cells #[Value.slice A0 l0.length c0] 22)).alloc (Obj.cells #[Value.int .i64 a1] 2)).alloc (Obj.cells #[Value.int .i64 a2] 3)).cell? ⟨w.heap.size + 1, 0, none⟩ = some (.int .i64 a1)) := ⟨by simp [go_sem]⟩
      have HX2 : Aside0 ((((w.alloc (Obj.cells #[Value.slice A0 l0.length c0] 22)).alloc (Obj.cells #[Value.int .i64 a1] 2)).alloc (Obj.cells #[Value.int .i64 a2] 3)).cell? ⟨w.heap.size + 2, 0, none⟩ = some (.int .i64 a2)) := ⟨by simp [go_sem]⟩
      have HB : Aside0 (Below w.heap.size w (((w.alloc (Obj.cells #[Value.slice A0 l0.length c0] 22)).alloc (Obj.cells #[Value.int .i64 a1] 2)).alloc (Obj.cells #[Value.int .i64 a2] 3))) := ⟨below_alloc (below_alloc (below_alloc (Below.refl _ _) _) _) _⟩
      have he0 : (fracE a2 == 0) = false := beq_eq_false_iff_ne.2 hp1
      have he1 : (fracE a2 != 0) = true := bne_iff_ne.2 hp1
      obtain ⟨e_, hE⟩ : ∃ e_ : Int, fracE a2 = e_ := ⟨_, rfl⟩
      rw [hE] at HP1 he0 he1
      simp only [hE]
      clear hE hp1
      go_enter Try.func75, Try.ntmps75
      go_wp2_with (first | (go_at_call 110; (with_reducible refine (vec_Check.calls A0 c0 l0 0 _ (Kd.C_below HR0.out HB.out) HC0.out HP0.out).mono ?_); rintro ed W1 ⟨rfl, hd⟩; have hb := hd.below; clear hd; have HB := Aside0.mk (below_then HB.out HB.out.size hb); have HX0 := Aside0.mk (pw_cell_below hb HX0.out); have HX1 := Aside0.mk (pw_cell_below hb HX1.out); have HX2 := Aside0.mk (pw_cell_below hb HX2.out); have hx0 := HX0.out; have hx1 := HX1.out; have hx2 := HX2.out; clear hb) | (go_at_call 133; (with_reducible refine (vec_behind.calls a2 e_ _ HP1.out).mono ?_); rintro ed W1 ⟨rfl, hd⟩; have hb := hd; clear hd; have HB := Aside0.mk (below_then HB.out HB.out.size hb); have HX0 := Aside0.mk (pw_cell_below hb HX0.out); have HX1 := Aside0.mk (pw_cell_below hb HX1.out); have HX2 := Aside0.mk (pw_cell_below hb HX2.out); have hx0 := HX0.out; have hx1 := HX1.out; have hx2 := HX2.out; clear hb))
      go_ret2
      exact ⟨_, rfl, Kd.R_nil _ _ _ _ _, HB.out⟩
  · rw [if_neg hp0] at h
    cases h
    have HX0 : Aside0 ((((w.alloc (Obj.cells #[Value.slice A0 l0.length c0] 22)).alloc (Obj.cells #[Value.int .i64 a1] 2)).alloc (Obj.cells #[Value.int .i64 a2] 3)).cell? ⟨w.heap.size, 0, none⟩ = some (.slice A0 l0.length c0)) := ⟨by simp [go_sem]⟩
    have HX1 : Aside0 ((((w.alloc (Obj.cells #[Value.slice A0 l0.length c0] 22)).alloc (Obj.cells #[Value.int .i64 a1] 2)).alloc (Obj.cells #[Value.int .i64 a2] 3)).cell? ⟨w.heap.size + 1, 0, none⟩ = some (.int .i64 a1)) := ⟨by simp [go_sem]⟩
    have HX2 : Aside0 ((((w.alloc (Obj.cells #[Value.slice A0 l0.length c0] 22)).alloc (Obj.cells #[Value.int .i64 a1] 2)).alloc (Obj.cells #[Value.int .i64 a2] 3)).cell? ⟨w.heap.size + 2, 0, none⟩ = some (.int .i64 a2)) := ⟨by simp [go_sem]⟩
    have HB : Aside0 (Below w.heap.size w (((w.alloc (Obj.cells #[Value.slice A0 l0.length c0] 22)).alloc (Obj.cells #[Value.int .i64 a1] 2)).alloc (Obj.cells #[Value.int .i64 a2] 3))) := ⟨below_alloc (below_alloc (below_alloc (Below.refl _ _) _) _) _⟩
    have he0 : (checkE l0 == 0) = false := beq_eq_false_iff_ne.2 hp0
    have he1 : (checkE l0 != 0) = true := bne_iff_ne.2 hp0
    obtain ⟨e_, hE⟩ : ∃ e_ : Int, checkE l0 = e_ := ⟨_, rfl⟩
    rw [hE] at HP0 he0 he1
    simp only [hE]
    clear hE hp0
    go_enter Try.func75, Try.ntmps75
    go_wp2_with (first | (go_at_call 110; (with_reducible refine (vec_Check.calls A0 c0 l0 e_ _ (Kd.C_below HR0.out HB.out) HC0.out HP0.out).mono ?_); rintro ed W1 ⟨rfl, hd⟩; have hb := hd.below; clear hd; have HB := Aside0.mk (below_then HB.out HB.out.size hb); have HX0 := Aside0.mk (pw_cell_below hb HX0.out); have HX1 := Aside0.mk (pw_cell_below hb HX1.out); have HX2 := Aside0.mk (pw_cell_below hb HX2.out); have hx0 := HX0.out; have hx1 := HX1.out; have hx2 := HX2.out; clear hb))
    go_ret2
    exact ⟨_, rfl, Kd.R_nil _ _ _ _ _, HB.out⟩


-- NOT PRINTED: function 128 (linear_Grad_1)

end Go.Proofs.Ytfbdalnjijdknaa.HL
