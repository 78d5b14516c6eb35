/- What Go functions do, each as a plain Lean function with the same answers, and the proof of it, in every world: printed by the session's driver over the kit's print, with texts by hand. -/
import Derived.Test.YtfbdalnjijdknaaHLx0
import Derived.Test.YtfbdalnjijdknaaHLx1
import Derived.Test.YtfbdalnjijdknaaHLx3
import Derived.Test.YtfbdalnjijdknaaHLx12
namespace Go.Proofs.Ytfbdalnjijdknaa.HL
open Go.RowKit Go.Proofs.YtfbdalnjijdknaaW.PrintWords Go.Proofs.YtfbdalnjijdknaaW.PrintLast Go.Proofs.YtfbdalnjijdknaaW.PrintMore
attribute [local go_sem] max2_int min2_int max_two min_two max_three min_three max_four min_four   -- for this text's walks alone
open Go.Proofs.Ytfbdalnjijdknaa.Sp
attribute [local go_sem] Go.Proofs.Ytfbdalnjijdknaa.Sp.u64_not
set_option linter.unusedVariables false
set_option linter.unusedSimpArgs false

/-! ### linear_Loss: function 73 -/
def lossStp (f : Int) (s : Int) (x : S26) (o : Int) : Int × Int := if (mulF o o f).2 = 0 then res (s + (mulF o o f).1) else (s, (mulF o o f).2)
theorem lossStp_i64 {f s : Int} {x : S26} {o : Int} (h : I64 s) : I64 (lossStp f s x o).1 := by
  unfold lossStp; split
  · exact res_i64 _
  · exact h
set_option maxHeartbeats 4000000 in
set_option maxRecDepth 100000 in
theorem linear_Loss_1.calls (n0 b1 b2 : Nat) (A0 : Option Addr) (c0 : Nat) (x : List Int) (y off a1 : Int) (W : World) (s : Int)
    (hb1 : W.heap[b1]? = some (.cells #[.int .i64 a1] 3 (0, 0))) (hb2 : W.heap[b2]? = some (.cells #[.int .i64 s] 2 (0, 0))) (hne : b1 ≠ b2) (h2 : n0 ≤ b2) (hn : n0 ≤ W.heap.size) (hv : I64 s ∧ I64 off) :
    Calls Try.prog 130 #[.agg #[.slice A0 x.length c0, .int .i64 y], .int .i64 off, .pointer (some ⟨b1, 0, none⟩), .pointer (some ⟨b2, 0, none⟩)] W fun ed W' => ed = .returned (.int .i64 (lossStp a1 s ⟨x, y⟩ off).2) ∧ Below n0 W W' ∧
      W'.heap[b1]? = some (.cells #[.int .i64 a1] 3 (0, 0)) ∧ W'.heap[b2]? = some (.cells #[.int .i64 (lossStp a1 s ⟨x, y⟩ off).1] 2 (0, 0)) := by
  have hu := Try.underlying26
  obtain ⟨⟨m, me⟩, hm⟩ : ∃ p, mulF off off a1 = p := ⟨_, rfl⟩
  have hmi := mulF_i64 off off a1
  rw [hm] at hmi
  have AM : Aside0 (fix_Mul.f off off a1 = some (m, me)) := ⟨(fix_Mul.of _ _ _ ⟨hv.2, hv.2⟩).trans (congrArg some hm)⟩
  have hst : lossStp a1 s ⟨x, y⟩ off = if me = 0 then res (s + m) else (s, me) := by unfold lossStp; rw [hm]
  rw [hst]
  have BK1 := Aside0.mk hb1
  have BK2 := Aside0.mk hb2
  have HNE := Aside0.mk hne
  have H2 := Aside0.mk h2
  have HN := Aside0.mk hn
  have HB := Aside0.mk (Below.refl n0 W)
  clear hb1 hb2 hne h2 hn hst hm
  by_cases hme : me = 0
  · subst hme
    rw [if_pos rfl]
    obtain ⟨⟨q, f⟩, hq⟩ : ∃ p, res (s + m) = p := ⟨_, rfl⟩
    rw [hq]
    have AA : Aside0 (fix_Add.f s m = some (q, f)) := ⟨(fix_Add.of _ _ ⟨hv.1, hmi⟩).trans (congrArg some hq)⟩
    clear hq hv hmi
    go_enter Try.func130, Try.ntmps130
    go_wp2_with (first | ((with_reducible refine gate_dst (N := 4) rfl ?_); refine box_event ?hg (N := 4) ?hd (cs := #[.slice A0 x.length c0, .int .i64 y]) (t := 26) ?hr ?_; (case hd => rfl); (case hg => rfl); (case hr => first | (go_simp; done) | (go_simp; rfl)); intro gb hg w1 hbox hb; have n0 := Aside0.mk (below_then HB.out (Nat.le_trans HN.out HB.out.size) hb); have n2 := Aside0.mk (blk_below BK1.out hb); have n3 := Aside0.mk (blk_below BK2.out hb); clear HB BK1 BK2 hb hbox hg; have HB := n0; have BK1 := n2; have BK2 := n3; clear n0 n2 n3; have hx2 : w1.cell? ⟨b1, 0, none⟩ = some (.int .i64 a1) := (blk_cell BK1.out 0).trans rfl) | (go_at_call 131; (with_reducible refine (fix_Mul.calls off off a1 m 0 _ AM.out).mono ?_); rintro ed W2 ⟨rfl, hb⟩; have n0 := Aside0.mk (below_then HB.out (Nat.le_trans HN.out HB.out.size) hb); have n2 := Aside0.mk (blk_below BK1.out hb); have n3 := Aside0.mk (blk_below BK2.out hb); clear HB BK1 BK2 hb; have HB := n0; have BK1 := n2; have BK2 := n3; clear n0 n2 n3; have hz3 : W2.cell? ⟨b2, 0, none⟩ = some (.int .i64 s) := (blk_cell BK2.out 0).trans rfl; have hf3 : W2.frozen? ⟨b2, 0, none⟩ = false := blk_frozen BK2.out 0) | (go_at_call 105; (with_reducible refine (fix_Add.calls s m q f _ AA.out).mono ?_); rintro ed W3 ⟨rfl, ⟨nd, rfl⟩⟩))
    go_ret
    exact ⟨rfl, (pw_below_drewN HB.out nd).setCell H2.out _, (Below.heap_setCell _ ⟨b2, 0, none⟩ _ b1 HNE.out).trans BK1.out, blk_put (blk_drewN BK2.out nd) 0 _ rfl⟩
  · rw [if_neg hme]
    have he0 : (me == 0) = false := beq_eq_false_iff_ne.2 hme
    have he1 : (me != 0) = true := bne_iff_ne.2 hme
    clear hme hv hmi
    go_enter Try.func130, Try.ntmps130
    go_wp2_with (first | ((with_reducible refine gate_dst (N := 4) rfl ?_); refine box_event ?hg (N := 4) ?hd (cs := #[.slice A0 x.length c0, .int .i64 y]) (t := 26) ?hr ?_; (case hd => rfl); (case hg => rfl); (case hr => first | (go_simp; done) | (go_simp; rfl)); intro gb hg w1 hbox hb; have n0 := Aside0.mk (below_then HB.out (Nat.le_trans HN.out HB.out.size) hb); have n2 := Aside0.mk (blk_below BK1.out hb); have n3 := Aside0.mk (blk_below BK2.out hb); clear HB BK1 BK2 hb hbox hg; have HB := n0; have BK1 := n2; have BK2 := n3; clear n0 n2 n3; have hx2 : w1.cell? ⟨b1, 0, none⟩ = some (.int .i64 a1) := (blk_cell BK1.out 0).trans rfl) | (go_at_call 131; (with_reducible refine (fix_Mul.calls off off a1 m me _ AM.out).mono ?_); rintro ed W2 ⟨rfl, hb⟩; have n0 := Aside0.mk (below_then HB.out (Nat.le_trans HN.out HB.out.size) hb); have n2 := Aside0.mk (blk_below BK1.out hb); have n3 := Aside0.mk (blk_below BK2.out hb); clear HB BK1 BK2 hb; have HB := n0; have BK1 := n2; have BK2 := n3; clear n0 n2 n3; have hz3 : W2.cell? ⟨b2, 0, none⟩ = some (.int .i64 s) := (blk_cell BK2.out 0).trans rfl; have hf3 : W2.frozen? ⟨b2, 0, none⟩ = false := blk_frozen BK2.out 0))
    go_ret
    exact ⟨rfl, HB.out, BK1.out, BK2.out⟩
def lossI (n0 b1 b2 : Nat) (f : Int) (_ : Nat) (W : World) (s : Int) : Prop := I64 s ∧ n0 ≤ W.heap.size ∧ W.heap[b1]? = some (.cells #[.int .i64 f] 3 (0, 0)) ∧ W.heap[b2]? = some (.cells #[.int .i64 s] 2 (0, 0))
theorem lossI.keep {n0 b1 b2 : Nat} {f : Int} (k : Nat) (W W' : World) (s : Int) (h : lossI n0 b1 b2 f k W s) (hb : Below W.heap.size W W') : lossI n0 b1 b2 f k W' s :=
  ⟨h.1, Nat.le_trans h.2.1 hb.size, blk_below h.2.2.1 hb, blk_below h.2.2.2 hb⟩
theorem walk_sum (w : List Int) (f : Int) : ∀ (l : List S26) (s : Int),
    sumV (l.map fun x => lossS w f (sm x)) s = if (walkGo (fun x : S26 => offL w x.f0 x.f1 f) (lossStp f) l s).2 = 0 then ((walkGo (fun x : S26 => offL w x.f0 x.f1 f) (lossStp f) l s).1, 0) else (0, (walkGo (fun x : S26 => offL w x.f0 x.f1 f) (lossStp f) l s).2)
  | [], s => rfl
  | x :: l, s => by
    have hbd : lossS w f (sm x) = if (offL w x.f0 x.f1 f).2 = 0 then mulF (offL w x.f0 x.f1 f).1 (offL w x.f0 x.f1 f).1 f else (0, (offL w x.f0 x.f1 f).2) := rfl
    simp only [walkGo, List.map_cons, sumV]
    by_cases c : (offL w x.f0 x.f1 f).2 = 0
    · rw [if_pos c] at hbd
      rw [if_pos c, hbd]
      by_cases c2 : (mulF (offL w x.f0 x.f1 f).1 (offL w x.f0 x.f1 f).1 f).2 = 0
      · have hst : lossStp f s x (offL w x.f0 x.f1 f).1 = res (s + (mulF (offL w x.f0 x.f1 f).1 (offL w x.f0 x.f1 f).1 f).1) := if_pos c2
        rw [if_pos c2, hst]
        by_cases c3 : (res (s + (mulF (offL w x.f0 x.f1 f).1 (offL w x.f0 x.f1 f).1 f).1)).2 = 0
        · rw [if_pos c3, if_pos c3]; exact walk_sum w f l _
        · rw [if_neg c3, if_neg c3, if_neg c3]
      · have hst : lossStp f s x (offL w x.f0 x.f1 f).1 = (s, (mulF (offL w x.f0 x.f1 f).1 (offL w x.f0 x.f1 f).1 f).2) := if_neg c2
        rw [if_neg c2, hst]
        rw [if_neg c2, if_neg c2]
    · rw [if_neg c] at hbd
      rw [if_neg c, hbd]
      rw [if_neg c, if_neg c]
theorem lossL_walk (w : List Int) (f : Int) (l : List S26) : lossL w f (l.map sm) = if (walkF w f l (lossStp f) 0).2 = 0 then ((walkF w f l (lossStp f) 0).1, 0) else (0, (walkF w f l (lossStp f) 0).2) := by
  unfold lossL walkF
  by_cases c : checkL (wrap64 ((w.length : Int) - 1)) w (l.map sm) = 0
  · rw [if_pos c, if_pos c, List.map_map]
    exact walk_sum w f l 0
  · rw [if_neg c, if_neg c, if_neg c]
def linear_Loss.f (l0 : List Int) (a1 : Int) (l2 : List S26) : Option (Int × Int) := if V64 l0 ∧ ∀ s ∈ l2, Sm64 s then some (lossL l0 a1 (l2.map sm)) else none
theorem linear_Loss.of (l0 : List Int) (a1 : Int) (l2 : List S26)  (h_ : V64 l0 ∧ ∀ s ∈ l2, Sm64 s) : linear_Loss.f l0 a1 l2 = some (lossL l0 a1 (l2.map sm)) := if_pos h_
set_option maxHeartbeats 4000000 in
set_option maxRecDepth 100000 in
theorem linear_Loss.calls (A0 : Option Addr) (c0 : Nat) (l0 : List Int) (a1 : Int) (A2 : Option Addr) (c2 : Nat) (l2 : List (S26)) (r1 : Int) (r2 : Int) (w : World) (hr0 : Kd.C (Kd.int .i64) w A0 l0.length l0) (hc0 : l0.length ≤ c0) (hr2 : Kd.C k26 w A2 l2.length l2) (hc2 : l2.length ≤ c2) (h : linear_Loss.f l0 a1 l2 = some (r1, r2)) :
    Calls Try.prog 73 #[.slice A0 l0.length c0, .int .i64 a1, .slice A2 l2.length c2] w fun e w' => e = .returned (.tuple #[.int .i64 r1, .int .i64 r2]) ∧ Below w.heap.size w w' := by
  unfold linear_Loss.f at h
  split at h
  case isFalse => cases h
  rename_i hv
  have h := Option.some.inj h
  rw [lossL_walk] at h
  obtain ⟨⟨sf, ef⟩, hw⟩ : ∃ p, walkF l0 a1 l2 (lossStp a1) 0 = p := ⟨_, rfl⟩
  rw [hw] at h
  simp only [] at h
  have HW := Aside0.mk hw
  have HR0 := Aside0.mk hr0
  have HC0 := Aside0.mk hc0
  have HR2 := Aside0.mk hr2
  have HC2 := Aside0.mk hc2
  have HV := Aside0.mk hv
  have HB := Aside0.mk (Below.refl w.heap.size w)
  have HG := Aside0.mk h
  have hu3 := Try.underlying3
  clear hw hr0 hc0 hr2 hc2 hv h
  by_cases hef : ef = 0
  · subst hef
    have hG := HG.out
    rw [if_pos rfl] at hG
    obtain ⟨h1, h2⟩ : sf = r1 ∧ 0 = r2 := by cases hG; exact ⟨rfl, rfl⟩
    subst h1
    subst h2
    clear hG HG
    go_enter Try.func73, Try.ntmps73
    go_wp2_with (first | ((with_reducible refine gate_dst (N := 4) rfl ?_); refine box_event ?hg (N := 4) ?hd (cs := #[.int .i64 a1]) (t := 3) ?hr ?_; (case hd => rfl); (case hg => rfl); (case hr => first | (go_simp; done) | (go_simp; rfl)); intro b1 hg w1 hbox hb; have n0 := Aside0.mk (below_then HB.out (Nat.le_refl _) hb); have BK1 := Aside0.mk hbox; have G1 : Aside0 (w.heap.size ≤ b1) := ⟨by rw [hg]; exact Nat.le_refl _⟩; have L1 := Aside0.mk (blk_lt hbox); clear HB hbox hb hg; have HB := n0; clear n0; have hz1 : w1.cell? ⟨b1, 0, none⟩ = some (.int .i64 a1) := (blk_cell BK1.out 0).trans rfl) | ((with_reducible refine gate_dst (N := 8) rfl ?_); refine box_event ?hg (N := 8) ?hd (cs := #[.int .i64 0]) (t := 2) ?hr ?_; (case hd => rfl); (case hg => rfl); (case hr => first | (go_simp; done) | (go_simp; rfl)); intro b2 hg w2 hbox hb; have n0 := Aside0.mk (below_then HB.out HB.out.size hb); have BK2 := Aside0.mk hbox; have n1 := Aside0.mk (blk_below BK1.out hb); have G2 : Aside0 (w.heap.size ≤ b2) := ⟨by rw [hg]; exact HB.out.size⟩; have HNE : Aside0 (b1 ≠ b2) := ⟨by have := L1.out; omega⟩; clear HB BK1 hbox hb hg; have HB := n0; have BK1 := n1; clear n0 n1; have hz1 : w2.cell? ⟨b1, 0, none⟩ = some (.int .i64 a1) := (blk_cell BK1.out 0).trans rfl) | (go_at_call 127; (with_reducible refine (linear_walk.calls (σ := Int) 130 #[.pointer (some ⟨b1, 0, none⟩), .pointer (some ⟨b2, 0, none⟩)] (lossI w.heap.size b1 b2 a1) (lossStp a1) A0 c0 l0 a1 A2 c2 l2 w _ 0 sf 0 ?ent HR0.out HC0.out HR2.out HC2.out HV.out HB.out ?I0 ?st ?K HW.out).mono ?_); (case ent => exact enters_of Try.func130 rfl rfl); (case I0 => exact ⟨i64_zero, HB.out.size, BK1.out, BK2.out⟩); (case st => exact lossI.keep); (case K => intro k W s x A c o hk hl hx ho hB hI hC hc; obtain ⟨q1, q2, q3, q4⟩ := hI; refine (linear_Loss_1.calls w.heap.size b1 b2 A c x.f0 x.f1 o a1 W s q3 q4 HNE.out G2.out q2 ⟨q1, ho⟩).mono ?_; rintro ed W' ⟨rfl, hb, k1, k2⟩; exact ⟨rfl, ⟨lossStp_i64 q1, Nat.le_trans q2 hb.size, k1, k2⟩, hB.trans hb⟩); rintro ed W3 ⟨rfl, ⟨k, hI⟩, hb⟩; obtain ⟨-, -, k1, k2⟩ := hI; clear HB; have HB := Aside0.mk hb; have hzS : W3.cell? ⟨b2, 0, none⟩ = some (.int .i64 sf) := (blk_cell k2 0).trans rfl; clear k1 k2 hb))
    go_ret2
    exact ⟨rfl, HB.out⟩
  · have hG := HG.out
    rw [if_neg hef] at hG
    obtain ⟨h1, h2⟩ : 0 = r1 ∧ ef = r2 := by cases hG; exact ⟨rfl, rfl⟩
    have he0 : (ef == 0) = false := beq_eq_false_iff_ne.2 hef
    have he1 : (ef != 0) = true := bne_iff_ne.2 hef
    subst h1
    subst h2
    clear hG HG hef
    go_enter Try.func73, Try.ntmps73
    go_wp2_with (first | ((with_reducible refine gate_dst (N := 4) rfl ?_); refine box_event ?hg (N := 4) ?hd (cs := #[.int .i64 a1]) (t := 3) ?hr ?_; (case hd => rfl); (case hg => rfl); (case hr => first | (go_simp; done) | (go_simp; rfl)); intro b1 hg w1 hbox hb; have n0 := Aside0.mk (below_then HB.out (Nat.le_refl _) hb); have BK1 := Aside0.mk hbox; have G1 : Aside0 (w.heap.size ≤ b1) := ⟨by rw [hg]; exact Nat.le_refl _⟩; have L1 := Aside0.mk (blk_lt hbox); clear HB hbox hb hg; have HB := n0; clear n0; have hz1 : w1.cell? ⟨b1, 0, none⟩ = some (.int .i64 a1) := (blk_cell BK1.out 0).trans rfl) | ((with_reducible refine gate_dst (N := 8) rfl ?_); refine box_event ?hg (N := 8) ?hd (cs := #[.int .i64 0]) (t := 2) ?hr ?_; (case hd => rfl); (case hg => rfl); (case hr => first | (go_simp; done) | (go_simp; rfl)); intro b2 hg w2 hbox hb; have n0 := Aside0.mk (below_then HB.out HB.out.size hb); have BK2 := Aside0.mk hbox; have n1 := Aside0.mk (blk_below BK1.out hb); have G2 : Aside0 (w.heap.size ≤ b2) := ⟨by rw [hg]; exact HB.out.size⟩; have HNE : Aside0 (b1 ≠ b2) := ⟨by have := L1.out; omega⟩; clear HB BK1 hbox hb hg; have HB := n0; have BK1 := n1; clear n0 n1; have hz1 : w2.cell? ⟨b1, 0, none⟩ = some (.int .i64 a1) := (blk_cell BK1.out 0).trans rfl) | (go_at_call 127; (with_reducible refine (linear_walk.calls (σ := Int) 130 #[.pointer (some ⟨b1, 0, none⟩), .pointer (some ⟨b2, 0, none⟩)] (lossI w.heap.size b1 b2 a1) (lossStp a1) A0 c0 l0 a1 A2 c2 l2 w _ 0 sf ef ?ent HR0.out HC0.out HR2.out HC2.out HV.out HB.out ?I0 ?st ?K HW.out).mono ?_); (case ent => exact enters_of Try.func130 rfl rfl); (case I0 => exact ⟨i64_zero, HB.out.size, BK1.out, BK2.out⟩); (case st => exact lossI.keep); (case K => intro k W s x A c o hk hl hx ho hB hI hC hc; obtain ⟨q1, q2, q3, q4⟩ := hI; refine (linear_Loss_1.calls w.heap.size b1 b2 A c x.f0 x.f1 o a1 W s q3 q4 HNE.out G2.out q2 ⟨q1, ho⟩).mono ?_; rintro ed W' ⟨rfl, hb, k1, k2⟩; exact ⟨rfl, ⟨lossStp_i64 q1, Nat.le_trans q2 hb.size, k1, k2⟩, hB.trans hb⟩); rintro ed W3 ⟨rfl, ⟨k, hI⟩, hb⟩; obtain ⟨-, -, k1, k2⟩ := hI; clear HB; have HB := Aside0.mk hb; have hzS : W3.cell? ⟨b2, 0, none⟩ = some (.int .i64 sf) := (blk_cell k2 0).trans rfl; clear k1 k2 hb))
    go_ret2
    exact ⟨rfl, HB.out⟩


end Go.Proofs.Ytfbdalnjijdknaa.HL
