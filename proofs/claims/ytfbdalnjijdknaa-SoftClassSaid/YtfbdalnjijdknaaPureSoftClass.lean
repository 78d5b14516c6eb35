/- SoftClass: the class that lines tell has no less a share than any other one; with all lines' bases greater by the same, shares and class are the same. -/
import Derived.Test.YtfbdalnjijdknaaHSx20
import Derived.Test.YtfbdalnjijdknaaPSoft
namespace Go.Proofs.Ytfbdalnjijdknaa.Pure
open Go.RowKit Go.Proofs.Ytfbdalnjijdknaa.HS Go.Proofs.YtfbdalnjijdknaaW.PrintWords Go.Proofs.YtfbdalnjijdknaaW.PrintLast Go.Proofs.YtfbdalnjijdknaaW.PrintMore Go.Proofs.Ytfbdalnjijdknaa.Sp
set_option linter.unusedVariables false
set_option linter.unusedSimpArgs false
theorem class_err {o : Int} {w x : List Int} {f : Int} (h : (classS o w x f).2 ≠ 0) : (tellS o w x f).2 = (classS o w x f).2 := by
  unfold classS tellS at *
  by_cases c : (linesS o w x f).2 = 0
  · exfalso
    obtain ⟨l1, l2, l3⟩ := linesS_len c
    rw [if_pos c] at h
    unfold bestF at h
    rw [if_neg (by omega), if_neg (by omega)] at h
    exact h rfl
  · rw [if_neg c, if_neg c]
theorem class_l3 {o : Int} {w x : List Int} {f b : Int} (he : (tellS o w x f).2 = 0) (hx : V64 x) (hb : -1099511627776 ≤ b ∧ b ≤ 1099511627776) (hw : ∀ n ∈ w, -1099511627776 ≤ n ∧ n ≤ 1099511627776) (hxl : x.length ≤ 16) : ∀ (d i : Nat), d + i = x.length → (∀ n ∈ x.take i, -32768 ≤ n ∧ n ≤ 32768) →
    Evt (fun k => thrumlaw15_SoftClass.l3 k o x f true (tellS o w x f).1 (classS o w x f).1 (bump (x.length + 1) b w o.toNat) x (x.length : Int) (i : Int)) := by
  intro d
  induction d with
  | zero =>
    intro i hd hi
    rw [List.take_of_length_le (by omega)] at hi
    obtain ⟨e1, e2⟩ := tellS_bump (b := b) he hw hi hb
    obtain ⟨-, -, -, -, -, ec, -⟩ := tellS_fine he
    have hbv : V64 (bump (x.length + 1) b w o.toNat) := by
      intro n hn
      unfold bump at hn
      obtain ⟨j, hj, rfl⟩ := List.mem_mapIdx.1 hn
      have := hw _ (List.getElem_mem hj)
      split <;> (unfold I64; omega)
    refine Evt.done (fun k => ?_)
    rw [thrumlaw15_SoftClass.l3.eq_2, if_neg (by omega), soft_Tell.of _ _ _ _ ⟨hbv, hx⟩, soft_Class.of _ _ _ _ ⟨hbv, hx⟩, Option.bind_some, Option.bind_some, if_pos rfl, e1, e2, if_pos he, if_pos (by rw [ec])]
    unfold thrumref02_Same.f
    rw [Option.bind_some, if_pos (decide_eq_true rfl), beq_self_eq_true]
  | succ d ih =>
    intro i hd hi
    have hlt : i < x.length := by omega
    have e : rd x (i : Int) = x[i] := rd_nat hlt
    by_cases c1 : x[i] > 32768
    · exact Evt.done (fun k => by rw [thrumlaw15_SoftClass.l3.eq_2, if_pos (by omega), if_pos (by omega), if_pos (by omega), e, if_pos c1])
    · by_cases c2 : x[i] < -32768
      · exact Evt.done (fun k => by rw [thrumlaw15_SoftClass.l3.eq_2, if_pos (by omega), if_pos (by omega), if_pos (by omega), e, if_neg c1, if_pos c2])
      · refine Evt.step (ih (i + 1) (by omega) ?_) (fun k => ?_)
        · intro n hn
          rw [List.take_add_one, List.getElem?_eq_getElem hlt] at hn
          rcases List.mem_append.1 hn with h | h
          · exact hi n h
          · simp at h; rw [h]; omega
        · rw [thrumlaw15_SoftClass.l3.eq_2, if_pos (by omega), if_pos (by omega), if_pos (by omega), e, if_neg c1, if_neg c2, wrap64_of (by unfold I64; omega)]
          rfl
theorem class_l2 {o : Int} {w x : List Int} {f b : Int} (he : (tellS o w x f).2 = 0) (hx : V64 x) (hb : -1099511627776 ≤ b ∧ b ≤ 1099511627776) (hwl : w.length ≤ 500) (hxl : x.length ≤ 16) : ∀ (d i : Nat), d + i = w.length → (∀ n ∈ w.take i, -1099511627776 ≤ n ∧ n ≤ 1099511627776) →
    Evt (fun k => thrumlaw15_SoftClass.l2 k o w x f true (tellS o w x f).1 (classS o w x f).1 (bump (x.length + 1) b w o.toNat) (w.length : Int) (i : Int)) := by
  intro d
  induction d with
  | zero =>
    intro i hd hi
    rw [List.take_of_length_le (by omega)] at hi
    exact Evt.step (class_l3 he hx hb hi hxl x.length 0 (by omega) (by simp)) (fun k => by rw [thrumlaw15_SoftClass.l2.eq_2, if_neg (by omega)]; rfl)
  | succ d ih =>
    intro i hd hi
    have hlt : i < w.length := by omega
    have e : rd w (i : Int) = w[i] := rd_nat hlt
    by_cases c1 : w[i] > 1099511627776
    · exact Evt.done (fun k => by rw [thrumlaw15_SoftClass.l2.eq_2, if_pos (by omega), if_pos (by omega), if_pos (by omega), e, if_pos c1])
    · by_cases c2 : w[i] < -1099511627776
      · exact Evt.done (fun k => by rw [thrumlaw15_SoftClass.l2.eq_2, if_pos (by omega), if_pos (by omega), if_pos (by omega), e, if_neg c1, if_pos c2])
      · refine Evt.step (ih (i + 1) (by omega) ?_) (fun k => ?_)
        · intro n hn
          rw [List.take_add_one, List.getElem?_eq_getElem hlt] at hn
          rcases List.mem_append.1 hn with h | h
          · exact hi n h
          · simp at h; rw [h]; omega
        · rw [thrumlaw15_SoftClass.l2.eq_2, if_pos (by omega), if_pos (by omega), if_pos (by omega), e, if_neg c1, if_neg c2, wrap64_of (by unfold I64; omega)]
          rfl
theorem class_l1 {k : Nat} {w x : List Int} {f b : Int} (he : (tellS (k : Int) w x f).2 = 0) (hx : V64 x) (hb : -1099511627776 ≤ b ∧ b ≤ 1099511627776) (hwl : w.length ≤ 500) (hxl : x.length ≤ 16) (hk : k ≤ 8) (hmk : (x.length + 1) * k = w.length) : ∀ (d j : Nat), d + j = k →
    Evt (fun K => thrumlaw15_SoftClass.l1 K (k : Int) w x f b true (tellS (k : Int) w x f).1 (classS (k : Int) w x f).1 (bump (x.length + 1) b w j) ((j * (x.length + 1) + x.length : Nat) : Int)) := by
  intro d
  induction d with
  | zero =>
    intro j hd
    have hj : j = k := by omega
    subst hj
    have h2 := class_l2 he hx hb hwl hxl w.length 0 (by omega) (by simp)
    rw [Int.toNat_natCast] at h2
    refine Evt.step h2 (fun K => ?_)
    rw [thrumlaw15_SoftClass.l1.eq_2, if_neg (by rw [bump_len, ← hmk, Nat.mul_comm]; omega)]
    rfl
  | succ d ih =>
    intro j hd
    have h1 : (j + 1) * (x.length + 1) ≤ k * (x.length + 1) := Nat.mul_le_mul_right _ (by omega)
    rw [Nat.add_mul, Nat.one_mul, Nat.mul_comm k, hmk] at h1
    have hlt : j * (x.length + 1) + x.length < w.length := by omega
    have hlt2 : j * (x.length + 1) + (x.length + 1 - 1) < w.length := by omega
    have hg : rd (bump (x.length + 1) b w j) ((j * (x.length + 1) + x.length : Nat) : Int) = w[j * (x.length + 1) + x.length] := by
      rw [rd_nat (by rw [bump_len]; exact hlt)]
      exact bump_at (m := x.length + 1) (by omega) hlt2
    have hst : bump (x.length + 1) b w (j + 1) = (bump (x.length + 1) b w j).set (j * (x.length + 1) + x.length) (w[j * (x.length + 1) + x.length] + b) := bump_step (m := x.length + 1) (by omega) hlt2
    have hnx : (((j * (x.length + 1) + x.length : Nat) : Int) + ((x.length : Int) + 1)) = (((j + 1) * (x.length + 1) + x.length : Nat) : Int) := by
      have : (j + 1) * (x.length + 1) = j * (x.length + 1) + (x.length + 1) := by rw [Nat.add_mul, Nat.one_mul]
      rw [this]; omega
    obtain ⟨v, hv⟩ : ∃ v, w[j * (x.length + 1) + x.length] = v := ⟨_, rfl⟩
    rw [hv] at hg hst
    have ihj := ih (j + 1) (by omega)
    clear hlt2 hv h1 ih
    generalize j * (x.length + 1) + x.length = p at hlt hg hst hnx ⊢
    by_cases c1 : v > 1099511627776
    · exact Evt.done (fun K => by rw [thrumlaw15_SoftClass.l1.eq_2, if_pos (by rw [bump_len]; omega), if_pos (by omega), hg, if_pos c1])
    · by_cases c2 : v < -1099511627776
      · exact Evt.done (fun K => by rw [thrumlaw15_SoftClass.l1.eq_2, if_pos (by rw [bump_len]; omega), if_pos (by omega), hg, if_neg c1, if_pos c2])
      · refine Evt.step (ihj) (fun K => ?_)
        rw [thrumlaw15_SoftClass.l1.eq_2, if_pos (by rw [bump_len]; omega), if_pos (by omega), hg, if_neg c1, if_neg c2, wrap64_of (x := v + b) (by unfold I64; omega), wrap64_of (x := (x.length : Int) + 1) (by unfold I64; omega), wrap64_of (x := (p : Int) + ((x.length : Int) + 1)) (by unfold I64; omega), hnx, Int.toNat_natCast, ← hst]
theorem class_l0 {k : Nat} {w x : List Int} {f a : Int} (he : (tellS (k : Int) w x f).2 = 0) (hw : V64 w) (hx : V64 x) (hwl : w.length ≤ 500) : ∀ (d i : Nat), d + i = (tellS (k : Int) w x f).1.length →
    Evt (fun K => thrumlaw15_SoftClass.l0 K (k : Int) w x f a true (tellS (k : Int) w x f).1 (classS (k : Int) w x f).1 (tellS (k : Int) w x f).1 ((tellS (k : Int) w x f).1.length : Int) (i : Int)) := by
  obtain ⟨hf, hl, ho2, ho8, h1, ec, hc, F⟩ := tellS_fine he
  obtain ⟨k', m, hkk, hk2, hk8, hm2, hm17, hmk, rfl, -, -⟩ := linesS_rows h1
  have hkk : k' = k := by omega
  subst hkk
  have hlen := F.len
  intro d
  induction d with
  | zero =>
    intro i hd
    have ht1 := Int.tmod_lt_of_pos a (show (0 : Int) < 1099511627776 by decide)
    have ht2 : -1099511627776 < Int.tmod a 1099511627776 := Int.lt_tmod_of_pos a (by decide)
    have h2 := class_l1 (b := Int.tmod a 1099511627776) he hx ⟨by omega, by omega⟩ hwl (by omega) hk8 hmk k' 0 (by omega)
    rw [bump_zero, Nat.zero_mul, Nat.zero_add] at h2
    refine Evt.step h2 (fun K => ?_)
    rw [thrumlaw15_SoftClass.l0.eq_2, if_neg (by omega), if_pos (by simp only [List.length_nil]; omega), List.nil_append]
  | succ d ih =>
    intro i hd
    have q1 := F.most i (by omega)
    have q2 := F.nonneg i (by omega)
    refine Evt.step (ih (i + 1) (by omega)) (fun K => ?_)
    rw [thrumlaw15_SoftClass.l0.eq_2, if_pos (by omega), if_pos (by omega), if_pos (by omega), if_pos hc.1, if_pos (by omega), if_neg (by omega), if_neg (by omega), if_neg (by omega), wrap64_of (by unfold I64; omega)]
    rfl
theorem SoftClass : thrumlaw15_SoftClass.Pure := by
  intro a0 l1 l2 f a w0 hm hs wl hm2 hs2 wx wf wa
  have h1 := v64_of_wf wl
  have h2 := v64_of_wf wx
  refine Evt.get (F := fun k => thrumlaw15_SoftClass.f k a0 l1 l2 f a) ?_
  unfold thrumlaw15_SoftClass.f
  rw [show thrumlaw15_live.f = some true from rfl]
  simp only [Option.bind_some, if_true, thrumref14_Few.f]
  split
  · rename_i hc
    have hwl := (of_decide_eq_true hc).2.1
    rw [soft_Tell.of _ _ _ _ ⟨h1, h2⟩, soft_Class.of _ _ _ _ ⟨h1, h2⟩]
    simp only [Option.bind_some]
    by_cases e : (tellS a0 l1 l2 f).2 = 0
    · obtain ⟨hf, hl, ho2, ho8, hli, ec, hcl, F⟩ := tellS_fine e
      obtain ⟨k, rfl⟩ : ∃ k : Nat, a0 = k := ⟨a0.toNat, by omega⟩
      have hl0 := class_l0 (a := a) e h1 h2 hwl _ 0 (Nat.add_zero _)
      have hj1 : Evt (fun K => thrumlaw15_SoftClass.j1 K (k : Int) l1 l2 f a true (tellS (k : Int) l1 l2 f).1 (classS (k : Int) l1 l2 f).1 false) := Evt.step hl0 (fun K => by rw [thrumlaw15_SoftClass.j1.eq_2, if_neg (by decide)]; rfl)
      simp only [if_pos e]
      refine Evt.step hj1 (fun K => ?_)
      rw [thrumlaw15_SoftClass.j0.eq_2, ec, if_neg (by simp), if_pos hl, if_neg (by omega), decide_eq_false (by omega)]
    · simp only [if_neg e]
      refine Evt.done (fun K => ?_)
      rw [thrumlaw15_SoftClass.j0.eq_2, if_pos rfl, if_pos rfl]
      by_cases c : (classS a0 l1 l2 f).2 = 0
      · rw [if_pos c]
      · rw [if_neg c, class_err c, beq_self_eq_true]
  · exact Evt.true
end Go.Proofs.Ytfbdalnjijdknaa.Pure
