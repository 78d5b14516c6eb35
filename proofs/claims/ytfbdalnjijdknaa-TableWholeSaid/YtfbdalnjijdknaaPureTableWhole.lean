/- TableWhole: shares are together no more than 1, and less by fewer than as many as there are. -/
import Derived.Test.YtfbdalnjijdknaaHTx27
import Derived.Test.YtfbdalnjijdknaaPTable2
namespace Go.Proofs.Ytfbdalnjijdknaa.Pure
open Go.RowKit Go.Proofs.Ytfbdalnjijdknaa.HT Go.Proofs.YtfbdalnjijdknaaW.PrintWords Go.Proofs.YtfbdalnjijdknaaW.PrintLast Go.Proofs.YtfbdalnjijdknaaW.PrintMore Go.Proofs.Ytfbdalnjijdknaa.Sp
set_option linter.unusedVariables false
set_option linter.unusedSimpArgs false
theorem live13 : thrumlaw13_live.f = some true := by decide +kernel
theorem few13 (l : List Int) : ∃ b, thrumlaw13_few.f l = some b ∧ (b = true → l.length ≤ 5000) := by
  unfold thrumlaw13_few.f
  split
  · exact ⟨true, rfl, fun _ => by omega⟩
  · split
    · exact ⟨_, rfl, fun h => by have := of_decide_eq_true h; omega⟩
    · exact ⟨false, rfl, fun h => by cases h⟩
theorem same02 (a b : List Int) : thrumref02_Same.f a b = some (decide (a = b)) := rfl
theorem shl_pow {f : Int} (hf : 0 ≤ f ∧ f ≤ 30) : shl .i64 1 f = 2 ^ f.toNat := by
  have hp := pow_pos_ f.toNat
  have h30 := pow_le30_ hf
  unfold shl
  rw [show min f.toNat IntKind.i64.bits = f.toNat from by show min f.toNat 64 = _; omega, iwrap, wrap64_of (by unfold I64; omega)]; omega
/-- What is known of the shares. -/
structure Fine (f : Int) (z s : List Int) (a : Int) : Prop where
  len : s.length = z.length
  nonneg : ∀ i : Nat, i < z.length → 0 ≤ rd s i
  le : ∀ i : Nat, i < z.length → rd s i ≤ 2 ^ f.toNat
  mono : ∀ i k : Nat, i < z.length → k < z.length → rd z k ≤ rd z i → rd s k ≤ rd s i
  most : ∀ i : Nat, i < z.length → rd s i ≤ rd s a
  whole : sumI s ≤ 2 ^ f.toNat
  more : 2 ^ f.toNat - sumI s < z.length
  great : 2 ^ f.toNat / (z.length : Int) ≤ rd s a
theorem fine_of {f : Int} {z : List Int} {a : Int} (hf : 0 ≤ f ∧ f ≤ 30) (hb : IsBest z a) : Fine f z (shares (rd z a) f z) a := by
  have hp := pow_pos_ f.toNat
  have hS := pows_pos hb hf
  have hn : 0 < z.length := by have := hb.1; have := hb.2.1; omega
  have hP : ∀ i : Nat, i < z.length → rd (shares (rd z a) f z) i = powE (rd z a - rd z i) f * 2 ^ f.toNat / sumI (pows (rd z a) f z) := by
    intro i hi
    rw [rd_nat (by simpa [shares, pows] using hi), rd_nat hi]
    simp [shares, pows]
  have hmem := pows_mem hb.le hf
  have hle : ∀ i : Nat, i < z.length → rd z i ≤ rd z a := fun i hi => hb.2.2.1 i hi
  have hin : ∀ i : Nat, i < z.length → powE (rd z a - rd z i) f ∈ pows (rd z a) f z := fun i hi => List.mem_map.2 ⟨rd z i, rd_mem hi, rfl⟩
  have ha : ((a.toNat : Nat) : Int) = a := by have := hb.1; omega
  have hat := hP a.toNat (by have := hb.1; have := hb.2.1; omega)
  rw [ha] at hat
  have hne : pows (rd z a) f z ≠ [] := by intro e; have := congrArg List.length e; simp [pows] at this; rw [this] at hn; simp at hn
  have hlen : (pows (rd z a) f z).length = z.length := by simp [pows]
  refine ⟨by simp [shares, pows], fun i hi => ?_, fun i hi => ?_, fun i k hi hk h => ?_, fun i hi => ?_, ?_, ?_, ?_⟩
  · rw [hP i hi]; exact (share_bd (hmem _ (hin i hi)).1 (sumI_mem _ (fun x hx => (hmem x hx).1) _ (hin i hi)) (by omega) (by omega)).1
  · rw [hP i hi]; exact (share_bd (hmem _ (hin i hi)).1 (sumI_mem _ (fun x hx => (hmem x hx).1) _ (hin i hi)) (by omega) (by omega)).2
  · rw [hP i hi, hP k hk]
    exact share_mono (powE_mono (by have := hle i hi; omega) (by omega) hf) (by omega) (by omega)
  · rw [hP i hi, hat]
    exact share_mono (powE_mono (by omega) (by have := hle i hi; omega) hf) (by omega) (by omega)
  · exact sum_whole (by omega)
  · have := sum_more (l := pows (rd z a) f z) (c := 2 ^ f.toNat) (by omega) hne
    rw [hlen] at this; exact this
  · have h := share_most (l := pows (rd z a) f z) (p := powE (rd z a - rd z a) f) (c := 2 ^ f.toNat) hne (fun x hx => by
      obtain ⟨y, hy, rfl⟩ := List.mem_map.1 hx
      exact powE_mono (by omega) (by have := hb.le y hy; omega) hf) (by omega) (by omega)
    rw [hlen] at h
    rw [hat]; exact h
theorem whole_l1 (f : Int) (z s : List Int) (a : Int) (F : Fine f z s a) (hl : z.length ≤ 4096) (sum : Int) (i : Nat) (hi : i < z.length) : ∀ (e q K : Nat), e + q = i →
    thrumlaw13_TableWhole.l1 (e + 1 + K) f z true s a sum (i : Int) (rd s i) s (s.length : Int) (i : Int) (i : Int) (q : Int) = thrumlaw13_TableWhole.l0 K f z true s a sum s (s.length : Int) ((i + 1 : Nat) : Int) := by
  have hsl := F.len
  intro e
  induction e with
  | zero =>
    intro q K hq
    rw [show 0 + 1 + K = K + 1 by omega, thrumlaw13_TableWhole.l1, if_neg (by omega), wrap64_of (by unfold I64; omega), show (i : Int) + 1 = ((i + 1 : Nat) : Int) by omega]
  | succ e ih =>
    intro q K hq
    have hql : q < z.length := by omega
    have il := ih (q + 1) K (by omega)
    have ew : wrap64 ((q : Int) + 1) = ((q + 1 : Nat) : Int) := by rw [wrap64_of (by unfold I64; omega)]; omega
    rw [show e + 1 + 1 + K = (e + 1 + K) + 1 by omega, thrumlaw13_TableWhole.l1, if_pos (by omega), if_pos (by omega), if_pos (by omega), if_pos (by omega), if_pos (by omega), ew, il]
    by_cases c : rd z i ≥ rd z q
    · have h1 := F.mono i q hi hql c
      rw [if_pos c, if_pos (by omega), if_neg (by omega)]
      by_cases c2 : rd z i ≤ rd z q
      · have h2 := F.mono q i hql hi c2
        rw [if_pos c2, if_neg (by omega)]
      · rw [if_neg c2]
    · have h2 := F.mono q i hql hi (by omega)
      rw [if_neg c, if_pos (by omega), if_pos (by omega), if_neg (by omega)]
theorem sum_take (s : List Int) (i : Nat) (h : i < s.length) : sumI (s.take (i + 1)) = sumI (s.take i) + rd s i := by
  rw [List.take_add_one, List.getElem?_eq_getElem h, rd_nat h]
  exact sumI_app _ _
theorem whole_l0 (f : Int) (hf : 0 ≤ f ∧ f ≤ 30) (z s : List Int) (a : Int) (hb : IsBest z a) (F : Fine f z s a) (hl : z.length ≤ 4096) : ∀ (d i K : Nat), d + i = z.length → (z.length + 3) * d + 2 ≤ K →
    thrumlaw13_TableWhole.l0 K f z true s a (sumI (s.take i)) s (s.length : Int) (i : Int) = some true := by
  have hsl := F.len
  have hp := pow_pos_ f.toNat
  have h30 := pow_le30_ hf
  have ha0 := hb.1
  have ha1 := hb.2.1
  intro d
  induction d with
  | zero =>
    intro i K hd hK
    obtain ⟨k, rfl⟩ : ∃ k, K = k + 1 := ⟨K - 1, by omega⟩
    have hi : i = s.length := by omega
    have hw := F.whole
    have hm := F.more
    have hg := F.great
    have hsn := sumI_nn s (fun x hx => by obtain ⟨j, hj, rfl⟩ := List.mem_iff_getElem.1 hx; have := F.nonneg j (by omega); rwa [rd_nat hj] at this)
    rw [thrumlaw13_TableWhole.l0, if_neg (by omega), hi, List.take_length, if_pos hf.1, if_pos rfl, shl_pow hf, if_pos hw, wrap64_of (x := 2 ^ f.toNat - sumI s) (by unfold I64; omega), if_pos hm, if_pos ha0, if_pos (by omega), if_neg (by omega), Int.tdiv_eq_ediv_of_nonneg (by omega)]
    have q0 : 0 ≤ (2 : Int) ^ f.toNat / (z.length : Int) := Int.ediv_nonneg (by omega) (by omega)
    have q1 : (2 : Int) ^ f.toNat / (z.length : Int) ≤ 2 ^ f.toNat := Int.ediv_le_self _ (by omega)
    rw [wrap64_of (by unfold I64; omega)]
    congr 1
    exact decide_eq_true hg
  | succ d ih =>
    intro i K hd hK
    have hi : i < z.length := by omega
    rw [Nat.mul_succ] at hK
    obtain ⟨M, hM⟩ : ∃ M, (z.length + 3) * d = M := ⟨_, rfl⟩
    rw [hM] at hK
    obtain ⟨k, rfl⟩ : ∃ k, K = (i + 1 + k) + 1 + 1 := ⟨K - (i + 3), by omega⟩
    have h0 := F.nonneg i hi
    have h1 := F.most i hi
    have h2 := hb.2.2.1 i hi
    have hnn := sumI_nn (s.take i) (fun x hx => by obtain ⟨j, hj, rfl⟩ := List.mem_iff_getElem.1 (List.mem_of_mem_take hx); have := F.nonneg j (by omega); rwa [rd_nat hj] at this)
    have hub := sumI_ub (s.take i) 1073741824 (fun x hx => by obtain ⟨j, hj, rfl⟩ := List.mem_iff_getElem.1 (List.mem_of_mem_take hx); have := F.le j (by omega); rw [rd_nat hj] at this; omega)
    have htl : (s.take i).length = i := by simp; omega
    rw [htl] at hub
    have hle := F.le i hi
    have ew : wrap64 (sumI (s.take i) + rd s i) = sumI (s.take (i + 1)) := by rw [wrap64_of (by unfold I64; omega), sum_take s i (by omega)]
    have fin : ∀ b, b = false → thrumlaw13_TableWhole.j2 (i + 1 + k + 1) f z true s a (sumI (s.take (i + 1))) (i : Int) (rd s i) s (s.length : Int) (i : Int) b = some true := by
      intro b hb'
      subst hb'
      rw [thrumlaw13_TableWhole.j2, if_neg (by decide)]
      have := whole_l1 f z s a F hl (sumI (s.take (i + 1))) i hi i 0 k (by omega)
      refine Eq.trans this ?_
      exact ih (i + 1) k (by omega) (by omega)
    rw [thrumlaw13_TableWhole.l0, if_pos (by omega), if_pos (by omega), if_pos (by omega), if_neg (by omega), if_pos (by omega), if_pos ha0, if_pos ha1, if_neg (by omega), if_pos (by omega), if_neg (by omega), ew]
    by_cases c : rd z i = rd z a
    · rw [if_pos c]
      refine fin _ (decide_eq_false ?_)
      intro hlt
      have := hb.2.2.2 i hlt
      omega
    · rw [if_neg c]; exact fin _ rfl
theorem TableWhole : thrumlaw13_TableWhole.Pure := by
  intro a0 l1 w0 hm hs wl
  have h0 := i64_of_wf w0
  have hl := v64_of_wf wl
  refine ⟨(l1.length + 3) * l1.length + 2 + 1, ?_⟩
  unfold thrumlaw13_TableWhole.f
  rw [live13]
  simp only [Option.bind_some, if_true]
  obtain ⟨b, hb, hb2⟩ := few13 l1
  rw [hb]
  simp only [Option.bind_some]
  by_cases c : b = true
  · rw [if_pos c, table_Soft.of a0 l1 ⟨h0, hl⟩]
    simp only [Option.bind_some, table_Best.f]
    by_cases e : (softV a0 l1).2 = 0
    · obtain ⟨hf, hbest, hlen, hb0, hnear, es⟩ := softV_ok e
      have F := fine_of hf hbest
      rw [if_pos e, if_pos hb0, es]
      simp only []
      rw [if_pos (by have := F.len; omega), if_neg (by have := hbest.1; omega), thrumlaw13_TableWhole.j0, if_neg (by have := hbest.2.1; simp; omega)]
      have := whole_l0 a0 hf l1 _ _ hbest F hlen l1.length 0 ((l1.length + 3) * l1.length + 2) (by omega) (by omega)
      rw [List.take_zero] at this
      exact this
    · rw [if_neg e, softV_err e]; rfl
  · rw [if_neg c]
end Go.Proofs.Ytfbdalnjijdknaa.Pure
