/- TableShifts: all numbers greater by the same have the same shares. -/
import Derived.Test.YtfbdalnjijdknaaHTx28
import Derived.Test.YtfbdalnjijdknaaPTable2
namespace Go.Proofs.Ytfbdalnjijdknaa.Pure
open Go.RowKit Go.Proofs.Ytfbdalnjijdknaa.HT Go.Proofs.YtfbdalnjijdknaaW.PrintWords Go.Proofs.YtfbdalnjijdknaaW.PrintLast Go.Proofs.YtfbdalnjijdknaaW.PrintMore Go.Proofs.Ytfbdalnjijdknaa.Sp
set_option linter.unusedVariables false
set_option linter.unusedSimpArgs false
theorem live13 : thrumlaw13_live.f = some true := by decide +kernel
theorem few13 (l : List Int) : ∃ b, thrumlaw13_few.f l = some b ∧ (b = true → l.length ≤ 5000) := by
  unfold thrumlaw13_few.f
  split
  · exact ⟨true, rfl, fun _ => by omega⟩
  · split
    · exact ⟨_, rfl, fun h => by have := of_decide_eq_true h; omega⟩
    · exact ⟨false, rfl, fun h => by cases h⟩
theorem same02 (a b : List Int) : thrumref02_Same.f a b = some (decide (a = b)) := rfl
theorem shl_pow {f : Int} (hf : 0 ≤ f ∧ f ≤ 30) : shl .i64 1 f = 2 ^ f.toNat := by
  have hp := pow_pos_ f.toNat
  have h30 := pow_le30_ hf
  unfold shl
  rw [show min f.toNat IntKind.i64.bits = f.toNat from by show min f.toNat 64 = _; omega, iwrap, wrap64_of (by unfold I64; omega)]; omega
theorem rd_shift (z : List Int) (b : Int) (i : Nat) (h : i < z.length) : rd (z.map (· + b)) i = rd z i + b := by
  rw [rd_nat (by simpa using h), rd_nat h]; simp
theorem best_shift (z : List Int) (b : Int) : bestF (z.map (· + b)) = bestF z := by
  by_cases h : (bestF z).2 = 0
  · obtain ⟨hb, h0, h1⟩ := bestF_is h
    have e : bestF z = ((bestF z).1, 0) := Prod.ext rfl h
    rw [e]
    obtain ⟨b0, b1, b2, b3⟩ := hb
    refine bestF_of ⟨b0, by simpa using b1, fun j hj => ?_, fun j hj => ?_⟩ (by simpa using h1)
    · have hj' : j < z.length := by simpa using hj
      have := b2 j hj'
      have ea := rd_shift z b (bestF z).1.toNat (by omega)
      rw [show (((bestF z).1.toNat : Nat) : Int) = (bestF z).1 by omega] at ea
      rw [rd_shift z b j hj', ea]; omega
    · have := b3 j hj
      have ea := rd_shift z b (bestF z).1.toNat (by omega)
      rw [show (((bestF z).1.toNat : Nat) : Int) = (bestF z).1 by omega] at ea
      rw [rd_shift z b j (by omega), ea]; omega
  · unfold bestF at *
    simp only [List.length_map]
    split at h
    · rename_i c; rw [if_pos c, if_pos c]
    · rename_i c
      split at h
      · rename_i d; rw [if_neg c, if_neg c, if_pos d, if_pos d]
      · exact absurd rfl h
theorem soft_shift (f : Int) (z : List Int) (b : Int) (hz : ∀ x ∈ z, -2305843009213693952 ≤ x ∧ x ≤ 2305843009213693952) : softV f (z.map (· + b)) = softV f z := by
  by_cases h : (bestF z).2 = 0
  · by_cases hf : f < 0 ∨ f > 30
    · rw [softV_bad2 h hf, softV_bad2 (by rw [best_shift]; exact h) hf]
    · obtain ⟨hb, h0, h1⟩ := bestF_is h
      have h' : (bestF (z.map (· + b))).2 = 0 := by rw [best_shift]; exact h
      obtain ⟨hb', _, h1'⟩ := bestF_is h'
      rw [best_shift] at hb'
      have ea := rd_shift z b (bestF z).1.toNat (by have := hb.1; have := hb.2.1; omega)
      rw [show (((bestF z).1.toNat : Nat) : Int) = (bestF z).1 by have := hb.1; omega] at ea
      have hm := hz _ hb.mem
      have hn : NearB (rd z (bestF z).1) z := fun x hx => by have := hz x hx; omega
      have hn' : NearB (rd (z.map (· + b)) (bestF z).1) (z.map (· + b)) := fun x hx => by
        obtain ⟨y, hy, rfl⟩ := List.mem_map.1 hx
        have := hz y hy
        rw [ea]; omega
      rw [softV_near hb h1 (by omega) hn, softV_near hb' h1' (by omega) hn']
      have ep : pows (rd (z.map (· + b)) (bestF z).1) f (z.map (· + b)) = pows (rd z (bestF z).1) f z := by
        unfold pows
        rw [List.map_map]
        apply List.map_congr_left
        intro x _
        show powE (_ - (x + b)) f = _
        rw [ea]; congr 1; omega
      unfold shares
      rw [ep]
  · rw [softV_bad1 h, softV_bad1 (by rw [best_shift]; exact h), best_shift]
theorem shifts_l0 (a0 : Int) (ha : I64 a0) (z : List Int) (hz : V64 z) (hl : z.length ≤ 5000) (b : Int) (hb : -2305843009213693952 ≤ b ∧ b ≤ 2305843009213693952) : ∀ (d i : Nat) (acc : List Int), d + i = z.length → acc = (z.take i).map (· + b) → (∀ x ∈ z.take i, -2305843009213693952 ≤ x ∧ x ≤ 2305843009213693952) →
    thrumlaw13_TableShifts.l0 (d + 1) a0 z b true acc z (z.length : Int) (i : Int) = some true := by
  intro d
  induction d with
  | zero =>
    intro i acc hd hacc hin
    have hi : i = z.length := by omega
    subst hi
    rw [List.take_length] at hacc hin
    subst hacc
    have hv : V64 (z.map (· + b)) := by
      intro x hx
      obtain ⟨y, hy, rfl⟩ := List.mem_map.1 hx
      have := hin y hy
      unfold I64; omega
    rw [thrumlaw13_TableShifts.l0, if_neg (by omega), table_Soft.of a0 z ⟨ha, hz⟩, table_Soft.of a0 _ ⟨ha, hv⟩]
    simp only [Option.bind_some, table_Best.f, if_true, same02]
    rw [soft_shift a0 z b hin, best_shift]
    simp
  | succ d ih =>
    intro i acc hd hacc hin
    have hi : i < z.length := by omega
    rw [thrumlaw13_TableShifts.l0, if_pos (by omega), if_pos (by omega), if_pos (by omega), show rd z (i : Int) = z[i] from rd_nat hi]
    by_cases c1 : z[i] > 2305843009213693952
    · rw [if_pos c1]
    · rw [if_neg c1]
      by_cases c2 : z[i] < -2305843009213693952
      · rw [if_pos c2]
      · have hla : acc.length ≤ i := by rw [hacc]; simp; omega
        rw [if_neg c2, if_pos (by omega), wrap64_of (x := z[i] + b) (by unfold I64; omega), wrap64_of (by unfold I64; omega), show (i : Int) + 1 = ((i + 1 : Nat) : Int) by omega]
        refine ih (i + 1) _ (by omega) ?_ ?_
        · rw [hacc, List.take_add_one, List.getElem?_eq_getElem hi, List.map_append]; rfl
        · intro x hx
          rw [List.take_add_one, List.getElem?_eq_getElem hi] at hx
          rcases List.mem_append.1 hx with e | e
          · exact hin x e
          · simp at e; rw [e]; omega
theorem TableShifts : thrumlaw13_TableShifts.Pure := by
  intro a0 l1 a2 w0 hm hs wl w2
  have h0 := i64_of_wf w0
  have hl := v64_of_wf wl
  have h2 := i64_of_wf w2
  refine ⟨l1.length + 1, ?_⟩
  unfold thrumlaw13_TableShifts.f
  rw [live13]
  simp only [Option.bind_some, if_true]
  obtain ⟨b, hb, hb2⟩ := few13 l1
  rw [hb]
  simp only [Option.bind_some]
  by_cases c : b = true
  · rw [if_pos c]
    have ht1 := Int.tmod_lt_of_pos a2 (show (0 : Int) < 2305843009213693952 by decide)
    have ht2 : -2305843009213693952 < Int.tmod a2 2305843009213693952 := Int.lt_tmod_of_pos a2 (by decide)
    exact shifts_l0 a0 h0 l1 hl (hb2 c) _ (by omega) l1.length 0 [] (by omega) (by simp) (by simp)
  · rw [if_neg c]
end Go.Proofs.Ytfbdalnjijdknaa.Pure
