/- MlpTurns: with two lines, and the last line's numbers for them, in each other's places the same is told, and all is to be bent likewise. -/
import Derived.Test.YtalamamjodihaaaHPx9
import Derived.Test.YtalamamjodihaaaPLinear
namespace Go.Proofs.Ytalamamjodihaaa.Pure
open Go.RowKit Go.Proofs.Ytalamamjodihaaa.HP Go.Proofs.YtalamamjodihaaaW.PrintWords Go.Proofs.YtalamamjodihaaaW.PrintLast Go.Proofs.YtalamamjodihaaaW.PrintMore Go.Proofs.Ytalamamjodihaaa.Sp
set_option linter.unusedVariables false
set_option linter.unusedSimpArgs false
theorem i64_wf {x : Int} (h : (Lit.int .i64 x).wf = true) : I64 x := by
  have hmin : IntKind.i64.min = -9223372036854775808 := rfl
  have hmax : IntKind.i64.max = 9223372036854775807 := rfl
  simp only [Lit.wf, Bool.and_eq_true, decide_eq_true_eq] at h
  unfold I64; omega
theorem v64_wf {l : List Int} (h : ∀ x ∈ l, (Lit.int .i64 x).wf = true) : V64 l := fun x hx => i64_wf (h x hx)
def Sm (l : List Int) : Prop := ∀ n ∈ l, -4096 ≤ n ∧ n ≤ 4096
/-- What is hidden of two lines: the same error, or the two numbers, in each other's places. -/
theorem hiddenM_two {r0 r1 x : List Int} (inn f : Int) (hl : r1.length = r0.length) (h0 : Sm r0) (h1 : Sm r1) (hx : Sm x) :
    (∃ e, e ≠ 0 ∧ hiddenM [r0, r1] inn x f = ([], e) ∧ hiddenM [r1, r0] inn x f = ([], e)) ∨
    ((0 ≤ f ∧ f ≤ 30) ∧ (x.length : Int) = inn ∧ x.length ≤ 16 ∧ ∃ a b, hiddenM [r0, r1] inn x f = ([a, b], 0) ∧ hiddenM [r1, r0] inn x f = ([b, a], 0) ∧ (0 ≤ a ∧ a ≤ 268439552) ∧ 0 ≤ b ∧ b ≤ 268439552) := by
  unfold hiddenM
  by_cases c0 : (x.length : Int) ≠ inn
  · rw [if_pos c0, if_pos c0]; exact .inl ⟨4, by decide, rfl, rfl⟩
  rw [if_neg c0, if_neg c0]
  by_cases c1 : f < 0 ∨ f > 30
  · rw [if_pos c1, if_pos c1]; exact .inl ⟨1, by decide, rfl, rfl⟩
  rw [if_neg c1, if_neg c1]
  have hf : 0 ≤ f ∧ f ≤ 30 := by omega
  have hs : checkL x.length r1 [(x, 0)] = checkL x.length r0 [(x, 0)] := checkL_same hl rfl
  simp only [List.map_cons, List.map_nil]
  by_cases c : checkL x.length r0 [(x, 0)] = 0
  · obtain ⟨a1, a2, a3, a4, a5⟩ := tellL_small (f := f) (A := 4096) (B := 4096) (by decide) (by decide) c h0 hx (by decide) (by decide) hf
    obtain ⟨b1, b2, b3, b4, b5⟩ := tellL_small (f := f) (A := 4096) (B := 4096) (by decide) (by decide) (hs.trans c) h1 hx (by decide) (by decide) hf
    rw [a1, b1]
    refine .inr ⟨hf, by omega, by have := (checkL_len c).2.1; omega, max (isum (dots f (r0.take x.length) x) + rd r0 x.length) 0, max (isum (dots f (r1.take x.length) x) + rd r1 x.length) 0, ?_, ?_, by omega, by omega, by omega⟩
    · simp [seqV, bendM]
    · simp [seqV, bendM]
  · rw [tellL_bad c, tellL_bad (by rw [hs]; exact c), hs]
    refine .inl ⟨_, c, ?_, ?_⟩ <;> · simp only [seqV]; rw [if_neg c, if_neg (by exact c)]
theorem tell_last {p q c a b f : Int} (hs : Sm [p, q, c]) (hf : 0 ≤ f ∧ f ≤ 30) (ha : 0 ≤ a ∧ a ≤ 268439552) (hb : 0 ≤ b ∧ b ≤ 268439552) :
    tellL [p, q, c] [a, b] f = (p * a / 2 ^ f.toNat + q * b / 2 ^ f.toNat + c, 0) := by
  have hc : checkL ([a, b] : List Int).length [p, q, c] [([a, b], 0)] = 0 := checkL_of (by simp) (by simp) (by simp) (by simp) (by simp) (by simp)
  obtain ⟨a1, -⟩ := tellL_small (f := f) (A := 4096) (B := 268439552) (by decide) (by decide) hc hs (by intro n hn; simp at hn; omega) (by decide) (by decide) hf
  rw [a1]
  simp [dots, isum, rd]
/-- What is told of two lines: the same, in each other's places. -/
theorem ptellM_two {r0 r1 x : List Int} {p q c : Int} (inn f : Int) (hl : r1.length = r0.length) (h0 : Sm r0) (h1 : Sm r1) (hx : Sm x) (hp : Sm [p, q, c]) :
    (∃ e, e ≠ 0 ∧ ptellM [r0, r1] [p, q, c] inn x f = ([], 0, e) ∧ ptellM [r1, r0] [q, p, c] inn x f = ([], 0, e)) ∨
    ((0 ≤ f ∧ f ≤ 30) ∧ (x.length : Int) = inn ∧ x.length ≤ 16 ∧ ∃ a b y, ptellM [r0, r1] [p, q, c] inn x f = ([a, b], y, 0) ∧ ptellM [r1, r0] [q, p, c] inn x f = ([b, a], y, 0) ∧ (0 ≤ a ∧ a ≤ 268439552) ∧ 0 ≤ b ∧ b ≤ 268439552) := by
  unfold ptellM
  rcases hiddenM_two inn f hl h0 h1 hx with ⟨e, he, e1, e2⟩ | ⟨hf, hn, h16, a, b, e1, e2, ha, hb⟩
  · rw [e1, e2]; exact .inl ⟨e, he, if_neg he, if_neg he⟩
  · rw [e1, e2]
    refine .inr ⟨hf, hn, h16, a, b, p * a / 2 ^ f.toNat + q * b / 2 ^ f.toNat + c, ?_, ?_, ha, hb⟩
    · rw [if_pos rfl]
      dsimp only
      rw [tell_last hp hf ha hb]
    · rw [if_pos rfl]
      dsimp only
      rw [tell_last (by intro n hn; refine hp n ?_; simp only [List.mem_cons, List.not_mem_nil, or_false] at hn ⊢; rcases hn with h | h | h <;> simp [h]) hf hb ha]
      congr 2
      omega
def Pm (off f n v : Int) : Int × Int := if n > 0 then mulF off v f else (0, 0)
theorem mulF_two {a b f : Int} (hf : 0 ≤ f ∧ f ≤ 30) : (mulF a b f).2 = 0 ∨ mulF a b f = (0, 2) := by
  unfold mulF; rw [if_pos hf]; unfold res; split
  · exact .inl rfl
  · exact .inr rfl
theorem Pm_two {off f n v : Int} (hf : 0 ≤ f ∧ f ≤ 30) : (Pm off f n v).2 = 0 ∨ Pm off f n v = (0, 2) := by
  unfold Pm; split
  · exact mulF_two hf
  · exact .inl rfl
theorem seqV_two : ∀ (l : List (Int × Int)), (∀ p ∈ l, p.2 = 0 ∨ p = (0, 2)) → (seqV l).2 = 0 ∨ seqV l = ([], 2)
  | [], _ => .inl rfl
  | p :: l, h => by
    unfold seqV
    rcases h p (by simp) with c | c
    · rw [if_pos c]
      rcases seqV_two l (fun q hq => h q (by simp [hq])) with d | d
      · rw [if_pos d]; exact .inl rfl
      · rw [d]; exact .inr rfl
    · rw [c]; exact .inr rfl
theorem scaleV_two' {x : List Int} {k f : Int} (hx : x.length ≤ 4096) (hf : 0 ≤ f ∧ f ≤ 30) : (scaleV x k f).2 = 0 ∨ scaleV x k f = ([], 2) := by
  unfold scaleV
  rw [if_pos (checkE_of hx), if_pos (fracE_of hf.1 hf.2)]
  refine seqV_two _ fun p hp => ?_
  obtain ⟨y, -, rfl⟩ := List.mem_map.1 hp
  exact mulF_two hf
/-- How two lines and the last one are bent. -/
theorem endM_two {last x : List Int} {off f a b : Int} (hx : x.length ≤ 16) (hf : 0 ≤ f ∧ f ≤ 30) (u v : Int) (hu : rd last 0 = u) (hv : rd last 1 = v) :
    endM last x off f [a, b] = if ((Pm off f a u).2 = 0 ∧ (scaleV x (Pm off f a u).1 f).2 = 0) ∧ ((Pm off f b v).2 = 0 ∧ (scaleV x (Pm off f b v).1 f).2 = 0) ∧ (mulF a off f).2 = 0 ∧ (mulF b off f).2 = 0 then
      (((scaleV x (Pm off f a u).1 f).1 ++ [(Pm off f a u).1]) ++ ((scaleV x (Pm off f b v).1 f).1 ++ [(Pm off f b v).1]) ++ [(mulF a off f).1, (mulF b off f).1, off], 0) else ([], 2) := by
  have hs : scaleV [a, b] off f = if (mulF a off f).2 = 0 ∧ (mulF b off f).2 = 0 then ([(mulF a off f).1, (mulF b off f).1], 0) else ([], 2) := by
    unfold scaleV
    rw [if_pos (checkE_of (by simp)), if_pos (fracE_of hf.1 hf.2)]
    simp only [List.map_cons, List.map_nil, seqV]
    rcases mulF_two (a := a) (b := off) hf with c | c <;> rcases mulF_two (a := b) (b := off) hf with d | d
    · simp [c, d]
    · simp [c, d]
    · simp [c, d]
    · simp [c, d]
  have b1 : ∀ e : Int, byM last off f a 0 e = if e = 0 then Pm off f a u else (0, e) := fun e => by
    unfold byM Pm
    rw [show ((0 : Nat) : Int) = 0 from rfl, hu]
    by_cases h : a > 0 <;> by_cases k : e = 0 <;> simp [h, k]
  have b2 : ∀ e : Int, byM last off f b 1 e = if e = 0 then Pm off f b v else (0, e) := fun e => by
    unfold byM Pm
    rw [show ((1 : Nat) : Int) = 1 from rfl, hv]
    by_cases h : b > 0 <;> by_cases k : e = 0 <;> simp [h, k]
  unfold endM
  simp only [stepsM, b1, b2, Nat.zero_add, if_true]
  rcases Pm_two (off := off) (f := f) (n := a) (v := u) hf with c1 | c1
  · rcases scaleV_two' (x := x) (k := (Pm off f a u).1) (f := f) (by omega) hf with c2 | c2
    · rcases Pm_two (off := off) (f := f) (n := b) (v := v) hf with c3 | c3
      · rcases scaleV_two' (x := x) (k := (Pm off f b v).1) (f := f) (by omega) hf with c4 | c4
        · by_cases c5 : (mulF a off f).2 = 0 ∧ (mulF b off f).2 = 0
          · simp [addE, addG, c1, c2, c3, c4, hs, c5]
          · simp [addE, addG, c1, c2, c3, c4, hs, c5]
        · simp [addE, addG, c1, c2, c3, c4, hs]
      · simp [addE, addG, c1, c2, c3, hs]
    · simp [addE, addG, c1, c2, hs]
  · simp [addE, addG, c1, hs]
/-- A row told as two of the same length and three numbers behind: these in each other's places. -/
def twoS (a b : List Int) (p q c : Int) : List Int := a ++ b ++ [p, q, c]
theorem twoS_len (a b : List Int) (p q c : Int) : (twoS a b p q c).length = a.length + b.length + 3 := by simp [twoS]; omega
theorem twoS_rd (a b : List Int) (p q c : Int) : rd (twoS a b p q c) ((a.length + b.length : Nat) : Int) = p ∧ rd (twoS a b p q c) ((a.length + b.length + 1 : Nat) : Int) = q ∧ rd (twoS a b p q c) ((a.length + b.length + 2 : Nat) : Int) = c := by
  have h : ∀ j : Nat, j < 3 → rd (twoS a b p q c) ((a.length + b.length + j : Nat) : Int) = ([p, q, c] : List Int)[j]?.getD 0 := fun j hj => by
    rw [rd_nat (by rw [twoS_len]; omega)]
    unfold twoS
    rw [List.getElem_append_right (by simp)]
    simp only [List.length_append]
    rw [List.getElem?_eq_getElem (by simpa using hj)]
    simp
  exact ⟨h 0 (by omega), h 1 (by omega), h 2 (by omega)⟩
theorem splitM_two {r0 r1 : List Int} {m : Nat} {p q c : Int} (h0 : r0.length = m) (h1 : r1.length = m) (hm2 : 2 ≤ m) (hm17 : m ≤ 17) :
    splitM 2 (twoS r0 r1 p q c) = ([r0, r1], [p, q, c], 0) ∧ lenM 2 (twoS r0 r1 p q c) = m := by
  have hlen : (twoS r0 r1 p q c).length = 2 * m + 3 := by rw [twoS_len]; omega
  have hm : lenM 2 (twoS r0 r1 p q c) = m := by unfold lenM; omega
  refine ⟨?_, hm⟩
  have hg : goodNet 2 (twoS r0 r1 p q c) := ⟨by omega, by omega, by omega⟩
  unfold splitM
  rw [if_neg (by unfold badHid; omega), show (2 : Int).toNat = 2 from rfl, if_pos hg, hm]
  have a1 : Sp.rowAt m (twoS r0 r1 p q c) 0 = r0 := by
    unfold Sp.rowAt twoS
    rw [Nat.zero_mul, List.drop_zero, List.append_assoc, List.take_append_of_le_length (by omega), List.take_of_length_le (by omega)]
  have a2 : Sp.rowAt m (twoS r0 r1 p q c) 1 = r1 := by
    unfold Sp.rowAt twoS
    rw [Nat.one_mul, List.append_assoc, List.drop_append_of_le_length (by omega), List.drop_of_length_le (by omega), List.nil_append, List.take_append_of_le_length (by omega), List.take_of_length_le (by omega)]
  have a3 : (twoS r0 r1 p q c).drop (2 * m) = [p, q, c] := by
    unfold twoS
    rw [show 2 * m = (r0 ++ r1).length by rw [List.length_append]; omega, List.drop_left]
  rw [a3]
  have e : rowsM 2 m (twoS r0 r1 p q c) = [Sp.rowAt m (twoS r0 r1 p q c) 0, Sp.rowAt m (twoS r0 r1 p q c) 1] := rfl
  rw [e, a1, a2]
theorem twoS_of {w : List Int} {m : Nat} (h : w.length = 2 * m + 3) : ∃ r0 r1 p q c, w = twoS r0 r1 p q c ∧ r0.length = m ∧ r1.length = m := by
  have h3 : (w.drop (2 * m)).length = 3 := by rw [List.length_drop]; omega
  obtain ⟨p, q, c, hl⟩ : ∃ p q c, w.drop (2 * m) = [p, q, c] := by
    match h' : w.drop (2 * m), h3 with
    | [p, q, c], _ => exact ⟨p, q, c, rfl⟩
  refine ⟨w.take m, (w.drop m).take m, p, q, c, ?_, by rw [List.length_take]; omega, by rw [List.length_take, List.length_drop]; omega⟩
  unfold twoS
  rw [← hl, List.append_assoc, show 2 * m = m + m by omega, ← List.drop_drop, List.take_append_drop, List.take_append_drop]
/-- What comes of all, for one sample: the same error, or one told as two and in each other's places. -/
theorem gradM_two {r0 r1 x : List Int} {m : Nat} {p q c y f : Int} (h0 : r0.length = m) (h1 : r1.length = m) (hm2 : 2 ≤ m) (hm17 : m ≤ 17) (s0 : Sm r0) (s1 : Sm r1) (hx : Sm x) (hp : Sm [p, q, c]) :
    (∃ e, e ≠ 0 ∧ gradM 2 (twoS r0 r1 p q c) f [(x, y)] = ([], e) ∧ gradM 2 (twoS r1 r0 q p c) f [(x, y)] = ([], e)) ∨
    (∃ A B u v o, gradM 2 (twoS r0 r1 p q c) f [(x, y)] = (twoS A B u v o, 0) ∧ gradM 2 (twoS r1 r0 q p c) f [(x, y)] = (twoS B A v u o, 0) ∧ A.length = m ∧ B.length = m) := by
  obtain ⟨e1, l1⟩ := splitM_two (p := p) (q := q) (c := c) h0 h1 hm2 hm17
  obtain ⟨e2, l2⟩ := splitM_two (p := q) (q := p) (c := c) h1 h0 hm2 hm17
  have hlen : (twoS r1 r0 q p c).length = (twoS r0 r1 p q c).length := by rw [twoS_len, twoS_len]; omega
  have hck : checkM ((m : Int) - 1) 2 (twoS r1 r0 q p c) [(x, y)] = checkM ((m : Int) - 1) 2 (twoS r0 r1 p q c) [(x, y)] := by unfold checkM; rw [hlen]
  unfold gradM
  rw [show (2 : Int).toNat = 2 from rfl, e1, e2, l1, l2, hck]
  dsimp only
  rw [if_neg (not_not_intro rfl), if_neg (not_not_intro rfl)]
  by_cases c0 : checkM ((m : Int) - 1) 2 (twoS r0 r1 p q c) [(x, y)] = 0
  · rw [if_neg (not_not_intro c0), if_neg (not_not_intro c0)]
    have hb : (∃ e, e ≠ 0 ∧ bendN [r0, r1] [p, q, c] ((m : Int) - 1) x y f = ([], e) ∧ bendN [r1, r0] [q, p, c] ((m : Int) - 1) x y f = ([], e)) ∨
        (∃ A B u v o, bendN [r0, r1] [p, q, c] ((m : Int) - 1) x y f = (twoS A B u v o, 0) ∧ bendN [r1, r0] [q, p, c] ((m : Int) - 1) x y f = (twoS B A v u o, 0) ∧ A.length = m ∧ B.length = m) := by
      unfold bendN
      rcases ptellM_two ((m : Int) - 1) f (h1.trans h0.symm) s0 s1 hx hp with ⟨e, he, d1, d2⟩ | ⟨hf, hn, h16, a, b, t, d1, d2, ha, hb⟩
      · rw [d1, d2]
        dsimp only
        rw [if_pos he, if_pos he]
        exact .inl ⟨e, he, rfl, rfl⟩
      · rw [d1, d2]
        dsimp only
        rw [if_neg (not_not_intro rfl), if_neg (not_not_intro rfl)]
        rcases res_snd2 (t - y) with g | g
        · rw [if_neg (not_not_intro g), if_neg (not_not_intro g)]
          generalize (res (t - y)).1 = off
          rw [endM_two h16 hf p q rfl rfl, endM_two h16 hf q p rfl rfl]
          by_cases k : ((Pm off f a p).2 = 0 ∧ (scaleV x (Pm off f a p).1 f).2 = 0) ∧ ((Pm off f b q).2 = 0 ∧ (scaleV x (Pm off f b q).1 f).2 = 0) ∧ (mulF a off f).2 = 0 ∧ (mulF b off f).2 = 0
          · rw [if_pos k, if_pos ⟨k.2.1, k.1, k.2.2.2, k.2.2.1⟩]
            have hsl : ∀ z : Int, (scaleV x z f).2 = 0 → (scaleV x z f).1.length = x.length := fun z hz => by
              unfold scaleV at hz ⊢
              rw [if_pos (checkE_of (by omega)), if_pos (fracE_of hf.1 hf.2)] at hz ⊢
              rw [seqV_mlen _ hz, List.length_map]
            refine .inr ⟨_, _, _, _, _, rfl, rfl, ?_, ?_⟩
            · rw [List.length_append, hsl _ k.1.2, List.length_singleton]; omega
            · rw [List.length_append, hsl _ k.2.1.2, List.length_singleton]; omega
          · rw [if_neg k, if_neg (fun k' => k ⟨k'.2.1, k'.1, k'.2.2.2, k'.2.2.1⟩)]
            exact .inl ⟨2, by decide, rfl, rfl⟩
        · rw [g]
          exact .inl ⟨2, by decide, rfl, rfl⟩
    simp only [rowsL]
    have hf1 := bendN_few [r0, r1] [p, q, c] ((m : Int) - 1) x y f (by simp) (by omega)
    have hf2 := bendN_few [r1, r0] [q, p, c] ((m : Int) - 1) x y f (by simp) (by omega)
    rcases hb with ⟨e, he, d1, d2⟩ | ⟨A, B, u, v, o, d1, d2, hA, hB⟩
    · rw [d1, d2]
      dsimp only
      rw [if_neg he, if_neg he]
      exact .inl ⟨e, he, rfl, rfl⟩
    · rw [d1] at hf1 ⊢
      rw [d2] at hf2 ⊢
      have ha : (twoS A B u v o).length ≤ 4096 := by rw [twoS_len]; omega
      have hb : (twoS B A v u o).length ≤ 4096 := by rw [twoS_len]; omega
      refine .inr ⟨A, B, u, v, o, ?_, ?_, hA, hB⟩
      · simp only [if_true]
        exact meanL_one hf1.1 ha
      · simp only [if_true]
        exact meanL_one hf2.1 hb
  · rw [if_pos c0, if_pos c0]
    exact .inl ⟨_, c0, rfl, rfl⟩
theorem tellM_two {r0 r1 x : List Int} {m : Nat} {p q c f : Int} (h0 : r0.length = m) (h1 : r1.length = m) (hm2 : 2 ≤ m) (hm17 : m ≤ 17) (s0 : Sm r0) (s1 : Sm r1) (hx : Sm x) (hp : Sm [p, q, c]) :
    tellM 2 (twoS r1 r0 q p c) x f = tellM 2 (twoS r0 r1 p q c) x f := by
  obtain ⟨e1, l1⟩ := splitM_two (p := p) (q := q) (c := c) h0 h1 hm2 hm17
  obtain ⟨e2, l2⟩ := splitM_two (p := q) (q := p) (c := c) h1 h0 hm2 hm17
  unfold tellM
  rw [show (2 : Int).toNat = 2 from rfl, e1, e2, l1, l2]
  dsimp only
  rw [if_pos rfl, if_pos rfl]
  rcases ptellM_two ((m : Int) - 1) f (h1.trans h0.symm) s0 s1 hx hp with ⟨e, he, d1, d2⟩ | ⟨hf, hn, h16, a, b, t, d1, d2, ha, hb⟩
  · rw [d1, d2]
  · rw [d1, d2]
theorem turn_two {A B : List Int} {n : Nat} (u v o : Int) (hA : A.length = n) (hB : B.length = n) (hn : n ≤ 100000) : thrumlaw16_MlpTurns_1.f (twoS A B u v o) = some (twoS B A v u o) := by
  have hl := twoS_len A B u v o
  rw [hA, hB] at hl
  have w0 : wrap64 (((twoS A B u v o).length : Int) - 3) = 2 * (n : Int) := by rw [hl]; exact (wrap64_of (x := ((n + n + 3 : Nat) : Int) - 3) (by unfold I64; omega)).trans (by omega)
  have w1 : wrap64 (Int.tdiv (2 * (n : Int)) 2) = (n : Int) := by rw [Int.mul_tdiv_cancel_left _ (by decide)]; exact wrap64_of (x := (n : Int)) (by unfold I64; omega)
  have w2 : wrap64 (2 * (n : Int)) = ((n + n : Nat) : Int) := (wrap64_of (x := 2 * (n : Int)) (by unfold I64; omega)).trans (by omega)
  have w3 : wrap64 (((n + n : Nat) : Int) + 1) = ((n + n + 1 : Nat) : Int) := (wrap64_of (x := ((n + n : Nat) : Int) + 1) (by unfold I64; omega)).trans (by omega)
  have w4 : wrap64 (((n + n : Nat) : Int) + 2) = ((n + n + 2 : Nat) : Int) := (wrap64_of (x := ((n + n : Nat) : Int) + 2) (by unfold I64; omega)).trans (by omega)
  have t1 : ((twoS A B u v o).take (n + n)).drop n = B := by
    unfold twoS
    rw [List.take_append_of_le_length (by simp; omega), List.take_of_length_le (by simp; omega), ← hA, List.drop_left]
  have t2 : (twoS A B u v o).take n = A := by
    unfold twoS
    rw [List.append_assoc, List.take_append_of_le_length (by omega), List.take_of_length_le (by omega)]
  have hlB := hB
  have hlA := hA
  have q1 : (0 : Int) ≤ n := by omega
  have q2 : (n : Int) ≤ ((n + n : Nat) : Int) := by omega
  have q3 : ((n + n : Nat) : Int) ≤ ((twoS A B u v o).length : Int) := by omega
  have q4 : (n : Int) ≤ ((twoS A B u v o).length : Int) := by omega
  have q5 : (0 : Int) ≤ ((n + n + 1 : Nat) : Int) := by omega
  have q6 : ((n + n + 1 : Nat) : Int) < ((twoS A B u v o).length : Int) := by omega
  have q7 : (0 : Int) ≤ ((n + n : Nat) : Int) := by omega
  have q8 : ((n + n : Nat) : Int) < ((twoS A B u v o).length : Int) := by omega
  have q9 : (0 : Int) ≤ ((n + n + 2 : Nat) : Int) := by omega
  have q10 : ((n + n + 2 : Nat) : Int) < ((twoS A B u v o).length : Int) := by omega
  have p1 : ([] : List Int).length + B.length < 17592186044416 := by rw [List.length_nil]; omega
  have p2 : B.length + A.length < 17592186044416 := by omega
  have p3 : (B ++ A).length + 3 < 17592186044416 := by rw [List.length_append]; omega
  obtain ⟨r0, r1, r2⟩ := twoS_rd A B u v o
  rw [hA, hB] at r0 r1 r2
  unfold thrumlaw16_MlpTurns_1.f
  simp only [w0, w1, w2, w3, w4, Int.toNat_natCast, t1, t2, r0, r1, r2]
  rw [if_pos q1, if_pos q2, if_pos q3, if_pos p1, Option.bind_some, if_pos q4, List.nil_append, if_pos p2, Option.bind_some, if_pos q5, if_pos q6, if_pos q7, if_pos q8, if_pos q9, if_pos q10, Option.bind_some]
  exact if_pos p3
theorem sm_app {a b : List Int} (h : Sm (a ++ b)) : Sm a ∧ Sm b := ⟨fun n hn => h n (List.mem_append_left _ hn), fun n hn => h n (List.mem_append_right _ hn)⟩
theorem turns_end {r0 r1 : List Int} {p q c f : Int} {m : Nat} (s : S26) (l : List S26) (h0 : r0.length = m) (h1 : r1.length = m) (hm2 : 2 ≤ m) (hm17 : m ≤ 17) (hw : V64 (twoS r0 r1 p q c)) (hw2 : V64 (twoS r1 r0 q p c)) (hs : V64 s.f0 ∧ I64 s.f1) (hx : Sm (twoS r0 r1 p q c ++ s.f0)) (y : List Int) :
    Evt (fun K => thrumlaw16_MlpTurns.l0 K (twoS r0 r1 p q c) f (s :: l) true (twoS r1 r0 q p c) y (y.length : Int) (y.length : Int)) := by
  obtain ⟨hs1, hs2⟩ := sm_app hx
  obtain ⟨hs3, hs4⟩ := sm_app (show Sm ((r0 ++ r1) ++ [p, q, c]) from hs1)
  obtain ⟨hs5, hs6⟩ := sm_app hs3
  have ht := tellM_two (f := f) h0 h1 hm2 hm17 hs5 hs6 hs2 hs4
  have e1 := mlp_Tell.of 2 (twoS r0 r1 p q c) s.f0 f ⟨hw, hs.1⟩
  have e2 := mlp_Tell.of 2 (twoS r1 r0 q p c) s.f0 f ⟨hw2, hs.1⟩
  have hv : ∀ z ∈ ([s] : List S26), V64 z.f0 ∧ I64 z.f1 := fun z hz => by cases List.mem_singleton.1 hz; exact hs
  have g1 := mlp_Grad.of 2 (twoS r0 r1 p q c) f [s] ⟨hw, hv⟩
  have g2 := mlp_Grad.of 2 (twoS r1 r0 q p c) f [s] ⟨hw2, hv⟩
  have hk : Evt (fun K => thrumlaw16_MlpTurns.j2 K (twoS r0 r1 p q c) true (gradM 2 (twoS r0 r1 p q c) f [(s.f0, s.f1)]).1 (gradM 2 (twoS r0 r1 p q c) f [(s.f0, s.f1)]).2 (gradM 2 (twoS r1 r0 q p c) f [(s.f0, s.f1)]).1 ((gradM 2 (twoS r0 r1 p q c) f [(s.f0, s.f1)]).2 != (gradM 2 (twoS r1 r0 q p c) f [(s.f0, s.f1)]).2)) := by
    refine Evt.done (fun K => ?_)
    rw [thrumlaw16_MlpTurns.j2.eq_2]
    rcases gradM_two (y := s.f1) (f := f) h0 h1 hm2 hm17 hs5 hs6 hs2 hs4 with ⟨e, he, d1, d2⟩ | ⟨A, B, u, v, o, d1, d2, hA, hB⟩
    · rw [d1, d2]
      dsimp only
      rw [if_neg (by simp), if_pos rfl, if_neg he]
    · rw [d1, d2]
      dsimp only
      rw [if_neg (by simp), if_pos rfl, if_pos rfl, if_pos (by rw [twoS_len, twoS_len]; omega), turn_two u v o hA hB (by omega), Option.bind_some]
      simp [thrumref02_Same.f]
  refine Evt.step hk (fun K => ?_)
  rw [thrumlaw16_MlpTurns.l0.eq_2, if_neg (by omega), if_pos (by simp)]
  show ((mlp_Tell.f 2 (twoS r0 r1 p q c) s.f0 f).bind fun bt217 => _) = _
  rw [e1, Option.bind_some]
  show ((mlp_Tell.f 2 (twoS r1 r0 q p c) s.f0 f).bind fun bt220 => _) = _
  rw [e2, Option.bind_some]
  show ((mlp_Grad.f 2 (twoS r0 r1 p q c) f [s]).bind fun bt226 => _) = _
  rw [g1, Option.bind_some]
  show ((mlp_Grad.f 2 (twoS r1 r0 q p c) f [s]).bind fun bt234 => _) = _
  rw [g2, Option.bind_some, ht, if_pos rfl, if_pos rfl]
  rfl
theorem turns_l0 {r0 r1 : List Int} {p q c f : Int} {m : Nat} (s : S26) (l : List S26) (h0 : r0.length = m) (h1 : r1.length = m) (hm2 : 2 ≤ m) (hm17 : m ≤ 17) (hw : V64 (twoS r0 r1 p q c)) (hw2 : V64 (twoS r1 r0 q p c)) (hs : V64 s.f0 ∧ I64 s.f1) (hb : s.f0.length ≤ 100) : ∀ d i : Nat, d + i = (twoS r0 r1 p q c ++ s.f0).length → Sm ((twoS r0 r1 p q c ++ s.f0).take i) →
    Evt (fun K => thrumlaw16_MlpTurns.l0 K (twoS r0 r1 p q c) f (s :: l) true (twoS r1 r0 q p c) (twoS r0 r1 p q c ++ s.f0) ((twoS r0 r1 p q c ++ s.f0).length : Int) (i : Int)) := by
  intro d
  have hlen : (twoS r0 r1 p q c ++ s.f0).length ≤ 1000 := by rw [List.length_append, twoS_len]; omega
  induction d with
  | zero =>
    intro i hd ht
    rw [List.take_of_length_le (by omega)] at ht
    obtain rfl : i = (twoS r0 r1 p q c ++ s.f0).length := by omega
    exact turns_end s l h0 h1 hm2 hm17 hw hw2 hs ht _
  | succ d ih =>
    intro i hd ht
    have hi : i < (twoS r0 r1 p q c ++ s.f0).length := by omega
    have hr := rd_nat hi
    by_cases c1 : rd (twoS r0 r1 p q c ++ s.f0) (i : Int) > 4096
    · refine Evt.done (fun K => ?_)
      rw [thrumlaw16_MlpTurns.l0.eq_2, if_pos (by omega), if_pos (by omega), if_pos (by omega), if_pos c1]
    · by_cases c2 : rd (twoS r0 r1 p q c ++ s.f0) (i : Int) < -4096
      · refine Evt.done (fun K => ?_)
        rw [thrumlaw16_MlpTurns.l0.eq_2, if_pos (by omega), if_pos (by omega), if_pos (by omega), if_neg c1, if_pos c2]
      · refine Evt.step (ih (i + 1) (by omega) (fun n hn => ?_)) (fun K => ?_)
        · rw [List.take_add_one, List.getElem?_eq_getElem hi] at hn
          rcases List.mem_append.1 hn with hn | hn
          · exact ht n hn
          · rw [Option.toList_some, List.mem_singleton] at hn; rw [hn, ← hr]; omega
        · rw [thrumlaw16_MlpTurns.l0.eq_2, if_pos (by omega), if_pos (by omega), if_pos (by omega), if_neg c1, if_neg c2, wrap64_of (x := (i : Int) + 1) (by unfold I64; omega)]
          rfl
theorem MlpTurns : thrumlaw16_MlpTurns.Pure := by
  intro w f l wm hm wl wf wx
  have hw := v64_wf wl
  have hlv : ∀ s ∈ l, V64 s.f0 ∧ I64 s.f1 := fun s hs => ⟨v64_wf (wx.2 s hs).1.2, i64_wf (wx.2 s hs).2.1⟩
  refine Evt.get (F := fun k => thrumlaw16_MlpTurns.f k w f l) ?_
  unfold thrumlaw16_MlpTurns.f
  rw [show thrumlaw16_live.f = some true from rfl]
  simp only [Option.bind_some, if_true, thrumref14_Few.f, mlp_Split.f]
  have hj : ∀ e : Int, (e = 0 → l.length = 0) → Evt (fun K => thrumlaw16_MlpTurns.j0 K w f l true e true) := fun e he => Evt.done (fun K => by
    rw [thrumlaw16_MlpTurns.j0.eq_2, if_pos rfl, if_pos rfl]
    by_cases h : e = 0
    · rw [if_pos h, he h]; rfl
    · rw [if_neg h])
  split
  · rename_i hc
    have hc := of_decide_eq_true hc
    by_cases c : (splitM 2 w).2.2 = 0
    · obtain ⟨k, m, hk, hk1, hk8, hm2, hm17, hkm, hlm, hs⟩ := splitM_good c
      obtain rfl : k = 2 := by omega
      obtain ⟨r0, r1, p, q, c', rfl, h0, h1⟩ := twoS_of (w := w) (m := m) (by omega)
      obtain ⟨hsp, -⟩ := splitM_two (p := p) (q := q) (c := c') h0 h1 hm2 hm17
      rw [hsp]
      simp only [List.length_cons, List.length_nil, Nat.zero_add, Nat.reduceAdd]
      cases l with
      | nil => exact hj 0 (fun _ => rfl)
      | cons s l =>
        have hs := hlv s (by simp)
        have hb : s.f0.length ≤ 100 := hc.1 s (by simp)
        have hw2 : V64 (twoS r1 r0 q p c') := fun x hx => hw x (by simp only [twoS, List.mem_append, List.mem_cons, List.not_mem_nil, or_false] at hx ⊢; rcases hx with (h | h) | h | h | h <;> simp [h])
        have hwl := twoS_len r0 r1 p q c'
        refine Evt.same (Evt.step (turns_l0 (f := f) s l h0 h1 hm2 hm17 hw hw2 hs hb (twoS r0 r1 p q c' ++ s.f0).length 0 (by omega) (fun n hn => by simp at hn)) (F := fun K => thrumlaw16_MlpTurns.j0 K (twoS r0 r1 p q c') f (s :: l) true 0 false) (fun K => ?_)) (fun K => ?_)
        · rw [thrumlaw16_MlpTurns.j0.eq_2, if_neg (by decide), turn_two p q c' h0 h1 (by omega), Option.bind_some, if_pos (by rw [List.length_nil, hwl]; omega), Option.bind_some, if_pos (by simp)]
          show (if _ then (some (_ ++ s.f0)).bind _ else none) = _
          rw [List.nil_append, if_pos (by show _ + s.f0.length < _; rw [hwl]; omega)]
          rfl
        · rw [show (((s :: l).length : Int) == 0) = false from beq_eq_false_iff_ne.2 (by simp only [List.length_cons]; omega)]
          rfl
    · exact Evt.same (hj _ (fun h => absurd h c)) (fun K => if_neg c)
  · exact Evt.true
end Go.Proofs.Ytalamamjodihaaa.Pure
