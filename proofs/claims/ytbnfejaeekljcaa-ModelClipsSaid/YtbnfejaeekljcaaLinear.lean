/- What lines come to, as plain lists. No program in sight. -/
import Derived.Test.YtbnfejaeekljcaaVec
import Derived.Test.YtbnfejaeekljcaaTable
namespace Go.Proofs.Ytbnfejaeekljcaa.Sp
open Go.RowKit Go.Proofs.YtbnfejaeekljcaaW.PrintWords

/-- Samples, as pairs. -/
def dimL (n : Int) : Int × Int := if n < 1 ∨ n > 16 then (0, 1) else (n + 1, 0)
def fitsL (n : Int) (w : List Int) (l : List (List Int × Int)) : Prop := (w.length : Int) = n + 1 ∧ ∀ s ∈ l, (s.1.length : Int) = n
instance (n : Int) (w : List Int) (l : List (List Int × Int)) : Decidable (fitsL n w l) := by unfold fitsL; infer_instance
def checkL (n : Int) (w : List Int) (l : List (List Int × Int)) : Int := if n < 1 ∨ n > 16 then 1 else if ¬ fitsL n w l then 4 else if l.length = 0 ∨ l.length > 64 then 1 else 0
def tellL (w x : List Int) (f : Int) : Int × Int :=
  if checkL x.length w [(x, 0)] = 0 then (if (dotV (w.take x.length) x f).2 = 0 then res ((dotV (w.take x.length) x f).1 + rd w x.length) else (0, (dotV (w.take x.length) x f).2)) else (0, checkL x.length w [(x, 0)])
def offL (w x : List Int) (y f : Int) : Int × Int := if (tellL w x f).2 = 0 then res ((tellL w x f).1 - y) else (0, (tellL w x f).2)
def meanL (n : Int) (l : List (List Int)) : List Int × Int :=
  if n < 1 then ([], 1) else if (sumsV l).2 = 0 then seqV ((sumsV l).1.map fun x => divF x n 0) else ([], (sumsV l).2)
/-- How each sample bends. -/
def bendL (w : List Int) (f : Int) (s : List Int × Int) : List Int × Int :=
  if (offL w s.1 s.2 f).2 = 0 then (if (scaleV s.1 (offL w s.1 s.2 f).1 f).2 = 0 then ((scaleV s.1 (offL w s.1 s.2 f).1 f).1 ++ [(offL w s.1 s.2 f).1], 0) else ([], (scaleV s.1 (offL w s.1 s.2 f).1 f).2)) else ([], (offL w s.1 s.2 f).2)
/-- All of them, or the first error. -/
def rowsL {α : Type} (g : α → List Int × Int) : List α → List (List Int) × Int
  | [] => ([], 0)
  | s :: l => if (g s).2 = 0 then (if (rowsL g l).2 = 0 then ((g s).1 :: (rowsL g l).1, 0) else ([], (rowsL g l).2)) else ([], (g s).2)
def gradL (w : List Int) (f : Int) (l : List (List Int × Int)) : List Int × Int :=
  if checkL (wrap64 ((w.length : Int) - 1)) w l = 0 then (if (rowsL (bendL w f) l).2 = 0 then meanL l.length (rowsL (bendL w f) l).1 else ([], (rowsL (bendL w f) l).2)) else ([], checkL (wrap64 ((w.length : Int) - 1)) w l)
/-- A sample's loss. -/
def lossS (w : List Int) (f : Int) (s : List Int × Int) : Int × Int := if (offL w s.1 s.2 f).2 = 0 then mulF (offL w s.1 s.2 f).1 (offL w s.1 s.2 f).1 f else (0, (offL w s.1 s.2 f).2)
def lossL (w : List Int) (f : Int) (l : List (List Int × Int)) : Int × Int :=
  if checkL (wrap64 ((w.length : Int) - 1)) w l = 0 then sumV (l.map (lossS w f)) 0 else (0, checkL (wrap64 ((w.length : Int) - 1)) w l)

/-- A row of vectors, in rounds. -/
def rowsFrom {α : Type} (g : α → List Int × Int) (l : List α) (acc : List (List Int)) : List (List Int) × Int := if (rowsL g l).2 = 0 then (acc ++ (rowsL g l).1, 0) else ([], (rowsL g l).2)
theorem rowsFrom_nil {α : Type} (g : α → List Int × Int) (acc : List (List Int)) : rowsFrom g [] acc = (acc, 0) := by simp [rowsFrom, rowsL]
theorem rowsFrom_ok {α : Type} {g : α → List Int × Int} {x : α} {l : List α} {acc : List (List Int)} (h : (g x).2 = 0) : rowsFrom g (x :: l) acc = rowsFrom g l (acc ++ [(g x).1]) := by
  unfold rowsFrom
  simp only [rowsL, if_pos h]
  by_cases c : (rowsL g l).2 = 0
  · simp [c]
  · simp [c]
theorem rowsFrom_bad {α : Type} {g : α → List Int × Int} {x : α} {l : List α} {acc : List (List Int)} (h : (g x).2 ≠ 0) : rowsFrom g (x :: l) acc = ([], (g x).2) := by
  unfold rowsFrom
  simp only [rowsL, if_neg h]
theorem rowsL_err {α : Type} (g : α → List Int × Int) : ∀ l : List α, (rowsL g l).2 ≠ 0 → (rowsL g l).1 = []
  | [], c => absurd rfl c
  | x :: l, c => by
    simp only [rowsL] at c ⊢
    by_cases h : (g x).2 = 0
    · rw [if_pos h] at c ⊢
      by_cases h2 : (rowsL g l).2 = 0
      · rw [if_pos h2] at c; exact absurd rfl c
      · rw [if_neg h2]
    · rw [if_neg h]
theorem rowsFrom_start {α : Type} (g : α → List Int × Int) (l : List α) : rowsFrom g l [] = ((rowsL g l).1, (rowsL g l).2) := by
  unfold rowsFrom
  by_cases c : (rowsL g l).2 = 0
  · rw [if_pos c, List.nil_append, c]
  · rw [if_neg c, rowsL_err g l c]
theorem divF_i64 (a b f : Int) : I64 (divF a b f).1 := by
  unfold divF; split
  · exact i64_zero
  · exact res_i64 _
theorem tellL_i64 (w x : List Int) (f : Int) : I64 (tellL w x f).1 := by
  unfold tellL; split
  · split
    · exact res_i64 _
    · exact i64_zero
  · exact i64_zero
theorem offL_i64 (w x : List Int) (y f : Int) : I64 (offL w x y f).1 := by
  unfold offL; split
  · exact res_i64 _
  · exact i64_zero
theorem meanL_v64 (n : Int) (l : List (List Int)) : V64 (meanL n l).1 := by
  unfold meanL; split
  · exact V64.nil
  · split
    · refine seqV_v64 _ (fun p hp => ?_)
      obtain ⟨x, _, rfl⟩ := List.mem_map.1 hp
      exact divF_i64 _ _ _
    · exact V64.nil
theorem bendL_v64 (w : List Int) (f : Int) (s : List Int × Int) : V64 (bendL w f s).1 := by
  unfold bendL; split
  · split
    · exact (scaleV_v64 _ _ _).snoc (offL_i64 _ _ _ _)
    · exact V64.nil
  · exact V64.nil
theorem rowsL_v64 {α : Type} {g : α → List Int × Int} (hg : ∀ x, V64 (g x).1) : ∀ l : List α, ∀ v ∈ (rowsL g l).1, V64 v
  | [], v, hv => by simp [rowsL] at hv
  | x :: l, v, hv => by
    simp only [rowsL] at hv
    split at hv
    · split at hv
      · rcases List.mem_cons.1 hv with e | e
        · rw [e]; exact hg x
        · exact rowsL_v64 hg l v e
      · cases hv
    · cases hv
theorem gradL_v64 (w : List Int) (f : Int) (l : List (List Int × Int)) : V64 (gradL w f l).1 := by
  unfold gradL; split
  · split
    · exact meanL_v64 _ _
    · exact V64.nil
  · exact V64.nil
theorem checkL_len {n : Int} {w : List Int} {l : List (List Int × Int)} (h : checkL n w l = 0) : 1 ≤ n ∧ n ≤ 16 ∧ (w.length : Int) = n + 1 ∧ (∀ s ∈ l, (s.1.length : Int) = n) ∧ 0 < l.length ∧ l.length ≤ 64 := by
  unfold checkL at h
  by_cases c : n < 1 ∨ n > 16
  · rw [if_pos c] at h; cases h
  · rw [if_neg c] at h
    by_cases c2 : fitsL n w l
    · rw [if_neg (fun h => h c2)] at h
      by_cases c3 : l.length = 0 ∨ l.length > 64
      · rw [if_pos c3] at h; cases h
      · exact ⟨by omega, by omega, c2.1, c2.2, by omega, by omega⟩
    · rw [if_pos c2] at h; cases h
theorem checkL_of {n : Int} {w : List Int} {l : List (List Int × Int)} (h1 : 1 ≤ n) (h2 : n ≤ 16) (h3 : (w.length : Int) = n + 1) (h4 : ∀ s ∈ l, (s.1.length : Int) = n) (h5 : 0 < l.length) (h6 : l.length ≤ 64) : checkL n w l = 0 := by
  unfold checkL
  rw [if_neg (by omega), if_neg (fun h => h ⟨h3, h4⟩), if_neg (by omega)]

theorem seqV_lle : ∀ ps : List (Int × Int), (seqV ps).1.length ≤ ps.length
  | [] => by simp [seqV]
  | p :: ps => by
    have ih := seqV_lle ps
    simp only [seqV]
    split
    · split
      · simp only [List.length_cons]; omega
      · simp
    · simp
theorem scaleV_lle (a : List Int) (k f : Int) : (scaleV a k f).1.length ≤ 4096 := by
  unfold scaleV
  by_cases c : checkE a = 0
  · rw [if_pos c]
    have := checkE_le c
    split
    · have := seqV_lle (a.map fun x => mulF x k f); rw [List.length_map] at this; omega
    · simp
  · rw [if_neg c]; simp
theorem addV_lle (a b : List Int) : (addV a b).1.length ≤ 4096 := by
  unfold addV
  by_cases c : pairE a b = 0
  · rw [if_pos c]
    have := pairE_le c
    have := seqV_lle (List.zipWith (fun x y => res (x + y)) a b)
    rw [List.length_zipWith] at this; omega
  · rw [if_neg c]; simp
theorem sumFrom_lle : ∀ (l : List (List Int)) (out : List Int), out.length ≤ 4096 → (sumFrom l out).1.length ≤ 4096
  | [], out, h => h
  | v :: l, out, h => by
    simp only [sumFrom]
    split
    · exact sumFrom_lle l _ (addV_lle _ _)
    · simp
theorem sumsV_lle : ∀ l : List (List Int), (sumsV l).1.length ≤ 4096
  | [] => by simp [sumsV]
  | v :: l => by
    simp only [sumsV]
    by_cases c : checkE v = 0
    · rw [if_pos c]; exact sumFrom_lle l v (checkE_le c)
    · rw [if_neg c]; simp
theorem sumFrom_v64 : ∀ (l : List (List Int)) (out : List Int), V64 out → V64 (sumFrom l out).1
  | [], out, h => h
  | v :: l, out, h => by
    simp only [sumFrom]
    split
    · exact sumFrom_v64 l _ (addV_v64 _ _)
    · exact V64.nil
theorem sumsV_v64 : ∀ l : List (List Int), (∀ v ∈ l, V64 v) → V64 (sumsV l).1
  | [], _ => V64.nil
  | v :: l, h => by
    simp only [sumsV]
    split
    · exact sumFrom_v64 l v (h v (by simp))
    · exact V64.nil
theorem dotV_i64 (a b : List Int) (f : Int) : I64 (dotV a b f).1 := by
  unfold dotV
  split
  · split
    · exact sumV_i64 _ _ i64_zero
    · exact i64_zero
  · exact i64_zero

/-! ### Short names: a claim may have so many bytes -/
theorem zzN : type_of% @pw_below_drewN := @pw_below_drewN
theorem zzA : type_of% @below_alloc := @below_alloc
theorem zzD : type_of% @below_drew1 := @below_drew1
theorem rrA : type_of% @Kd.R_alloc := @Kd.R_alloc
theorem rrN : type_of% @Kd.R_drewN := @Kd.R_drewN
theorem rrD : type_of% @Kd.R_drew := @Kd.R_drew
theorem ccA : type_of% @Kd.C_alloc := @Kd.C_alloc
theorem ccN : type_of% @Kd.C_drewN := @Kd.C_drewN
theorem ccD : type_of% @Kd.C_drew := @Kd.C_drew
theorem kkN : type_of% @blk_drewN := @blk_drewN
theorem kkD : type_of% @blk_drew := @blk_drew
theorem kkA : type_of% @blk_alloc := @blk_alloc
theorem zzS : type_of% @below_size := @below_size
theorem zzT : type_of% @below_step := @below_step
theorem wwN : type_of% @World.drewN_drewN := @World.drewN_drewN
theorem ddR : type_of% @Drawn0.refl := @Drawn0.refl
theorem ddS : type_of% @Drawn0.step := @Drawn0.step
theorem ww3 (w : World) (a b c : Nat) : (w.drewN (a + b)).drewN c = w.drewN (a + (b + c)) := (World.drewN_drewN _ _ _).trans (congrArg (World.drewN _) (Nat.add_assoc _ _ _))
end Go.Proofs.Ytbnfejaeekljcaa.Sp
