/- What Go functions do, each as a plain Lean function with the same answers, and the proof of it, in every world: printed by the session's driver over the kit's print, with texts by hand. -/
import Derived.Test.YtfbdalnjijdknaaHLx0
import Derived.Test.YtfbdalnjijdknaaHLx1
import Derived.Test.YtfbdalnjijdknaaHLx2
namespace Go.Proofs.Ytfbdalnjijdknaa.HL
open Go.RowKit Go.Proofs.YtfbdalnjijdknaaW.PrintWords Go.Proofs.YtfbdalnjijdknaaW.PrintLast Go.Proofs.YtfbdalnjijdknaaW.PrintMore
attribute [local go_sem] max2_int min2_int max_two min_two max_three min_three max_four min_four   -- for this text's walks alone
open Go.Proofs.Ytfbdalnjijdknaa.Sp
attribute [local go_sem] Go.Proofs.Ytfbdalnjijdknaa.Sp.u64_not
set_option linter.unusedVariables false
set_option linter.unusedSimpArgs false

/-! ### vec_Dot: function 104 -/
set_option maxHeartbeats 2000000 in
set_option maxRecDepth 100000 in
theorem vec_Dot_1.calls (b1 b2 b3 : Nat) (A0 : Option Addr) (c0 : Nat) (l0 : List Int) (A1 : Option Addr) (c1 : Nat) (l1 : List Int) (a2 : Int) (i : Nat) (W : World) (x e : Int)
    (hb1 : W.cell? ⟨b1, 0, none⟩ = some (.slice A0 l0.length c0)) (hb2 : W.cell? ⟨b2, 0, none⟩ = some (.slice A1 l1.length c1)) (hb3 : W.cell? ⟨b3, 0, none⟩ = some (.int .i64 a2))
    (hr0 : Kd.C (Kd.int .i64) W A0 l0.length l0) (hr1 : Kd.C (Kd.int .i64) W A1 l1.length l1) (h0 : i < l0.length) (h1 : i < l1.length)
    (h : fix_Mul.f (rd l0 i) (rd l1 i) a2 = some (x, e)) :
    Calls Try.prog 152 #[.int .i64 i, .pointer (some ⟨b1, 0, none⟩), .pointer (some ⟨b2, 0, none⟩), .pointer (some ⟨b3, 0, none⟩)] W fun ed W' => ed = .returned (.tuple #[.int .i64 x, .int .i64 e]) ∧ Below W.heap.size W W' := by
  obtain ⟨ad0, rfl, hc0⟩ := Kd.at_int hr0 (i : Int) (by omega) (by omega)
  obtain ⟨ad1, rfl, hc1⟩ := Kd.at_int hr1 (i : Int) (by omega) (by omega)
  simp only [Int.toNat_natCast] at hc0 hc1
  have HC := Aside0.mk h
  clear hr0 hr1 h
  go_enter Try.func152, Try.ntmps152
  go_wp2
  go_region_held3 (fun w' => w'.cell? ⟨b1, 0, none⟩ = some (.slice (some ad0) l0.length c0) ∧ w'.cell? ⟨b2, 0, none⟩ = some (.slice (some ad1) l1.length c1) ∧ w'.cell? ⟨b3, 0, none⟩ = some (.int .i64 a2) ∧ w'.cell? (ad0.add i) = some (.int .i64 (rd l0 i)) ∧ w'.cell? (ad1.add i) = some (.int .i64 (rd l1 i)))
    (first | go_keep | (go_split_ands; exact ⟨pw_cell_below hb (by assumption), pw_cell_below hb (by assumption), pw_cell_below hb (by assumption), pw_cell_below hb (by assumption), pw_cell_below hb (by assumption)⟩))
    ((go_at_call 131; (with_reducible refine (fix_Mul.calls (rd l0 i) (rd l1 i) a2 x e _ HC.out).mono ?_); rintro ed W2 ⟨rfl, hb⟩))
  go_wp2
  go_ret2
  exact ⟨rfl, below_then (below_drew (Below.refl _ _)) (Nat.le_refl _) hb⟩
def vec_Dot.f (l0 l1 : List Int) (a2 : Int) : Option (Int × Int) := if V64 l0 ∧ V64 l1 then some (dotV l0 l1 a2) else none
theorem vec_Dot.of (l0 l1 : List Int) (a2 : Int)  (h_ : V64 l0 ∧ V64 l1) : vec_Dot.f l0 l1 a2 = some (dotV l0 l1 a2) := if_pos h_
set_option maxHeartbeats 2000000 in
set_option maxRecDepth 100000 in
theorem vec_Dot.calls (A0 : Option Addr) (c0 : Nat) (l0 : List Int) (A1 : Option Addr) (c1 : Nat) (l1 : List Int) (a2 : Int) (r1 : Int) (r2 : Int) (w : World) (hr0 : Kd.C (Kd.int .i64) w A0 l0.length l0) (hc0 : l0.length ≤ c0) (hr1 : Kd.C (Kd.int .i64) w A1 l1.length l1) (hc1 : l1.length ≤ c1) (h : vec_Dot.f l0 l1 a2 = some (r1, r2)) :
    Calls Try.prog 104 #[.slice A0 l0.length c0, .slice A1 l1.length c1, .int .i64 a2] w fun e w' => e = .returned (.tuple #[.int .i64 r1, .int .i64 r2]) ∧ Below w.heap.size w w' := by
  unfold vec_Dot.f at h
  split at h
  case isFalse => cases h
  rename_i hv
  have h := Option.some.inj h
  unfold dotV at h
  have HR0 := Aside0.mk hr0
  have HC0 := Aside0.mk hc0
  have HR1 := Aside0.mk hr1
  have HC1 := Aside0.mk hc1
  clear hr0 hc0 hr1 hc1
  have HV := Aside0.mk hv
  clear hv
  try have hu22 := Try.underlying22
  try have hu3 := Try.underlying3
  have HP0 : Aside0 (vec_pair.f l0 l1 = some (pairE l0 l1)) := ⟨rfl⟩
  by_cases hp0 : pairE l0 l1 = 0
  · rw [if_pos hp0] at h
    rw [hp0] at HP0
    have HP1 : Aside0 (vec_behind.f a2 = some (fracE a2)) := ⟨vec_behind.of a2⟩
    by_cases hp1 : fracE a2 = 0
    · rw [if_pos hp1] at h
      rw [hp1] at HP1
      have HL : Aside0 (l0.length = l1.length) := ⟨pairE_len hp0⟩
      have HN : Aside0 (l0.length ≤ 4096) := ⟨pairE_le hp0⟩
      have HH := Aside0.mk h
      clear h hp0 hp1
      have HX0 : Aside0 ((((w.alloc (Obj.cells #[Value.slice A0 l0.length c0] 22)).alloc (Obj.cells #[Value.slice A1 l1.length c1] 22)).alloc (Obj.cells #[Value.int .i64 a2] 3)).cell? ⟨w.heap.size, 0, none⟩ = some (.slice A0 l0.length c0)) := ⟨by simp [go_sem]⟩
      have HX1 : Aside0 ((((w.alloc (Obj.cells #[Value.slice A0 l0.length c0] 22)).alloc (Obj.cells #[Value.slice A1 l1.length c1] 22)).alloc (Obj.cells #[Value.int .i64 a2] 3)).cell? ⟨w.heap.size + 1, 0, none⟩ = some (.slice A1 l1.length c1)) := ⟨by simp [go_sem]⟩
      have HX2 : Aside0 ((((w.alloc (Obj.cells #[Value.slice A0 l0.length c0] 22)).alloc (Obj.cells #[Value.slice A1 l1.length c1] 22)).alloc (Obj.cells #[Value.int .i64 a2] 3)).cell? ⟨w.heap.size + 2, 0, none⟩ = some (.int .i64 a2)) := ⟨by simp [go_sem]⟩
      have HB : Aside0 (Below w.heap.size w (((w.alloc (Obj.cells #[Value.slice A0 l0.length c0] 22)).alloc (Obj.cells #[Value.slice A1 l1.length c1] 22)).alloc (Obj.cells #[Value.int .i64 a2] 3))) := ⟨zzA (zzA (zzA (Below.refl _ _) _) _) _⟩
      go_enter Try.func104, Try.ntmps104
      go_wp2_with (first | (go_at_call 150; (with_reducible refine (vec_pair.calls A0 c0 l0 A1 c1 l1 0 _ (Kd.C_below HR0.out HB.out) HC0.out (Kd.C_below HR1.out HB.out) HC1.out HP0.out).mono ?_); rintro ed W1 ⟨rfl, hd⟩; have hb := hd; clear hd; have HB := Aside0.mk (below_then HB.out HB.out.size hb); have HX0 := Aside0.mk (pw_cell_below hb HX0.out); have HX1 := Aside0.mk (pw_cell_below hb HX1.out); have HX2 := Aside0.mk (pw_cell_below hb HX2.out); have hx0 := HX0.out; have hx1 := HX1.out; have hx2 := HX2.out; clear hb) | (go_at_call 133; (with_reducible refine (vec_behind.calls a2 0 _ HP1.out).mono ?_); rintro ed W1 ⟨rfl, hd⟩; have hb := hd; clear hd; have HB := Aside0.mk (below_then HB.out HB.out.size hb); have HX0 := Aside0.mk (pw_cell_below hb HX0.out); have HX1 := Aside0.mk (pw_cell_below hb HX1.out); have HX2 := Aside0.mk (pw_cell_below hb HX2.out); have hx0 := HX0.out; have hx1 := HX1.out; have hx2 := HX2.out; clear hb) | (go_at_call 151; (with_reducible refine (vec_total.calls 152 _ (fun i : Nat => fix_Mul.f (rd l0 i) (rd l1 i) a2) l0.length (by have := HN.out; omega) _ r1 r2 ?ent ?tells ?go).mono ?_); (case ent => exact enters_of Try.func152 rfl rfl); (case tells => intro i W x e hi hb hg; refine (vec_Dot_1.calls (w.heap.size) (w.heap.size + 1) (w.heap.size + 2) A0 c0 l0 A1 c1 l1 a2 i W x e (pw_cell_below hb HX0.out) (pw_cell_below hb HX1.out) (pw_cell_below hb HX2.out) (Kd.C_below (Kd.C_below HR0.out HB.out) hb) (Kd.C_below (Kd.C_below HR1.out HB.out) hb) (by have := HL.out; omega) (by have := HL.out; omega) hg).mono ?_; rintro ed W' ⟨rfl, hd⟩; exact ⟨rfl, hd⟩); (case go => exact (total_spec (fun a b ha hb => fix_Add.of a b ⟨ha, hb⟩) (zip_i64 (fun x y => mulF_i64 x y a2) l0 l1) (ps := List.zipWith (fun x y => mulF x y a2) l0 l1) (by have := HL.out; rw [List.length_zipWith]; omega) (fun j h => by rw [zip_get _ _ HL.out j h]; exact fix_Mul.of _ _ _ ⟨HV.out.1.rd _, HV.out.2.rd _⟩)).trans (congrArg some HH.out)); rintro ed W2 ⟨rfl, hb⟩; have HB2 := Aside0.mk (below_then HB.out HB.out.size hb); clear hb))
      go_ret2
      exact ⟨rfl, HB2.out⟩
    · rw [if_neg hp1] at h
      cases h
      have HX0 : Aside0 ((((w.alloc (Obj.cells #[Value.slice A0 l0.length c0] 22)).alloc (Obj.cells #[Value.slice A1 l1.length c1] 22)).alloc (Obj.cells #[Value.int .i64 a2] 3)).cell? ⟨w.heap.size, 0, none⟩ = some (.slice A0 l0.length c0)) := ⟨by simp [go_sem]⟩
      have HX1 : Aside0 ((((w.alloc (Obj.cells #[Value.slice A0 l0.length c0] 22)).alloc (Obj.cells #[Value.slice A1 l1.length c1] 22)).alloc (Obj.cells #[Value.int .i64 a2] 3)).cell? ⟨w.heap.size + 1, 0, none⟩ = some (.slice A1 l1.length c1)) := ⟨by simp [go_sem]⟩
      have HX2 : Aside0 ((((w.alloc (Obj.cells #[Value.slice A0 l0.length c0] 22)).alloc (Obj.cells #[Value.slice A1 l1.length c1] 22)).alloc (Obj.cells #[Value.int .i64 a2] 3)).cell? ⟨w.heap.size + 2, 0, none⟩ = some (.int .i64 a2)) := ⟨by simp [go_sem]⟩
      have HB : Aside0 (Below w.heap.size w (((w.alloc (Obj.cells #[Value.slice A0 l0.length c0] 22)).alloc (Obj.cells #[Value.slice A1 l1.length c1] 22)).alloc (Obj.cells #[Value.int .i64 a2] 3))) := ⟨zzA (zzA (zzA (Below.refl _ _) _) _) _⟩
      have he0 : (fracE a2 == 0) = false := beq_eq_false_iff_ne.2 hp1
      have he1 : (fracE a2 != 0) = true := bne_iff_ne.2 hp1
      obtain ⟨e_, hE⟩ : ∃ e_ : Int, fracE a2 = e_ := ⟨_, rfl⟩
      rw [hE] at HP1 he0 he1
      simp only [hE]
      clear hE hp1
      go_enter Try.func104, Try.ntmps104
      go_wp2_with (first | (go_at_call 150; (with_reducible refine (vec_pair.calls A0 c0 l0 A1 c1 l1 0 _ (Kd.C_below HR0.out HB.out) HC0.out (Kd.C_below HR1.out HB.out) HC1.out HP0.out).mono ?_); rintro ed W1 ⟨rfl, hd⟩; have hb := hd; clear hd; have HB := Aside0.mk (below_then HB.out HB.out.size hb); have HX0 := Aside0.mk (pw_cell_below hb HX0.out); have HX1 := Aside0.mk (pw_cell_below hb HX1.out); have HX2 := Aside0.mk (pw_cell_below hb HX2.out); have hx0 := HX0.out; have hx1 := HX1.out; have hx2 := HX2.out; clear hb) | (go_at_call 133; (with_reducible refine (vec_behind.calls a2 e_ _ HP1.out).mono ?_); rintro ed W1 ⟨rfl, hd⟩; have hb := hd; clear hd; have HB := Aside0.mk (below_then HB.out HB.out.size hb); have HX0 := Aside0.mk (pw_cell_below hb HX0.out); have HX1 := Aside0.mk (pw_cell_below hb HX1.out); have HX2 := Aside0.mk (pw_cell_below hb HX2.out); have hx0 := HX0.out; have hx1 := HX1.out; have hx2 := HX2.out; clear hb))
      go_ret2
      exact ⟨rfl, HB.out⟩
  · rw [if_neg hp0] at h
    cases h
    have HX0 : Aside0 ((((w.alloc (Obj.cells #[Value.slice A0 l0.length c0] 22)).alloc (Obj.cells #[Value.slice A1 l1.length c1] 22)).alloc (Obj.cells #[Value.int .i64 a2] 3)).cell? ⟨w.heap.size, 0, none⟩ = some (.slice A0 l0.length c0)) := ⟨by simp [go_sem]⟩
    have HX1 : Aside0 ((((w.alloc (Obj.cells #[Value.slice A0 l0.length c0] 22)).alloc (Obj.cells #[Value.slice A1 l1.length c1] 22)).alloc (Obj.cells #[Value.int .i64 a2] 3)).cell? ⟨w.heap.size + 1, 0, none⟩ = some (.slice A1 l1.length c1)) := ⟨by simp [go_sem]⟩
    have HX2 : Aside0 ((((w.alloc (Obj.cells #[Value.slice A0 l0.length c0] 22)).alloc (Obj.cells #[Value.slice A1 l1.length c1] 22)).alloc (Obj.cells #[Value.int .i64 a2] 3)).cell? ⟨w.heap.size + 2, 0, none⟩ = some (.int .i64 a2)) := ⟨by simp [go_sem]⟩
    have HB : Aside0 (Below w.heap.size w (((w.alloc (Obj.cells #[Value.slice A0 l0.length c0] 22)).alloc (Obj.cells #[Value.slice A1 l1.length c1] 22)).alloc (Obj.cells #[Value.int .i64 a2] 3))) := ⟨zzA (zzA (zzA (Below.refl _ _) _) _) _⟩
    have he0 : (pairE l0 l1 == 0) = false := beq_eq_false_iff_ne.2 hp0
    have he1 : (pairE l0 l1 != 0) = true := bne_iff_ne.2 hp0
    obtain ⟨e_, hE⟩ : ∃ e_ : Int, pairE l0 l1 = e_ := ⟨_, rfl⟩
    rw [hE] at HP0 he0 he1
    simp only [hE]
    clear hE hp0
    go_enter Try.func104, Try.ntmps104
    go_wp2_with (first | (go_at_call 150; (with_reducible refine (vec_pair.calls A0 c0 l0 A1 c1 l1 e_ _ (Kd.C_below HR0.out HB.out) HC0.out (Kd.C_below HR1.out HB.out) HC1.out HP0.out).mono ?_); rintro ed W1 ⟨rfl, hd⟩; have hb := hd; clear hd; have HB := Aside0.mk (below_then HB.out HB.out.size hb); have HX0 := Aside0.mk (pw_cell_below hb HX0.out); have HX1 := Aside0.mk (pw_cell_below hb HX1.out); have HX2 := Aside0.mk (pw_cell_below hb HX2.out); have hx0 := HX0.out; have hx1 := HX1.out; have hx2 := HX2.out; clear hb))
    go_ret2
    exact ⟨rfl, HB.out⟩


/-! ### linear_TellP: function 33 -/
def linear_TellP.f (l0 : List Int) (l1 : List Int) (a2 : Int) : Option (Int × Int) := (linear_Check.f (l1.length : Int) l0 (([(⟨l1, 0⟩ : S26)] : List (S26)))).bind fun t112 => (if t112 = 0 then (if 0 ≤ (l1.length : Int) then (if (l1.length : Int) ≤ (l0.length : Int) then ((vec_Dot.f (l0.take ((l1.length : Int) : Int).toNat) l1 a2).bind fun bt114 => (if bt114.2 = 0 then (if (l1.length : Int) < (l0.length : Int) then ((fix_Add.f bt114.1 (rd l0 (l1.length : Int))).bind fun bt117 => (some (bt117.1, bt117.2))) else (none)) else (some (0, bt114.2)))) else (none)) else (none)) else (some (0, t112)))
set_option maxHeartbeats 8000000 in
set_option maxRecDepth 100000 in
theorem linear_TellP.calls (A0 : Option Addr) (c0 : Nat) (l0 : List Int) (P1_ : Nat → Prop) (A1 : Option Addr) (c1 : Nat) (l1 : List Int) (a2 : Int) (r1 : Int) (r2 : Int) (w : World) (hr0 : Kd.C (Kd.int .i64) w A0 l0.length l0) (hc0 : l0.length ≤ c0) (hs1 : Kd.V (Kd.int .i64) 2 w w.heap.size (fun k_ => P1_ k_) (.slice A1 l1.length c1) l1) (h : linear_TellP.f l0 l1 a2 = some (r1, r2)) :
  Calls Try.prog 33 #[.slice A0 l0.length c0, .slice A1 l1.length c1, .int .i64 a2] w fun e w' => e = .returned (.tuple #[.int .i64 r1, .int .i64 r2]) ∧ Below w.heap.size w w' := by
 have hu26 := Try.underlying26
 have HR0 := Aside0.mk hr0
 have HC0 := Aside0.mk hc0
 clear hr0 hc0
 have HO1 := Aside0.mk (show Kd.V (Kd.int .i64) 2 w w.heap.size (fun k_ => (P1_ k_ ∨ w.heap.size ≤ k_)) (.slice A1 l1.length c1) l1 from Kd.V_mono hs1 (fun k_ hk => .inl hk))
 have HB := Aside0.mk (Below.refl w.heap.size w)
 have H : ((linear_Check.f (l1.length : Int) l0 (([(⟨l1, 0⟩ : S26)] : List (S26)))).bind fun t112 => (if t112 = 0 then (if 0 ≤ (l1.length : Int) then (if (l1.length : Int) ≤ (l0.length : Int) then ((vec_Dot.f (l0.take ((l1.length : Int) : Int).toNat) l1 a2).bind fun bt114 => (if bt114.2 = 0 then (if (l1.length : Int) < (l0.length : Int) then ((fix_Add.f bt114.1 (rd l0 (l1.length : Int))).bind fun bt117 => (some (bt117.1, bt117.2))) else (none)) else (some (0, bt114.2)))) else (none)) else (none)) else (some (0, t112)))) = some (r1, r2) := h
 clear h
 obtain ⟨y109, hy109⟩ : ∃ y_ : List (S26), y_ = (([(⟨l1, 0⟩ : S26)] : List (S26))) := ⟨_, rfl⟩
 replace H : ((linear_Check.f (l1.length : Int) l0 y109).bind fun t112 => (if t112 = 0 then (if 0 ≤ (l1.length : Int) then (if (l1.length : Int) ≤ (l0.length : Int) then ((vec_Dot.f (l0.take ((l1.length : Int) : Int).toNat) l1 a2).bind fun bt114 => (if bt114.2 = 0 then (if (l1.length : Int) < (l0.length : Int) then ((fix_Add.f bt114.1 (rd l0 (l1.length : Int))).bind fun bt117 => (some (bt117.1, bt117.2))) else (none)) else (some (0, bt114.2)))) else (none)) else (none)) else (some (0, t112)))) = some (r1, r2) := by first | (rw [hy109]; with_reducible exact H) | (have H2_ := (Option.bind_some _ _).symm.trans H; rw [hy109]; with_reducible exact H2_) | (have H2_ := (Option.bind_some _ _).symm.trans H; with_reducible exact H2_) | with_reducible exact H | (rw [hy109]; exact H) | exact H
 have Ny109 := Aside0.mk hy109
 clear hy109
 replace H := Option.bind_eq_some_iff.mp H
 obtain ⟨t112, A40, H⟩ := H
 replace H : (if t112 = 0 then (if 0 ≤ (l1.length : Int) then (if (l1.length : Int) ≤ (l0.length : Int) then ((vec_Dot.f (l0.take ((l1.length : Int) : Int).toNat) l1 a2).bind fun bt114 => (if bt114.2 = 0 then (if (l1.length : Int) < (l0.length : Int) then ((fix_Add.f bt114.1 (rd l0 (l1.length : Int))).bind fun bt117 => (some (bt117.1, bt117.2))) else (none)) else (some (0, bt114.2)))) else (none)) else (none)) else (some (0, t112))) = some (r1, r2) := H
 have A4 := Aside0.mk A40
 clear A40
 by_cases c5 : t112 = 0
 ·
  rw [if_pos c5] at H
  have c5b0 : (t112 == 0) = true := beq_iff_eq.mpr c5
  have c5b1 : (t112 != 0) = false := bne_eq_false_iff_eq.mpr c5
  clear c5
  by_cases c6 : 0 ≤ (l1.length : Int)
  ·
   rw [if_pos c6] at H
   have c6b0 := eq_true c6
   have c6b1 : decide (0 ≤ (l1.length : Int)) = true := decide_eq_true c6
   clear c6
   by_cases c7 : (l1.length : Int) ≤ (l0.length : Int)
   ·
    rw [if_pos c7] at H
    have c7b0 := eq_true c7
    have c7b1 : decide ((l1.length : Int) ≤ (l0.length : Int)) = true := decide_eq_true c7
    clear c7
    replace H := Option.bind_eq_some_iff.mp H
    obtain ⟨⟨t114, t115⟩, A80, H⟩ := H
    replace H : (if t115 = 0 then (if (l1.length : Int) < (l0.length : Int) then ((fix_Add.f t114 (rd l0 (l1.length : Int))).bind fun bt117 => (some (bt117.1, bt117.2))) else (none)) else (some (0, t115))) = some (r1, r2) := H
    have A8 := Aside0.mk A80
    clear A80
    by_cases c9 : t115 = 0
    ·
     rw [if_pos c9] at H
     have c9b0 : (t115 == 0) = true := beq_iff_eq.mpr c9
     have c9b1 : (t115 != 0) = false := bne_eq_false_iff_eq.mpr c9
     clear c9
     by_cases c10 : (l1.length : Int) < (l0.length : Int)
     ·
      rw [if_pos c10] at H
      have c10b0 : decide ((l1.length : Int) < (l0.length : Int)) = true := decide_eq_true c10
      have c10b1 : decide (l1.length < l0.length) = true := decide_eq_true (Int.ofNat_lt.mp c10)
      clear c10
      replace H := Option.bind_eq_some_iff.mp H
      obtain ⟨⟨t117, t118⟩, A110, H⟩ := H
      replace H : (some (t117, t118)) = some (r1, r2) := H
      have A11 := Aside0.mk A110
      clear A110
      simp only [Option.some.injEq, Prod.mk.injEq] at H
      obtain ⟨rfl, rfl⟩ := H
      go_enter Try.func33, Try.ntmps33
      go_wp2_with (first | ((with_reducible refine gate_dst (N := 18) rfl ?_); refine Kd.N_lit k26 _ 26 ?hg (N' := 18) ?hd (xs := ([(⟨l1, 0⟩ : S26)] : List (S26))) (inner := [.slice A1 l1.length c1, .int .i64 0]) (ok := (fun k_ => (P1_ k_ ∨ w.heap.size ≤ k_))) (okp := (fun k_ => (P1_ k_ ∨ w.heap.size ≤ k_))) ?hr ?hp (fun _ hk => hk) ((show ∀ k_, w.heap.size ≤ k_ → (fun k_ => (P1_ k_ ∨ w.heap.size ≤ k_)) k_ from fun k_ hk => (.inr (Nat.le_trans (zzS (by repeat (first | (with_reducible first | exact HB.out | apply zzA | apply zzN | apply zzD) | exact HB.out))) hk))) _ (Nat.le_refl _)) (Below.refl _ _) (Nat.le_refl _) (by simp) ?_; (case hd => rfl); (case hg => rfl); (case hr => first | (go_simp; done) | (go_simp; rfl)); (case hp => exact (Reps.c2 (show Kd.FK k26 _ _ (⟨l1, 0⟩ : S26) [.slice A1 l1.length c1, .int .i64 0] from (k26_mkF _ _ (⟨l1, 0⟩ : S26) (Kd.V_reads' (Kd.V_mono (ok' := (fun k_ => (P1_ k_ ∨ w.heap.size ≤ k_))) (HO1.out) (fun k_ hk => hk))).2.1 (Kd.V_F (Kd.V_mono (ok' := (fun k_ => (P1_ k_ ∨ w.heap.size ≤ k_))) (HO1.out) (fun k_ hk => hk))))) (Reps.none _ _))); intro v110 w12 ho13 hb hg_ hnew_; clear hg_ hnew_; (first | rw [← Ny109.out] at ho13 | (simp only [Int.reduceToNat] at ho13; rw [← Ny109.out] at ho13)); have n0_ := Aside0.mk (Kd.V_elder' (by (with_reducible repeat (first | apply Kd.V_alloc | apply Kd.V_drewN | apply Kd.V_drew)); exact HO1.out) (Kd.N_base ho13) hb); have n1_ := Aside0.mk (Kd.N_lower ho13 (zzS (by repeat (first | (with_reducible first | exact HB.out | apply zzA | apply zzN | apply zzD) | exact HB.out)))); have n2_ := Aside0.mk (zzT (by repeat (first | (with_reducible first | exact HB.out | apply zzA | apply zzN | apply zzD) | exact HB.out)) hb); clear HO1; clear HB; have HO1 := n0_; have HO111 := n1_; have HB := n2_; clear n0_ n1_ n2_; clear hb ho13; obtain ⟨Ao14, co14, eo14⟩ := Kd.N_slice HO111.out; subst eo14) | ((with_reducible refine gate_callee (f := 69) rfl ?_); refine goesL_ (some 19) rfl rfl Try.func69 (by kernel_rfl) rfl #[.int .i64 (l1.length : Int), .slice A0 l0.length c0, .slice Ao14 y109.length co14] rfl (by (try simp only [List.map_toArray, List.map_cons, List.map_nil]); first | done | rfl | (simp only [List.length_drop, List.length_take]; rfl)) ?_; (with_reducible refine (linear_Check.calls (l1.length : Int) _ _ l0 _ _ y109 t112 _ ?side1 ?side2 ?side3 ?side4 A4.out).mono ?_); (case side1 => repeat (first | exact (Kd.C_below HR0.out HB.out) | (with_reducible refine ccA ?_ _) | (with_reducible refine ccN ?_ _) | (with_reducible refine ccD ?_))); (case side2 => exact HC0.out); (case side3 => repeat (first | exact (Kd.N_reads' HO111.out).2.2 | (with_reducible refine ccA ?_ _) | (with_reducible refine ccN ?_ _) | (with_reducible refine ccD ?_))); (case side4 => exact (Kd.N_reads' HO111.out).2.1); rintro e w15 ⟨rfl, hb⟩; refine ⟨_, rfl, ?_⟩; have n0_ := Aside0.mk (Kd.V_below (by (with_reducible repeat (first | apply Kd.V_alloc | apply Kd.V_drewN | apply Kd.V_drew)); exact HO1.out) hb); have n1_ := Aside0.mk (Kd.N_below (by (with_reducible repeat (first | apply Kd.N_alloc | apply Kd.N_drewN | apply Kd.N_drew)); exact HO111.out) hb); have n2_ := Aside0.mk (zzT (by repeat (first | (with_reducible first | exact HB.out | apply zzA | apply zzN | apply zzD) | exact HB.out)) hb); clear HO1; clear HO111; clear HB; have HO1 := n0_; have HO111 := n1_; have HB := n2_; clear n0_ n1_ n2_; (try clear hb); (try clear hb2); (try clear hk); (try clear hi); obtain ⟨i016, hi016, _, hsz16, _⟩ := info_parts info2; obtain ⟨hcut16, hA16, hC16⟩ := print_take_of (P := Try.prog) (Value.int .i64) 0 22 2 .i64 Try.underlying22 hi016 hsz16 A0 c0 l0 (l1.length : Int) (of_decide_eq_true (by first | (with_reducible assumption) | assumption)) (of_decide_eq_true (by first | (with_reducible assumption) | assumption)) HC0.out; have HR113 := Aside0.mk (Kd.C_of_reads (h1 := fun _ => rfl) (hA16 _ (Kd.reads_of_C HR0.out))); have HC113 := Aside0.mk hC16; clear hA16 hC16 hi016 hsz16) | ((with_reducible refine gate_callee (f := 104) rfl ?_); refine goesL_ (some 29) rfl rfl Try.func104 (by kernel_rfl) rfl #[.slice A0 (l0.take ((l1.length : Int) : Int).toNat).length c0, .slice A1 l1.length c1, .int .i64 a2] rfl (by (try simp only [List.map_toArray, List.map_cons, List.map_nil]); first | done | (rw [show (l0.take ((l1.length : Int) : Int).toNat).length = (l1.length : Int).toNat from (by rw [List.length_take]; have h_ : ((l1.length : Int) : Int) ≤ (l0.length : Int) := of_decide_eq_true (by first | (with_reducible assumption) | assumption); omega)] <;> rfl) | rfl | (simp only [List.length_drop, List.length_take]; rfl)) ?_; (with_reducible refine (vec_Dot.calls _ _ (l0.take ((l1.length : Int) : Int).toNat) _ _ l1 a2 t114 t115 _ ?side1 ?side2 ?side3 ?side4 A8.out).mono ?_); (case side1 => repeat (first | exact (Kd.C_below HR113.out HB.out) | (with_reducible refine ccA ?_ _) | (with_reducible refine ccN ?_ _) | (with_reducible refine ccD ?_))); (case side2 => exact HC113.out); (case side3 => repeat (first | exact (Kd.V_reads' HO1.out).2.2 | (with_reducible refine ccA ?_ _) | (with_reducible refine ccN ?_ _) | (with_reducible refine ccD ?_))); (case side4 => exact (Kd.V_reads' HO1.out).2.1); rintro e w17 ⟨rfl, hb⟩; refine ⟨_, rfl, ?_⟩; have n0_ := Aside0.mk (Kd.V_below (by (with_reducible repeat (first | apply Kd.V_alloc | apply Kd.V_drewN | apply Kd.V_drew)); exact HO1.out) hb); have n1_ := Aside0.mk (Kd.N_below (by (with_reducible repeat (first | apply Kd.N_alloc | apply Kd.N_drewN | apply Kd.N_drew)); exact HO111.out) hb); have n2_ := Aside0.mk (zzT (by repeat (first | (with_reducible first | exact HB.out | apply zzA | apply zzN | apply zzD) | exact HB.out)) hb); clear HO1; clear HO111; clear HB; have HO1 := n0_; have HO111 := n1_; have HB := n2_; clear n0_ n1_ n2_; (try clear hb); (try clear hb2); (try clear hk); (try clear hi); have p116 : 0 ≤ ((l1.length : Int) : Int) := of_decide_eq_true (by first | (with_reducible assumption) | assumption); have q116 : (l1.length : Int) < (l0.length : Int) := of_decide_eq_true (by first | (with_reducible assumption) | assumption); obtain ⟨ad116, e116, hx116_0⟩ := Kd.at_int HR0.out (l1.length : Int) p116 q116; cases e116; replace hx116_0 := (HB.out.cell (World.block_lt_of_cell? w _ hx116_0)).trans hx116_0; (try simp only [Go.IntWalk.toNatUp] at hx116_0); replace p116 := eq_true p116; replace q116 := eq_true q116) | ((with_reducible refine gate_callee (f := 105) rfl ?_); refine goesL_ (some 40) rfl rfl Try.func105 (by kernel_rfl) rfl #[.int .i64 t114, .int .i64 (rd l0 (l1.length : Int))] rfl (by (try simp only [List.map_toArray, List.map_cons, List.map_nil]); first | done | rfl | (simp only [List.length_drop, List.length_take]; rfl)) ?_; (with_reducible refine (fix_Add.calls t114 (rd l0 (l1.length : Int)) t117 t118 _ A11.out).mono ?_); rintro e w' ⟨rfl, ⟨nd, rfl⟩⟩; refine ⟨_, rfl, ?_⟩))
      go_ret2
      exact ⟨by first | rfl | (simp [errW_none, errW_some] <;> rfl) | (simp [*, errW_none, errW_some] <;> rfl), by repeat (first | (with_reducible first | exact HB.out | apply zzA | apply zzN | apply zzD) | exact HB.out)⟩
     ·
      rw [if_neg c10] at H
      exact absurd H (by simp)
    ·
     rw [if_neg c9] at H
     have c9b0 : (t115 == 0) = false := beq_eq_false_iff_ne.mpr c9
     have c9b1 : (t115 != 0) = true := bne_iff_ne.mpr c9
     simp only [Option.some.injEq, Prod.mk.injEq] at H
     obtain ⟨rfl, rfl⟩ := H
     go_enter Try.func33, Try.ntmps33
     go_wp2_with (first | ((with_reducible refine gate_dst (N := 18) rfl ?_); refine Kd.N_lit k26 _ 26 ?hg (N' := 18) ?hd (xs := ([(⟨l1, 0⟩ : S26)] : List (S26))) (inner := [.slice A1 l1.length c1, .int .i64 0]) (ok := (fun k_ => (P1_ k_ ∨ w.heap.size ≤ k_))) (okp := (fun k_ => (P1_ k_ ∨ w.heap.size ≤ k_))) ?hr ?hp (fun _ hk => hk) ((show ∀ k_, w.heap.size ≤ k_ → (fun k_ => (P1_ k_ ∨ w.heap.size ≤ k_)) k_ from fun k_ hk => (.inr (Nat.le_trans (zzS (by repeat (first | (with_reducible first | exact HB.out | apply zzA | apply zzN | apply zzD) | exact HB.out))) hk))) _ (Nat.le_refl _)) (Below.refl _ _) (Nat.le_refl _) (by simp) ?_; (case hd => rfl); (case hg => rfl); (case hr => first | (go_simp; done) | (go_simp; rfl)); (case hp => exact (Reps.c2 (show Kd.FK k26 _ _ (⟨l1, 0⟩ : S26) [.slice A1 l1.length c1, .int .i64 0] from (k26_mkF _ _ (⟨l1, 0⟩ : S26) (Kd.V_reads' (Kd.V_mono (ok' := (fun k_ => (P1_ k_ ∨ w.heap.size ≤ k_))) (HO1.out) (fun k_ hk => hk))).2.1 (Kd.V_F (Kd.V_mono (ok' := (fun k_ => (P1_ k_ ∨ w.heap.size ≤ k_))) (HO1.out) (fun k_ hk => hk))))) (Reps.none _ _))); intro v110 w18 ho19 hb hg_ hnew_; clear hg_ hnew_; (first | rw [← Ny109.out] at ho19 | (simp only [Int.reduceToNat] at ho19; rw [← Ny109.out] at ho19)); have n0_ := Aside0.mk (Kd.V_elder' (by (with_reducible repeat (first | apply Kd.V_alloc | apply Kd.V_drewN | apply Kd.V_drew)); exact HO1.out) (Kd.N_base ho19) hb); have n1_ := Aside0.mk (Kd.N_lower ho19 (zzS (by repeat (first | (with_reducible first | exact HB.out | apply zzA | apply zzN | apply zzD) | exact HB.out)))); have n2_ := Aside0.mk (zzT (by repeat (first | (with_reducible first | exact HB.out | apply zzA | apply zzN | apply zzD) | exact HB.out)) hb); clear HO1; clear HB; have HO1 := n0_; have HO111 := n1_; have HB := n2_; clear n0_ n1_ n2_; clear hb ho19; obtain ⟨Ao20, co20, eo20⟩ := Kd.N_slice HO111.out; subst eo20) | ((with_reducible refine gate_callee (f := 69) rfl ?_); refine goesL_ (some 19) rfl rfl Try.func69 (by kernel_rfl) rfl #[.int .i64 (l1.length : Int), .slice A0 l0.length c0, .slice Ao20 y109.length co20] rfl (by (try simp only [List.map_toArray, List.map_cons, List.map_nil]); first | done | rfl | (simp only [List.length_drop, List.length_take]; rfl)) ?_; (with_reducible refine (linear_Check.calls (l1.length : Int) _ _ l0 _ _ y109 t112 _ ?side1 ?side2 ?side3 ?side4 A4.out).mono ?_); (case side1 => repeat (first | exact (Kd.C_below HR0.out HB.out) | (with_reducible refine ccA ?_ _) | (with_reducible refine ccN ?_ _) | (with_reducible refine ccD ?_))); (case side2 => exact HC0.out); (case side3 => repeat (first | exact (Kd.N_reads' HO111.out).2.2 | (with_reducible refine ccA ?_ _) | (with_reducible refine ccN ?_ _) | (with_reducible refine ccD ?_))); (case side4 => exact (Kd.N_reads' HO111.out).2.1); rintro e w21 ⟨rfl, hb⟩; refine ⟨_, rfl, ?_⟩; have n0_ := Aside0.mk (Kd.V_below (by (with_reducible repeat (first | apply Kd.V_alloc | apply Kd.V_drewN | apply Kd.V_drew)); exact HO1.out) hb); have n1_ := Aside0.mk (Kd.N_below (by (with_reducible repeat (first | apply Kd.N_alloc | apply Kd.N_drewN | apply Kd.N_drew)); exact HO111.out) hb); have n2_ := Aside0.mk (zzT (by repeat (first | (with_reducible first | exact HB.out | apply zzA | apply zzN | apply zzD) | exact HB.out)) hb); clear HO1; clear HO111; clear HB; have HO1 := n0_; have HO111 := n1_; have HB := n2_; clear n0_ n1_ n2_; (try clear hb); (try clear hb2); (try clear hk); (try clear hi); obtain ⟨i022, hi022, _, hsz22, _⟩ := info_parts info2; obtain ⟨hcut22, hA22, hC22⟩ := print_take_of (P := Try.prog) (Value.int .i64) 0 22 2 .i64 Try.underlying22 hi022 hsz22 A0 c0 l0 (l1.length : Int) (of_decide_eq_true (by first | (with_reducible assumption) | assumption)) (of_decide_eq_true (by first | (with_reducible assumption) | assumption)) HC0.out; have HR113 := Aside0.mk (Kd.C_of_reads (h1 := fun _ => rfl) (hA22 _ (Kd.reads_of_C HR0.out))); have HC113 := Aside0.mk hC22; clear hA22 hC22 hi022 hsz22) | ((with_reducible refine gate_callee (f := 104) rfl ?_); refine goesL_ (some 29) rfl rfl Try.func104 (by kernel_rfl) rfl #[.slice A0 (l0.take ((l1.length : Int) : Int).toNat).length c0, .slice A1 l1.length c1, .int .i64 a2] rfl (by (try simp only [List.map_toArray, List.map_cons, List.map_nil]); first | done | (rw [show (l0.take ((l1.length : Int) : Int).toNat).length = (l1.length : Int).toNat from (by rw [List.length_take]; have h_ : ((l1.length : Int) : Int) ≤ (l0.length : Int) := of_decide_eq_true (by first | (with_reducible assumption) | assumption); omega)] <;> rfl) | rfl | (simp only [List.length_drop, List.length_take]; rfl)) ?_; (with_reducible refine (vec_Dot.calls _ _ (l0.take ((l1.length : Int) : Int).toNat) _ _ l1 a2 t114 t115 _ ?side1 ?side2 ?side3 ?side4 A8.out).mono ?_); (case side1 => repeat (first | exact (Kd.C_below HR113.out HB.out) | (with_reducible refine ccA ?_ _) | (with_reducible refine ccN ?_ _) | (with_reducible refine ccD ?_))); (case side2 => exact HC113.out); (case side3 => repeat (first | exact (Kd.V_reads' HO1.out).2.2 | (with_reducible refine ccA ?_ _) | (with_reducible refine ccN ?_ _) | (with_reducible refine ccD ?_))); (case side4 => exact (Kd.V_reads' HO1.out).2.1); rintro e w23 ⟨rfl, hb⟩; refine ⟨_, rfl, ?_⟩; have n0_ := Aside0.mk (Kd.V_below (by (with_reducible repeat (first | apply Kd.V_alloc | apply Kd.V_drewN | apply Kd.V_drew)); exact HO1.out) hb); have n1_ := Aside0.mk (Kd.N_below (by (with_reducible repeat (first | apply Kd.N_alloc | apply Kd.N_drewN | apply Kd.N_drew)); exact HO111.out) hb); have n2_ := Aside0.mk (zzT (by repeat (first | (with_reducible first | exact HB.out | apply zzA | apply zzN | apply zzD) | exact HB.out)) hb); clear HO1; clear HO111; clear HB; have HO1 := n0_; have HO111 := n1_; have HB := n2_; clear n0_ n1_ n2_; (try clear hb); (try clear hb2); (try clear hk); (try clear hi)))
     go_ret2
     exact ⟨by first | rfl | (simp [errW_none, errW_some] <;> rfl) | (simp [*, errW_none, errW_some] <;> rfl), by repeat (first | (with_reducible first | exact HB.out | apply zzA | apply zzN | apply zzD) | exact HB.out)⟩
   ·
    rw [if_neg c7] at H
    exact absurd H (by simp)
  ·
   rw [if_neg c6] at H
   exact absurd H (by simp)
 ·
  rw [if_neg c5] at H
  have c5b0 : (t112 == 0) = false := beq_eq_false_iff_ne.mpr c5
  have c5b1 : (t112 != 0) = true := bne_iff_ne.mpr c5
  simp only [Option.some.injEq, Prod.mk.injEq] at H
  obtain ⟨rfl, rfl⟩ := H
  go_enter Try.func33, Try.ntmps33
  go_wp2_with (first | ((with_reducible refine gate_dst (N := 18) rfl ?_); refine Kd.N_lit k26 _ 26 ?hg (N' := 18) ?hd (xs := ([(⟨l1, 0⟩ : S26)] : List (S26))) (inner := [.slice A1 l1.length c1, .int .i64 0]) (ok := (fun k_ => (P1_ k_ ∨ w.heap.size ≤ k_))) (okp := (fun k_ => (P1_ k_ ∨ w.heap.size ≤ k_))) ?hr ?hp (fun _ hk => hk) ((show ∀ k_, w.heap.size ≤ k_ → (fun k_ => (P1_ k_ ∨ w.heap.size ≤ k_)) k_ from fun k_ hk => (.inr (Nat.le_trans (zzS (by repeat (first | (with_reducible first | exact HB.out | apply zzA | apply zzN | apply zzD) | exact HB.out))) hk))) _ (Nat.le_refl _)) (Below.refl _ _) (Nat.le_refl _) (by simp) ?_; (case hd => rfl); (case hg => rfl); (case hr => first | (go_simp; done) | (go_simp; rfl)); (case hp => exact (Reps.c2 (show Kd.FK k26 _ _ (⟨l1, 0⟩ : S26) [.slice A1 l1.length c1, .int .i64 0] from (k26_mkF _ _ (⟨l1, 0⟩ : S26) (Kd.V_reads' (Kd.V_mono (ok' := (fun k_ => (P1_ k_ ∨ w.heap.size ≤ k_))) (HO1.out) (fun k_ hk => hk))).2.1 (Kd.V_F (Kd.V_mono (ok' := (fun k_ => (P1_ k_ ∨ w.heap.size ≤ k_))) (HO1.out) (fun k_ hk => hk))))) (Reps.none _ _))); intro v110 w24 ho25 hb hg_ hnew_; clear hg_ hnew_; (first | rw [← Ny109.out] at ho25 | (simp only [Int.reduceToNat] at ho25; rw [← Ny109.out] at ho25)); have n0_ := Aside0.mk (Kd.V_elder' (by (with_reducible repeat (first | apply Kd.V_alloc | apply Kd.V_drewN | apply Kd.V_drew)); exact HO1.out) (Kd.N_base ho25) hb); have n1_ := Aside0.mk (Kd.N_lower ho25 (zzS (by repeat (first | (with_reducible first | exact HB.out | apply zzA | apply zzN | apply zzD) | exact HB.out)))); have n2_ := Aside0.mk (zzT (by repeat (first | (with_reducible first | exact HB.out | apply zzA | apply zzN | apply zzD) | exact HB.out)) hb); clear HO1; clear HB; have HO1 := n0_; have HO111 := n1_; have HB := n2_; clear n0_ n1_ n2_; clear hb ho25; obtain ⟨Ao26, co26, eo26⟩ := Kd.N_slice HO111.out; subst eo26) | ((with_reducible refine gate_callee (f := 69) rfl ?_); refine goesL_ (some 19) rfl rfl Try.func69 (by kernel_rfl) rfl #[.int .i64 (l1.length : Int), .slice A0 l0.length c0, .slice Ao26 y109.length co26] rfl (by (try simp only [List.map_toArray, List.map_cons, List.map_nil]); first | done | rfl | (simp only [List.length_drop, List.length_take]; rfl)) ?_; (with_reducible refine (linear_Check.calls (l1.length : Int) _ _ l0 _ _ y109 t112 _ ?side1 ?side2 ?side3 ?side4 A4.out).mono ?_); (case side1 => repeat (first | exact (Kd.C_below HR0.out HB.out) | (with_reducible refine ccA ?_ _) | (with_reducible refine ccN ?_ _) | (with_reducible refine ccD ?_))); (case side2 => exact HC0.out); (case side3 => repeat (first | exact (Kd.N_reads' HO111.out).2.2 | (with_reducible refine ccA ?_ _) | (with_reducible refine ccN ?_ _) | (with_reducible refine ccD ?_))); (case side4 => exact (Kd.N_reads' HO111.out).2.1); rintro e w27 ⟨rfl, hb⟩; refine ⟨_, rfl, ?_⟩; have n0_ := Aside0.mk (Kd.V_below (by (with_reducible repeat (first | apply Kd.V_alloc | apply Kd.V_drewN | apply Kd.V_drew)); exact HO1.out) hb); have n1_ := Aside0.mk (Kd.N_below (by (with_reducible repeat (first | apply Kd.N_alloc | apply Kd.N_drewN | apply Kd.N_drew)); exact HO111.out) hb); have n2_ := Aside0.mk (zzT (by repeat (first | (with_reducible first | exact HB.out | apply zzA | apply zzN | apply zzD) | exact HB.out)) hb); clear HO1; clear HO111; clear HB; have HO1 := n0_; have HO111 := n1_; have HB := n2_; clear n0_ n1_ n2_; (try clear hb); (try clear hb2); (try clear hk); (try clear hi)))
  go_ret2
  exact ⟨by first | rfl | (simp [errW_none, errW_some] <;> rfl) | (simp [*, errW_none, errW_some] <;> rfl), by repeat (first | (with_reducible first | exact HB.out | apply zzA | apply zzN | apply zzD) | exact HB.out)⟩

def linear_Tell.f (l0 l1 : List Int) (a2 : Int) : Option (Int × Int) := if V64 l0 ∧ V64 l1 then some (tellL l0 l1 a2) else none
theorem linear_Tell.of (l0 l1 : List Int) (a2 : Int)  (h_ : V64 l0 ∧ V64 l1) : linear_Tell.f l0 l1 a2 = some (tellL l0 l1 a2) := if_pos h_
theorem linear_TellP.is (l0 l1 : List Int) (a2 : Int) (h0 : V64 l0) (h1 : V64 l1) : linear_TellP.f l0 l1 a2 = some (tellL l0 l1 a2) := by
  unfold linear_TellP.f tellL linear_Check.f
  simp only [Option.bind_some, List.map_cons, List.map_nil, sm]
  by_cases c : checkL l1.length l0 [(l1, 0)] = 0
  · rw [if_pos c, if_pos c]
    obtain ⟨c1, c2, c3, -, -, -⟩ := checkL_len c
    rw [if_pos (by omega), if_pos (by omega), Int.toNat_natCast, vec_Dot.of _ _ _ ⟨fun x hx => h0 x (List.mem_of_mem_take hx), h1⟩]
    simp only [Option.bind_some]
    by_cases d : (dotV (l0.take l1.length) l1 a2).2 = 0
    · rw [if_pos d, if_pos d, if_pos (by omega), fix_Add.of _ _ ⟨dotV_i64 _ _ _, h0.rd _⟩]; rfl
    · rw [if_neg d, if_neg d]
  · rw [if_neg c, if_neg c]
theorem linear_Tell.calls (A0 : Option Addr) (c0 : Nat) (l0 : List Int) (P1_ : Nat → Prop) (A1 : Option Addr) (c1 : Nat) (l1 : List Int) (a2 : Int) (r1 : Int) (r2 : Int) (w : World) (hr0 : Kd.C (Kd.int .i64) w A0 l0.length l0) (hc0 : l0.length ≤ c0) (hs1 : Kd.V (Kd.int .i64) 2 w w.heap.size (fun k_ => P1_ k_) (.slice A1 l1.length c1) l1) (h : linear_Tell.f l0 l1 a2 = some (r1, r2)) :
    Calls Try.prog 33 #[.slice A0 l0.length c0, .slice A1 l1.length c1, .int .i64 a2] w fun e w' => e = .returned (.tuple #[.int .i64 r1, .int .i64 r2]) ∧ Below w.heap.size w w' := by
  unfold linear_Tell.f at h
  split at h
  case isFalse => cases h
  rename_i hv
  exact linear_TellP.calls A0 c0 l0 P1_ A1 c1 l1 a2 r1 r2 w hr0 hc0 hs1 ((linear_TellP.is l0 l1 a2 hv.1 hv.2).trans h)


/-! ### thrumref02_SameP: function 44 -/
def thrumref02_SameP.l0 : Nat → List Int → List Int → Int → Int → Option (Bool)
 | 0, _, _, _, _ => none
 | k + 1, x0, x1, x12, x13 => if x13 < x12 then (if 0 ≤ x13 then (if x13 < (x0.length : Int) then (if x13 < (x1.length : Int) then (if (rd x0 x13) = (rd x1 x13) then (thrumref02_SameP.l0 k x0 x1 x12 (wrap64 (x13 + 1))) else (some false)) else (none)) else (none)) else (none)) else (some true)
def thrumref02_SameP.f (k : Nat) (l0 : List Int) (l1 : List Int) : Option (Bool) := if (l0.length : Int) = (l1.length : Int) then (thrumref02_SameP.l0 k l0 l1 (l0.length : Int) 0) else (some false)
theorem thrumref02_SameP.mono_l : ∀ k, (∀ y0 y1 y2 y3, LeO (thrumref02_SameP.l0 k y0 y1 y2 y3) (thrumref02_SameP.l0 (k + 1) y0 y1 y2 y3))
 | 0 => fun _ _ _ _ r h => by simp [thrumref02_SameP.l0] at h
 | k + 1 => by
  have ih0 := thrumref02_SameP.mono_l k
  ·
   intro y0 y1 y2 y3
   unfold thrumref02_SameP.l0
   repeat' first
   | (with_reducible exact ih0 _ _ _ _)
   | (with_reducible exact LeO.refl _)
   | (with_reducible exact LeO.none _)
   | (with_reducible refine LeO.ite ?_ ?_)
   | (with_reducible refine LeO.bind ?_ (fun _ => ?_))
   | exact ih0 _ _ _ _
   | exact LeO.none _
   | refine LeO.ite ?_ ?_
   | refine LeO.bind ?_ (fun _ => ?_)
theorem thrumref02_SameP.mono : ∀ a0 a1 k, LeO (thrumref02_SameP.f k a0 a1) (thrumref02_SameP.f (k + 1) a0 a1) := by
 intro a0 a1 k
 have ih0 := thrumref02_SameP.mono_l k
 unfold thrumref02_SameP.f
 repeat' first
   | (with_reducible exact ih0 _ _ _ _)
   | (with_reducible exact LeO.refl _)
   | (with_reducible exact LeO.none _)
   | (with_reducible refine LeO.ite ?_ ?_)
   | (with_reducible refine LeO.bind ?_ (fun _ => ?_))
   | exact ih0 _ _ _ _
   | exact LeO.none _
   | refine LeO.ite ?_ ?_
   | refine LeO.bind ?_ (fun _ => ?_)
set_option maxHeartbeats 8000000 in
set_option maxRecDepth 100000 in
theorem thrumref02_SameP.calls (k : Nat) (A0 : Option Addr) (c0 : Nat) (l0 : List Int) (A1 : Option Addr) (c1 : Nat) (l1 : List Int) (r : Bool) (w : World) (hr0 : Kd.C (Kd.int .i64) w A0 l0.length l0) (hc0 : l0.length ≤ c0) (hr1 : Kd.C (Kd.int .i64) w A1 l1.length l1) (hc1 : l1.length ≤ c1) (h : thrumref02_SameP.f k l0 l1 = some r) :
  Calls Try.prog 44 #[.slice A0 l0.length c0, .slice A1 l1.length c1] w fun e w' => e = .returned (.bool r) ∧ Drawn0 w w' := by
 have HR0 := Aside0.mk hr0
 have HC0 := Aside0.mk hc0
 clear hr0 hc0
 have HR1 := Aside0.mk hr1
 have HC1 := Aside0.mk hc1
 clear hr1 hc1
 have H : (if (l0.length : Int) = (l1.length : Int) then (thrumref02_SameP.l0 k l0 l1 (l0.length : Int) 0) else (some false)) = some r := h
 clear h
 by_cases c3 : (l0.length : Int) = (l1.length : Int)
 ·
  rw [if_pos c3] at H
  have c3b0 : ((l0.length : Int) == (l1.length : Int)) = true := beq_iff_eq.mpr c3
  have c3b1 : ((l0.length : Int) != (l1.length : Int)) = false := bne_eq_false_iff_eq.mpr c3
  have c3b2 : (l0.length == l1.length) = true := by first | simpa using c3 | (simp at c3 ⊢; omega)
  clear c3
  have H' := Aside0.mk H
  clear H
  go_enter Try.func44, Try.ntmps44
  go_wp2
  repeat (go_quiet (fail); try go_wp2)
  go_loopg [13] k (fun kq v13 w' => ∃ (x13_1 : Int), v13 = .int .i64 x13_1 ∧ Aside0 (thrumref02_SameP.l0 kq l0 l1 (l0.length : Int) x13_1 = some r) ∧ Aside0 (kq ≤ k) ∧ Drawn0 w w')
  case atStart => exact ⟨(0), (by first | rfl | (simp; done) | (simp [*]; done)), H', ⟨Nat.le_refl _⟩, by repeat (first | exact ddR _ | apply ddS)⟩
  case round =>
   clear H'
   try clear c1
   try clear p2
   try clear c3
   try clear c3b0
   try clear c3b1
   try clear c3b2
   obtain ⟨x13_1, rfl, HA, HK1, ⟨m1, rfl⟩⟩ := hrel
   cases gk with
   | zero => exact absurd HA.out (by simp [thrumref02_SameP.l0])
   | succ k1 =>
    have H := HA.out
    clear HA
    simp only [thrumref02_SameP.l0] at H
    by_cases c4 : x13_1 < (l0.length : Int)
    ·
     rw [if_pos c4] at H
     have c4b0 : decide (x13_1 < (l0.length : Int)) = true := decide_eq_true c4
     clear c4
     by_cases c5 : 0 ≤ x13_1
     ·
      rw [if_pos c5] at H
      have c5b0 : decide (0 ≤ x13_1) = true := decide_eq_true c5
      clear c5
      by_cases c6 : x13_1 < (l0.length : Int)
      ·
       rw [if_pos c6] at H
       have c6b0 : decide (x13_1 < (l0.length : Int)) = true := decide_eq_true c6
       clear c6
       by_cases c7 : x13_1 < (l1.length : Int)
       ·
        rw [if_pos c7] at H
        have c7b0 : decide (x13_1 < (l1.length : Int)) = true := decide_eq_true c7
        clear c7
        by_cases c8 : (rd l0 x13_1) = (rd l1 x13_1)
        ·
         rw [if_pos c8] at H
         have c8b0 : ((rd l0 x13_1) == (rd l1 x13_1)) = true := beq_iff_eq.mpr c8
         have c8b1 : ((rd l0 x13_1) != (rd l1 x13_1)) = false := bne_eq_false_iff_eq.mpr c8
         clear c8
         have H' := Aside0.mk H
         clear H
         have p119 : 0 ≤ (x13_1 : Int) := of_decide_eq_true (by first | (with_reducible assumption) | assumption)
         have q119 : x13_1 < (l0.length : Int) := of_decide_eq_true (by first | (with_reducible assumption) | assumption)
         obtain ⟨ad119, e119, hx119_0⟩ := Kd.at_int HR0.out x13_1 p119 q119
         cases e119
         replace p119 := eq_true p119
         replace q119 := eq_true q119
         have p120 : 0 ≤ (x13_1 : Int) := of_decide_eq_true (by first | (with_reducible assumption) | assumption)
         have q120 : x13_1 < (l1.length : Int) := of_decide_eq_true (by first | (with_reducible assumption) | assumption)
         obtain ⟨ad120, e120, hx120_0⟩ := Kd.at_int HR1.out x13_1 p120 q120
         cases e120
         replace p120 := eq_true p120
         replace q120 := eq_true q120
         go_wp2
         repeat (go_quiet (fail); try go_wp2)
         go_roundg k1
         case measure => have := HK1.out; omega
         case rel => exact ⟨(wrap64 (x13_1 + 1)), (by first | rfl | (simp; done) | (simp [*]; done)), H', ⟨by have := HK1.out; omega⟩, by repeat (first | exact ddR _ | apply ddS)⟩
        ·
         rw [if_neg c8] at H
         have c8b0 : ((rd l0 x13_1) == (rd l1 x13_1)) = false := beq_eq_false_iff_ne.mpr c8
         have c8b1 : ((rd l0 x13_1) != (rd l1 x13_1)) = true := bne_iff_ne.mpr c8
         obtain rfl := Option.some.inj H
         have p119 : 0 ≤ (x13_1 : Int) := of_decide_eq_true (by first | (with_reducible assumption) | assumption)
         have q119 : x13_1 < (l0.length : Int) := of_decide_eq_true (by first | (with_reducible assumption) | assumption)
         obtain ⟨ad119, e119, hx119_0⟩ := Kd.at_int HR0.out x13_1 p119 q119
         cases e119
         replace p119 := eq_true p119
         replace q119 := eq_true q119
         have p120 : 0 ≤ (x13_1 : Int) := of_decide_eq_true (by first | (with_reducible assumption) | assumption)
         have q120 : x13_1 < (l1.length : Int) := of_decide_eq_true (by first | (with_reducible assumption) | assumption)
         obtain ⟨ad120, e120, hx120_0⟩ := Kd.at_int HR1.out x13_1 p120 q120
         cases e120
         replace p120 := eq_true p120
         replace q120 := eq_true q120
         go_wp2
         repeat (go_quiet (fail); try go_wp2)
         go_ret
         exact ⟨by first | rfl | (simp; done) | (simp [*]; done), by repeat (first | exact ddR _ | apply ddS)⟩
       ·
        rw [if_neg c7] at H
        exact absurd H (by simp)
      ·
       rw [if_neg c6] at H
       exact absurd H (by simp)
     ·
      rw [if_neg c5] at H
      exact absurd H (by simp)
    ·
     rw [if_neg c4] at H
     have c4b0 : decide (x13_1 < (l0.length : Int)) = false := decide_eq_false c4
     clear c4
     obtain rfl := Option.some.inj H
     go_wp2
     repeat (go_quiet (fail); try go_wp2)
     go_ret
     exact ⟨by first | rfl | (simp; done) | (simp [*]; done), by repeat (first | exact ddR _ | apply ddS)⟩
 ·
  rw [if_neg c3] at H
  have c3b0 : ((l0.length : Int) == (l1.length : Int)) = false := beq_eq_false_iff_ne.mpr c3
  have c3b1 : ((l0.length : Int) != (l1.length : Int)) = true := bne_iff_ne.mpr c3
  have c3b2 : (l0.length == l1.length) = false := by first | simpa using c3 | (simp at c3 ⊢; omega)
  obtain rfl := Option.some.inj H
  go_enter Try.func44, Try.ntmps44
  go_wp2
  repeat (go_quiet (fail); try go_wp2)
  go_ret
  exact ⟨by first | rfl | (simp; done) | (simp [*]; done), by repeat (first | exact ddR _ | apply ddS)⟩

theorem thrumref02_SameP.loop (x0 x1 : List Int) (hl : x0.length = x1.length) (hb : x0.length ≤ 9223372036854775807) : ∀ (d i : Nat), d + i = x0.length →
    thrumref02_SameP.l0 (d + 1) x0 x1 (x0.length : Int) (i : Int) = some (decide (x0.drop i = x1.drop i)) := by
  intro d
  induction d with
  | zero =>
    intro i hd
    rw [thrumref02_SameP.l0, if_neg (by omega), List.drop_eq_nil_of_le (by omega), List.drop_eq_nil_of_le (by omega)]; simp
  | succ d ih =>
    intro i hd
    have hi : i < x0.length := by omega
    have hi1 : i < x1.length := by omega
    rw [thrumref02_SameP.l0, if_pos (by omega), if_pos (by omega), if_pos (by omega), if_pos (by omega), List.drop_eq_getElem_cons hi, List.drop_eq_getElem_cons hi1, show rd x0 (i : Int) = x0[i] from rd_nat hi, show rd x1 (i : Int) = x1[i] from rd_nat hi1]
    by_cases c : x0[i] = x1[i]
    · rw [if_pos c, wrap64_of (by unfold I64; omega), show (i : Int) + 1 = ((i + 1 : Nat) : Int) by omega, ih (i + 1) (by omega)]
      simp only [List.cons.injEq, c, true_and]
    · rw [if_neg c]; simp only [List.cons.injEq, c, false_and, decide_false]
def thrumref02_Same.f (l0 l1 : List Int) : Option Bool := some (decide (l0 = l1))
theorem thrumref02_Same.calls (A0 : Option Addr) (c0 : Nat) (l0 : List Int) (A1 : Option Addr) (c1 : Nat) (l1 : List Int) (r : Bool) (w : World) (hr0 : Kd.C (Kd.int .i64) w A0 l0.length l0) (hc0 : l0.length ≤ c0) (hr1 : Kd.C (Kd.int .i64) w A1 l1.length l1) (hc1 : l1.length ≤ c1) (h : thrumref02_Same.f l0 l1 = some r) :
    Calls Try.prog 44 #[.slice A0 l0.length c0, .slice A1 l1.length c1] w fun e w' => e = .returned (.bool r) ∧ Drawn0 w w' := by
  refine thrumref02_SameP.calls (l0.length + 1) A0 c0 l0 A1 c1 l1 r w hr0 hc0 hr1 hc1 (Eq.trans ?_ h)
  have hm := Kd.C_max hr0
  unfold thrumref02_SameP.f thrumref02_Same.f
  by_cases c : l0.length = l1.length
  · rw [if_pos (by omega)]
    exact (thrumref02_SameP.loop l0 l1 c hm l0.length 0 (by omega)).trans (by simp)
  · rw [if_neg (by omega)]
    have : l0 ≠ l1 := fun e => c (by rw [e])
    simp [this]


/-! ### slices_Clone_int64_int64: function 103 -/
def slices_Clone_int64_int64.f (l0 : List Int) : Option (List Int) := if l0.length < 17592186044416 then some l0 else none
theorem slices_Clone_int64_int64.of (l0 : List Int)  (h_ : l0.length < 17592186044416) : slices_Clone_int64_int64.f l0 = some l0 := if_pos h_
set_option maxHeartbeats 2000000 in
set_option maxRecDepth 100000 in
theorem slices_Clone_int64_int64.calls (A0 : Option Addr) (c0 : Nat) (l0 : List Int) (r : List Int) (w : World) (hr0 : Kd.C (Kd.int .i64) w A0 l0.length l0) (hc0 : l0.length ≤ c0) (h : slices_Clone_int64_int64.f l0 = some r) :
    Calls Try.prog 103 #[.slice A0 l0.length c0] w fun e w' => ∃ v0_ : Value, e = .returned (v0_) ∧ Kd.R (Kd.int .i64) 2 w' w.heap.size (fun _ => True) v0_ r ∧ Below w.heap.size w w' := by
  unfold slices_Clone_int64_int64.f at h
  split at h
  case isFalse => cases h
  rename_i hl
  cases h
  have hu := Try.underlying22
  have hq : ∀ W : World, (Go.binOp .eql 22 (.slice A0 l0.length c0) (.slice none 0 0)).run Try.prog W = .ok (.bool A0.isNone) W := fun W => Go.Lib.run_eql_slice_nil W 22 2 A0 l0.length c0 0 0 hu
  by_cases hA : A0 = none
  · subst hA
    have hn : l0 = [] := by
      cases l0 with
      | nil => rfl
      | cons x l => obtain ⟨ad, e, _⟩ := Kd.at_int hr0 0 (by omega) (by simp); cases e
    subst hn
    have HR := Aside0.mk hr0
    clear hr0
    simp only [Option.isNone_none, List.length_nil] at hq
    go_enter Try.func103, Try.ntmps103
    go_wp2
    go_ret
    exact ⟨_, rfl, Kd.R_nil _ _ _ _ _, Below.refl _ _⟩
  · have hA : A0.isNone = false := by cases A0 <;> simp_all
    simp only [hA] at hq
    have HR := Aside0.mk hr0
    have HL := Aside0.mk hl
    clear hr0 hl
    go_enter Try.func103, Try.ntmps103
    have ho := own_made w w.heap.size 2 .i64 0 (Nat.le_refl _) (by omega)
    rw [show madeCells #[Value.int .i64 0] 0 = #[] by simp [madeCells]] at ho
    have HO : Aside0 (Kd.R (Kd.int .i64) 2 (w.alloc (Obj.cells #[] 2)) w.heap.size (fun _ => True) (.slice (some ⟨w.heap.size, 0, none⟩) 0 0) ([] : List Int)) := ⟨Kd.R_of_own (enc := Value.int .i64) (h1 := fun _ => rfl) (xs := ([] : List Int)) ho (fun _ _ => trivial)⟩
    clear ho
    go_wp2_with ((with_reducible refine gate_builtin (b := .append) (xs := #[.tmp 5, .tmp 6]) rfl ?_); at_builtin; refine Kd.R_append_rows (Kd.int .i64) (w0 := w) w.heap.size rfl (.tmp 5) (.tmp 6) 22 2 (.int .i64 0) 8 rfl Try.underlying22 info2 rfl (by decide) (by omega) (.slice (some ⟨w.heap.size, 0, none⟩) 0 0) ([] : List Int) l0 _ _ _ (fun _ => True) (fun _ => False) rfl rfl ?aO ?aR (fun _ _ h => h) (fun _ h => h.elim) ?aF ?aB ?aS ?aL ?_; (case aO => exact HO.out); (case aR => exact ccA HR.out _); (case aF => exact fun _ _ => trivial); (case aB => exact zzA (Below.refl _ _) _); (case aS => simp); (case aL => have := HL.out; simp only [List.length_nil]; omega); intro v1 w2 ho hb hg hat; have HO2 := Aside0.mk ho; have HB2 := Aside0.mk hb; clear ho hb hg hat)
    go_ret
    exact ⟨_, rfl, HO2.out, HB2.out⟩


/-! ### vec_Check: function 110 -/
def vec_Check.f (l0 : List Int) : Option (Int) := if (l0.length : Int) > 4096 then (some 3) else (some 0)
set_option maxHeartbeats 8000000 in
set_option maxRecDepth 100000 in
theorem vec_Check.calls (A0 : Option Addr) (c0 : Nat) (l0 : List Int) (r : Int) (w : World) (hr0 : Kd.C (Kd.int .i64) w A0 l0.length l0) (hc0 : l0.length ≤ c0) (h : vec_Check.f l0 = some r) :
  Calls Try.prog 110 #[.slice A0 l0.length c0] w fun e w' => e = .returned (.int .i64 r) ∧ Drawn0 w w' := by
 have HR0 := Aside0.mk hr0
 have HC0 := Aside0.mk hc0
 clear hr0 hc0
 have H : (if (l0.length : Int) > 4096 then (some 3) else (some 0)) = some r := h
 clear h
 by_cases c2 : (l0.length : Int) > 4096
 ·
  rw [if_pos c2] at H
  have c2b0 : decide (4096 < (l0.length : Int)) = true := decide_eq_true c2
  have c2b1 : decide (4096 < l0.length) = true := decide_eq_true (by omega)
  clear c2
  obtain rfl := Option.some.inj H
  go_enter Try.func110, Try.ntmps110
  go_wp2
  go_ret
  exact ⟨by first | rfl | (simp; done) | (simp [*]; done), by repeat (first | exact ddR _ | apply ddS)⟩
 ·
  rw [if_neg c2] at H
  have c2b0 : decide (4096 < (l0.length : Int)) = false := decide_eq_false c2
  have c2b1 : decide (4096 < l0.length) = false := decide_eq_false (by omega)
  clear c2
  obtain rfl := Option.some.inj H
  go_enter Try.func110, Try.ntmps110
  go_wp2
  go_ret
  exact ⟨by first | rfl | (simp; done) | (simp [*]; done), by repeat (first | exact ddR _ | apply ddS)⟩

theorem vec_Check.of (l0 : List Int) : vec_Check.f l0 = some (checkE l0) := by
  unfold vec_Check.f checkE
  by_cases c : l0.length > 4096
  · rw [if_pos (by omega), if_pos c]
  · rw [if_neg (by omega), if_neg c]


end Go.Proofs.Ytfbdalnjijdknaa.HL
