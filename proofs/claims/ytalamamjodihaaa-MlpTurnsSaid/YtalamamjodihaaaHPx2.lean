/- What Go functions do, each as a plain Lean function with the same answers, and the proof of it, in every world: printed by the session's driver over the kit's print, with texts by hand. -/
import Derived.Test.YtalamamjodihaaaHPx0
import Derived.Test.YtalamamjodihaaaHPx1
namespace Go.Proofs.Ytalamamjodihaaa.HP
open Go.RowKit Go.Proofs.YtalamamjodihaaaW.PrintWords Go.Proofs.YtalamamjodihaaaW.PrintLast Go.Proofs.YtalamamjodihaaaW.PrintMore
attribute [local go_sem] max2_int min2_int max_two min_two max_three min_three max_four min_four   -- for this text's walks alone
open Go.Proofs.Ytalamamjodihaaa.Sp
attribute [local go_sem] Go.Proofs.Ytalamamjodihaaa.Sp.u64_not
set_option linter.unusedVariables false
set_option linter.unusedSimpArgs false

/-! ### vec_total: function 52 -/
set_option maxHeartbeats 2000000 in
set_option maxRecDepth 100000 in
theorem vec_total.calls (K : Nat) (caps : Array Value) (g : Nat → Option (Int × Int)) (n : Nat) (hn : n ≤ 1000000) (w : World) (r1 r2 : Int)
    (hent : ∀ (args : Array Value) (w : World), (callFunc K args).run Try.prog w = .ok (.enter K args) w)
    (H : Tells Try.prog K caps g n w) (h : totalGo fix_Add.f g n 0 0 = some (r1, r2)) :
    Calls Try.prog 52 #[.int .i64 n, .func (.func K) #[] caps] w fun e w' => e = .returned (.tuple #[.int .i64 r1, .int .i64 r2]) ∧ Below w.heap.size w w' := by
  have HH := Aside0.mk H
  have HG := Aside0.mk h
  clear H h
  go_enter Try.func52, Try.ntmps52
  go_wp2_with fail
  go_loopw [4, 10] (fun s i W => ∃ (k : Nat) (t : Int), i = .int .i64 k ∧ s = .int .i64 t ∧ Aside0 (k ≤ n) ∧ Aside0 (totalGo fix_Add.f g (n - k) k t = some (r1, r2)) ∧ Aside0 (Below w.heap.size w W)) (fun _ i _ => n - (intOf i).toNat)
  case atStart => exact ⟨0, 0, rfl, rfl, ⟨Nat.zero_le _⟩, HG, ⟨Below.refl _ _⟩⟩
  case round =>
    obtain ⟨k, t, rfl, rfl, ⟨hk⟩, ⟨hgo⟩, HB⟩ := hrel
    clear HG
    by_cases hlt : k < n
    · obtain ⟨d, hd⟩ : ∃ d, n - k = d + 1 := ⟨n - k - 1, by omega⟩
      rw [hd, totalGo] at hgo
      obtain ⟨⟨x, e⟩, hgk, hgo⟩ := Option.bind_eq_some_iff.mp hgo
      have HC := Aside0.mk (HH.out k wr x e hlt HB.out hgk)
      have HHd := Aside0.mk hd
      clear hd hgk
      by_cases he : e = 0
      · subst he
        simp only [if_true] at hgo
        obtain ⟨⟨q, f⟩, hadd, hgo⟩ := Option.bind_eq_some_iff.mp hgo
        have HA := Aside0.mk hadd
        clear hadd
        by_cases hf : f = 0
        · subst hf
          simp only [if_true] at hgo
          have HG := Aside0.mk hgo
          clear hgo hk
          go_wp2_with (first | (go_at_fn K; refine HC.out.mono ?_; rintro ed W1 ⟨rfl, hb⟩; have HB1 := Aside0.mk (below_then HB.out HB.out.size hb); clear hb) | (go_at_call 35; (with_reducible refine (fix_Add.calls t x q 0 _ HA.out).mono ?_); rintro ed W2 ⟨rfl, ⟨nd, rfl⟩⟩))
          exact ⟨⟨k + 1, q, by go_num, rfl, ⟨by omega⟩, ⟨by rw [show n - (k + 1) = d by have := HHd.out; omega]; exact HG.out⟩, ⟨zzN HB1.out _⟩⟩, by simp [intOf]; omega⟩
        · rw [if_neg hf] at hgo
          cases hgo
          have he0 : (f == 0) = false := beq_eq_false_iff_ne.2 hf
          have he1 : (f != 0) = true := bne_iff_ne.2 hf
          clear hf hk
          go_wp2_with (first | (go_at_fn K; refine HC.out.mono ?_; rintro ed W1 ⟨rfl, hb⟩; have HB1 := Aside0.mk (below_then HB.out HB.out.size hb); clear hb) | (go_at_call 35; (with_reducible refine (fix_Add.calls t x q f _ HA.out).mono ?_); rintro ed W2 ⟨rfl, ⟨nd, rfl⟩⟩))
          go_ret2
          exact ⟨rfl, zzN HB1.out _⟩
      · rw [if_neg he] at hgo
        cases hgo
        have he0 : (e == 0) = false := beq_eq_false_iff_ne.2 he
        have he1 : (e != 0) = true := bne_iff_ne.2 he
        clear he hk
        go_wp2_with (go_at_fn K; refine HC.out.mono ?_; rintro ed W1 ⟨rfl, hb⟩; have HB1 := Aside0.mk (below_then HB.out HB.out.size hb); clear hb)
        go_ret2
        exact ⟨rfl, HB1.out⟩
    · have hkn : n - k = 0 := by omega
      rw [hkn, totalGo] at hgo
      cases hgo
      clear hkn hk
      go_wp2
      go_ret2
      exact ⟨rfl, HB.out⟩


-- NOT PRINTED: function 53 (vec_Dot_1)

/-! ### vec_Dot: function 34 -/
set_option maxHeartbeats 2000000 in
set_option maxRecDepth 100000 in
theorem vec_Dot_1.calls (b1 b2 b3 : Nat) (A0 : Option Addr) (c0 : Nat) (l0 : List Int) (A1 : Option Addr) (c1 : Nat) (l1 : List Int) (a2 : Int) (i : Nat) (W : World) (x e : Int)
    (hb1 : W.cell? ⟨b1, 0, none⟩ = some (.slice A0 l0.length c0)) (hb2 : W.cell? ⟨b2, 0, none⟩ = some (.slice A1 l1.length c1)) (hb3 : W.cell? ⟨b3, 0, none⟩ = some (.int .i64 a2))
    (hr0 : Kd.C (Kd.int .i64) W A0 l0.length l0) (hr1 : Kd.C (Kd.int .i64) W A1 l1.length l1) (h0 : i < l0.length) (h1 : i < l1.length)
    (h : fix_Mul.f (rd l0 i) (rd l1 i) a2 = some (x, e)) :
    Calls Try.prog 53 #[.int .i64 i, .pointer (some ⟨b1, 0, none⟩), .pointer (some ⟨b2, 0, none⟩), .pointer (some ⟨b3, 0, none⟩)] W fun ed W' => ed = .returned (.tuple #[.int .i64 x, .int .i64 e]) ∧ Below W.heap.size W W' := by
  obtain ⟨ad0, rfl, hc0⟩ := Kd.at_int hr0 (i : Int) (by omega) (by omega)
  obtain ⟨ad1, rfl, hc1⟩ := Kd.at_int hr1 (i : Int) (by omega) (by omega)
  simp only [Int.toNat_natCast] at hc0 hc1
  have HC := Aside0.mk h
  clear hr0 hr1 h
  go_enter Try.func53, Try.ntmps53
  go_wp2
  go_region_held3 (fun w' => w'.cell? ⟨b1, 0, none⟩ = some (.slice (some ad0) l0.length c0) ∧ w'.cell? ⟨b2, 0, none⟩ = some (.slice (some ad1) l1.length c1) ∧ w'.cell? ⟨b3, 0, none⟩ = some (.int .i64 a2) ∧ w'.cell? (ad0.add i) = some (.int .i64 (rd l0 i)) ∧ w'.cell? (ad1.add i) = some (.int .i64 (rd l1 i)))
    (first | go_keep | (go_split_ands; exact ⟨pw_cell_below hb (by assumption), pw_cell_below hb (by assumption), pw_cell_below hb (by assumption), pw_cell_below hb (by assumption), pw_cell_below hb (by assumption)⟩))
    ((go_at_call 54; (with_reducible refine (fix_Mul.calls (rd l0 i) (rd l1 i) a2 x e _ HC.out).mono ?_); rintro ed W2 ⟨rfl, hb⟩))
  go_wp2
  go_ret2
  exact ⟨rfl, below_then (below_drew (Below.refl _ _)) (Nat.le_refl _) hb⟩
def vec_Dot.f (l0 l1 : List Int) (a2 : Int) : Option (Int × Int) := if V64 l0 ∧ V64 l1 then some (dotV l0 l1 a2) else none
theorem vec_Dot.of (l0 l1 : List Int) (a2 : Int)  (h_ : V64 l0 ∧ V64 l1) : vec_Dot.f l0 l1 a2 = some (dotV l0 l1 a2) := if_pos h_
set_option maxHeartbeats 2000000 in
set_option maxRecDepth 100000 in
theorem vec_Dot.calls (A0 : Option Addr) (c0 : Nat) (l0 : List Int) (A1 : Option Addr) (c1 : Nat) (l1 : List Int) (a2 : Int) (r1 : Int) (r2 : Int) (w : World) (hr0 : Kd.C (Kd.int .i64) w A0 l0.length l0) (hc0 : l0.length ≤ c0) (hr1 : Kd.C (Kd.int .i64) w A1 l1.length l1) (hc1 : l1.length ≤ c1) (h : vec_Dot.f l0 l1 a2 = some (r1, r2)) :
    Calls Try.prog 34 #[.slice A0 l0.length c0, .slice A1 l1.length c1, .int .i64 a2] w fun e w' => e = .returned (.tuple #[.int .i64 r1, .int .i64 r2]) ∧ Below w.heap.size w w' := by
  unfold vec_Dot.f at h
  split at h
  case isFalse => cases h
  rename_i hv
  have h := Option.some.inj h
  unfold dotV at h
  have HR0 := Aside0.mk hr0
  have HC0 := Aside0.mk hc0
  have HR1 := Aside0.mk hr1
  have HC1 := Aside0.mk hc1
  clear hr0 hc0 hr1 hc1
  have HV := Aside0.mk hv
  clear hv
  try have hu22 := Try.underlying22
  try have hu3 := Try.underlying3
  have HP0 : Aside0 (vec_pair.f l0 l1 = some (pairE l0 l1)) := ⟨rfl⟩
  by_cases hp0 : pairE l0 l1 = 0
  · rw [if_pos hp0] at h
    rw [hp0] at HP0
    have HP1 : Aside0 (vec_behind.f a2 = some (fracE a2)) := ⟨vec_behind.of a2⟩
    by_cases hp1 : fracE a2 = 0
    · rw [if_pos hp1] at h
      rw [hp1] at HP1
      have HL : Aside0 (l0.length = l1.length) := ⟨pairE_len hp0⟩
      have HN : Aside0 (l0.length ≤ 4096) := ⟨pairE_le hp0⟩
      have HH := Aside0.mk h
      clear h hp0 hp1
      have HX0 : Aside0 ((((w.alloc (Obj.cells #[Value.slice A0 l0.length c0] 22)).alloc (Obj.cells #[Value.slice A1 l1.length c1] 22)).alloc (Obj.cells #[Value.int .i64 a2] 3)).cell? ⟨w.heap.size, 0, none⟩ = some (.slice A0 l0.length c0)) := ⟨by simp [go_sem]⟩
      have HX1 : Aside0 ((((w.alloc (Obj.cells #[Value.slice A0 l0.length c0] 22)).alloc (Obj.cells #[Value.slice A1 l1.length c1] 22)).alloc (Obj.cells #[Value.int .i64 a2] 3)).cell? ⟨w.heap.size + 1, 0, none⟩ = some (.slice A1 l1.length c1)) := ⟨by simp [go_sem]⟩
      have HX2 : Aside0 ((((w.alloc (Obj.cells #[Value.slice A0 l0.length c0] 22)).alloc (Obj.cells #[Value.slice A1 l1.length c1] 22)).alloc (Obj.cells #[Value.int .i64 a2] 3)).cell? ⟨w.heap.size + 2, 0, none⟩ = some (.int .i64 a2)) := ⟨by simp [go_sem]⟩
      have HB : Aside0 (Below w.heap.size w (((w.alloc (Obj.cells #[Value.slice A0 l0.length c0] 22)).alloc (Obj.cells #[Value.slice A1 l1.length c1] 22)).alloc (Obj.cells #[Value.int .i64 a2] 3))) := ⟨zzA (zzA (zzA (Below.refl _ _) _) _) _⟩
      go_enter Try.func34, Try.ntmps34
      go_wp2_with (first | (go_at_call 50; (with_reducible refine (vec_pair.calls A0 c0 l0 A1 c1 l1 0 _ (Kd.C_below HR0.out HB.out) HC0.out (Kd.C_below HR1.out HB.out) HC1.out HP0.out).mono ?_); rintro ed W1 ⟨rfl, hd⟩; have hb := hd; clear hd; have HB := Aside0.mk (below_then HB.out HB.out.size hb); have HX0 := Aside0.mk (pw_cell_below hb HX0.out); have HX1 := Aside0.mk (pw_cell_below hb HX1.out); have HX2 := Aside0.mk (pw_cell_below hb HX2.out); have hx0 := HX0.out; have hx1 := HX1.out; have hx2 := HX2.out; clear hb) | (go_at_call 51; (with_reducible refine (vec_behind.calls a2 0 _ HP1.out).mono ?_); rintro ed W1 ⟨rfl, hd⟩; have hb := hd; clear hd; have HB := Aside0.mk (below_then HB.out HB.out.size hb); have HX0 := Aside0.mk (pw_cell_below hb HX0.out); have HX1 := Aside0.mk (pw_cell_below hb HX1.out); have HX2 := Aside0.mk (pw_cell_below hb HX2.out); have hx0 := HX0.out; have hx1 := HX1.out; have hx2 := HX2.out; clear hb) | (go_at_call 52; (with_reducible refine (vec_total.calls 53 _ (fun i : Nat => fix_Mul.f (rd l0 i) (rd l1 i) a2) l0.length (by have := HN.out; omega) _ r1 r2 ?ent ?tells ?go).mono ?_); (case ent => exact enters_of Try.func53 rfl rfl); (case tells => intro i W x e hi hb hg; refine (vec_Dot_1.calls (w.heap.size) (w.heap.size + 1) (w.heap.size + 2) A0 c0 l0 A1 c1 l1 a2 i W x e (pw_cell_below hb HX0.out) (pw_cell_below hb HX1.out) (pw_cell_below hb HX2.out) (Kd.C_below (Kd.C_below HR0.out HB.out) hb) (Kd.C_below (Kd.C_below HR1.out HB.out) hb) (by have := HL.out; omega) (by have := HL.out; omega) hg).mono ?_; rintro ed W' ⟨rfl, hd⟩; exact ⟨rfl, hd⟩); (case go => exact (total_spec (fun a b ha hb => fix_Add.of a b ⟨ha, hb⟩) (zip_i64 (fun x y => mulF_i64 x y a2) l0 l1) (ps := List.zipWith (fun x y => mulF x y a2) l0 l1) (by have := HL.out; rw [List.length_zipWith]; omega) (fun j h => by rw [zip_get _ _ HL.out j h]; exact fix_Mul.of _ _ _ ⟨HV.out.1.rd _, HV.out.2.rd _⟩)).trans (congrArg some HH.out)); rintro ed W2 ⟨rfl, hb⟩; have HB2 := Aside0.mk (below_then HB.out HB.out.size hb); clear hb))
      go_ret2
      exact ⟨rfl, HB2.out⟩
    · rw [if_neg hp1] at h
      cases h
      have HX0 : Aside0 ((((w.alloc (Obj.cells #[Value.slice A0 l0.length c0] 22)).alloc (Obj.cells #[Value.slice A1 l1.length c1] 22)).alloc (Obj.cells #[Value.int .i64 a2] 3)).cell? ⟨w.heap.size, 0, none⟩ = some (.slice A0 l0.length c0)) := ⟨by simp [go_sem]⟩
      have HX1 : Aside0 ((((w.alloc (Obj.cells #[Value.slice A0 l0.length c0] 22)).alloc (Obj.cells #[Value.slice A1 l1.length c1] 22)).alloc (Obj.cells #[Value.int .i64 a2] 3)).cell? ⟨w.heap.size + 1, 0, none⟩ = some (.slice A1 l1.length c1)) := ⟨by simp [go_sem]⟩
      have HX2 : Aside0 ((((w.alloc (Obj.cells #[Value.slice A0 l0.length c0] 22)).alloc (Obj.cells #[Value.slice A1 l1.length c1] 22)).alloc (Obj.cells #[Value.int .i64 a2] 3)).cell? ⟨w.heap.size + 2, 0, none⟩ = some (.int .i64 a2)) := ⟨by simp [go_sem]⟩
      have HB : Aside0 (Below w.heap.size w (((w.alloc (Obj.cells #[Value.slice A0 l0.length c0] 22)).alloc (Obj.cells #[Value.slice A1 l1.length c1] 22)).alloc (Obj.cells #[Value.int .i64 a2] 3))) := ⟨zzA (zzA (zzA (Below.refl _ _) _) _) _⟩
      have he0 : (fracE a2 == 0) = false := beq_eq_false_iff_ne.2 hp1
      have he1 : (fracE a2 != 0) = true := bne_iff_ne.2 hp1
      obtain ⟨e_, hE⟩ : ∃ e_ : Int, fracE a2 = e_ := ⟨_, rfl⟩
      rw [hE] at HP1 he0 he1
      simp only [hE]
      clear hE hp1
      go_enter Try.func34, Try.ntmps34
      go_wp2_with (first | (go_at_call 50; (with_reducible refine (vec_pair.calls A0 c0 l0 A1 c1 l1 0 _ (Kd.C_below HR0.out HB.out) HC0.out (Kd.C_below HR1.out HB.out) HC1.out HP0.out).mono ?_); rintro ed W1 ⟨rfl, hd⟩; have hb := hd; clear hd; have HB := Aside0.mk (below_then HB.out HB.out.size hb); have HX0 := Aside0.mk (pw_cell_below hb HX0.out); have HX1 := Aside0.mk (pw_cell_below hb HX1.out); have HX2 := Aside0.mk (pw_cell_below hb HX2.out); have hx0 := HX0.out; have hx1 := HX1.out; have hx2 := HX2.out; clear hb) | (go_at_call 51; (with_reducible refine (vec_behind.calls a2 e_ _ HP1.out).mono ?_); rintro ed W1 ⟨rfl, hd⟩; have hb := hd; clear hd; have HB := Aside0.mk (below_then HB.out HB.out.size hb); have HX0 := Aside0.mk (pw_cell_below hb HX0.out); have HX1 := Aside0.mk (pw_cell_below hb HX1.out); have HX2 := Aside0.mk (pw_cell_below hb HX2.out); have hx0 := HX0.out; have hx1 := HX1.out; have hx2 := HX2.out; clear hb))
      go_ret2
      exact ⟨rfl, HB.out⟩
  · rw [if_neg hp0] at h
    cases h
    have HX0 : Aside0 ((((w.alloc (Obj.cells #[Value.slice A0 l0.length c0] 22)).alloc (Obj.cells #[Value.slice A1 l1.length c1] 22)).alloc (Obj.cells #[Value.int .i64 a2] 3)).cell? ⟨w.heap.size, 0, none⟩ = some (.slice A0 l0.length c0)) := ⟨by simp [go_sem]⟩
    have HX1 : Aside0 ((((w.alloc (Obj.cells #[Value.slice A0 l0.length c0] 22)).alloc (Obj.cells #[Value.slice A1 l1.length c1] 22)).alloc (Obj.cells #[Value.int .i64 a2] 3)).cell? ⟨w.heap.size + 1, 0, none⟩ = some (.slice A1 l1.length c1)) := ⟨by simp [go_sem]⟩
    have HX2 : Aside0 ((((w.alloc (Obj.cells #[Value.slice A0 l0.length c0] 22)).alloc (Obj.cells #[Value.slice A1 l1.length c1] 22)).alloc (Obj.cells #[Value.int .i64 a2] 3)).cell? ⟨w.heap.size + 2, 0, none⟩ = some (.int .i64 a2)) := ⟨by simp [go_sem]⟩
    have HB : Aside0 (Below w.heap.size w (((w.alloc (Obj.cells #[Value.slice A0 l0.length c0] 22)).alloc (Obj.cells #[Value.slice A1 l1.length c1] 22)).alloc (Obj.cells #[Value.int .i64 a2] 3))) := ⟨zzA (zzA (zzA (Below.refl _ _) _) _) _⟩
    have he0 : (pairE l0 l1 == 0) = false := beq_eq_false_iff_ne.2 hp0
    have he1 : (pairE l0 l1 != 0) = true := bne_iff_ne.2 hp0
    obtain ⟨e_, hE⟩ : ∃ e_ : Int, pairE l0 l1 = e_ := ⟨_, rfl⟩
    rw [hE] at HP0 he0 he1
    simp only [hE]
    clear hE hp0
    go_enter Try.func34, Try.ntmps34
    go_wp2_with (first | (go_at_call 50; (with_reducible refine (vec_pair.calls A0 c0 l0 A1 c1 l1 e_ _ (Kd.C_below HR0.out HB.out) HC0.out (Kd.C_below HR1.out HB.out) HC1.out HP0.out).mono ?_); rintro ed W1 ⟨rfl, hd⟩; have hb := hd; clear hd; have HB := Aside0.mk (below_then HB.out HB.out.size hb); have HX0 := Aside0.mk (pw_cell_below hb HX0.out); have HX1 := Aside0.mk (pw_cell_below hb HX1.out); have HX2 := Aside0.mk (pw_cell_below hb HX2.out); have hx0 := HX0.out; have hx1 := HX1.out; have hx2 := HX2.out; clear hb))
    go_ret2
    exact ⟨rfl, HB.out⟩


/-! ### linear_TellP: function 12 -/
def linear_TellP.f (l0 : List Int) (l1 : List Int) (a2 : Int) : Option (Int × Int) := (linear_Check.f (l1.length : Int) l0 (([(⟨l1, 0⟩ : S26)] : List (S26)))).bind fun t113 => (if t113 = 0 then (if 0 ≤ (l1.length : Int) then (if (l1.length : Int) ≤ (l0.length : Int) then ((vec_Dot.f (l0.take ((l1.length : Int) : Int).toNat) l1 a2).bind fun bt115 => (if bt115.2 = 0 then (if (l1.length : Int) < (l0.length : Int) then ((fix_Add.f bt115.1 (rd l0 (l1.length : Int))).bind fun bt118 => (some (bt118.1, bt118.2))) else (none)) else (some (0, bt115.2)))) else (none)) else (none)) else (some (0, t113)))
set_option maxHeartbeats 8000000 in
set_option maxRecDepth 100000 in
theorem linear_TellP.calls (A0 : Option Addr) (c0 : Nat) (l0 : List Int) (P1_ : Nat → Prop) (A1 : Option Addr) (c1 : Nat) (l1 : List Int) (a2 : Int) (r1 : Int) (r2 : Int) (w : World) (hr0 : Kd.C (Kd.int .i64) w A0 l0.length l0) (hc0 : l0.length ≤ c0) (hs1 : Kd.V (Kd.int .i64) 2 w w.heap.size (fun k_ => P1_ k_) (.slice A1 l1.length c1) l1) (h : linear_TellP.f l0 l1 a2 = some (r1, r2)) :
  Calls Try.prog 12 #[.slice A0 l0.length c0, .slice A1 l1.length c1, .int .i64 a2] w fun e w' => e = .returned (.tuple #[.int .i64 r1, .int .i64 r2]) ∧ Below w.heap.size w w' := by
 have hu26 := Try.underlying26
 have HR0 := Aside0.mk hr0
 have HC0 := Aside0.mk hc0
 clear hr0 hc0
 have HO1 := Aside0.mk (show Kd.V (Kd.int .i64) 2 w w.heap.size (fun k_ => (P1_ k_ ∨ w.heap.size ≤ k_)) (.slice A1 l1.length c1) l1 from Kd.V_mono hs1 (fun k_ hk => .inl hk))
 have HB := Aside0.mk (Below.refl w.heap.size w)
 have H : ((linear_Check.f (l1.length : Int) l0 (([(⟨l1, 0⟩ : S26)] : List (S26)))).bind fun t113 => (if t113 = 0 then (if 0 ≤ (l1.length : Int) then (if (l1.length : Int) ≤ (l0.length : Int) then ((vec_Dot.f (l0.take ((l1.length : Int) : Int).toNat) l1 a2).bind fun bt115 => (if bt115.2 = 0 then (if (l1.length : Int) < (l0.length : Int) then ((fix_Add.f bt115.1 (rd l0 (l1.length : Int))).bind fun bt118 => (some (bt118.1, bt118.2))) else (none)) else (some (0, bt115.2)))) else (none)) else (none)) else (some (0, t113)))) = some (r1, r2) := h
 clear h
 obtain ⟨y110, hy110⟩ : ∃ y_ : List (S26), y_ = (([(⟨l1, 0⟩ : S26)] : List (S26))) := ⟨_, rfl⟩
 replace H : ((linear_Check.f (l1.length : Int) l0 y110).bind fun t113 => (if t113 = 0 then (if 0 ≤ (l1.length : Int) then (if (l1.length : Int) ≤ (l0.length : Int) then ((vec_Dot.f (l0.take ((l1.length : Int) : Int).toNat) l1 a2).bind fun bt115 => (if bt115.2 = 0 then (if (l1.length : Int) < (l0.length : Int) then ((fix_Add.f bt115.1 (rd l0 (l1.length : Int))).bind fun bt118 => (some (bt118.1, bt118.2))) else (none)) else (some (0, bt115.2)))) else (none)) else (none)) else (some (0, t113)))) = some (r1, r2) := by first | (rw [hy110]; with_reducible exact H) | (have H2_ := (Option.bind_some _ _).symm.trans H; rw [hy110]; with_reducible exact H2_) | (have H2_ := (Option.bind_some _ _).symm.trans H; with_reducible exact H2_) | with_reducible exact H | (rw [hy110]; exact H) | exact H
 have Ny110 := Aside0.mk hy110
 clear hy110
 replace H := Option.bind_eq_some_iff.mp H
 obtain ⟨t113, A40, H⟩ := H
 replace H : (if t113 = 0 then (if 0 ≤ (l1.length : Int) then (if (l1.length : Int) ≤ (l0.length : Int) then ((vec_Dot.f (l0.take ((l1.length : Int) : Int).toNat) l1 a2).bind fun bt115 => (if bt115.2 = 0 then (if (l1.length : Int) < (l0.length : Int) then ((fix_Add.f bt115.1 (rd l0 (l1.length : Int))).bind fun bt118 => (some (bt118.1, bt118.2))) else (none)) else (some (0, bt115.2)))) else (none)) else (none)) else (some (0, t113))) = some (r1, r2) := H
 have A4 := Aside0.mk A40
 clear A40
 by_cases c5 : t113 = 0
 ·
  rw [if_pos c5] at H
  have c5b0 : (t113 == 0) = true := beq_iff_eq.mpr c5
  have c5b1 : (t113 != 0) = false := bne_eq_false_iff_eq.mpr c5
  clear c5
  by_cases c6 : 0 ≤ (l1.length : Int)
  ·
   rw [if_pos c6] at H
   have c6b0 := eq_true c6
   have c6b1 : decide (0 ≤ (l1.length : Int)) = true := decide_eq_true c6
   clear c6
   by_cases c7 : (l1.length : Int) ≤ (l0.length : Int)
   ·
    rw [if_pos c7] at H
    have c7b0 := eq_true c7
    have c7b1 : decide ((l1.length : Int) ≤ (l0.length : Int)) = true := decide_eq_true c7
    clear c7
    replace H := Option.bind_eq_some_iff.mp H
    obtain ⟨⟨t115, t116⟩, A80, H⟩ := H
    replace H : (if t116 = 0 then (if (l1.length : Int) < (l0.length : Int) then ((fix_Add.f t115 (rd l0 (l1.length : Int))).bind fun bt118 => (some (bt118.1, bt118.2))) else (none)) else (some (0, t116))) = some (r1, r2) := H
    have A8 := Aside0.mk A80
    clear A80
    by_cases c9 : t116 = 0
    ·
     rw [if_pos c9] at H
     have c9b0 : (t116 == 0) = true := beq_iff_eq.mpr c9
     have c9b1 : (t116 != 0) = false := bne_eq_false_iff_eq.mpr c9
     clear c9
     by_cases c10 : (l1.length : Int) < (l0.length : Int)
     ·
      rw [if_pos c10] at H
      have c10b0 : decide ((l1.length : Int) < (l0.length : Int)) = true := decide_eq_true c10
      have c10b1 : decide (l1.length < l0.length) = true := decide_eq_true (Int.ofNat_lt.mp c10)
      clear c10
      replace H := Option.bind_eq_some_iff.mp H
      obtain ⟨⟨t118, t119⟩, A110, H⟩ := H
      replace H : (some (t118, t119)) = some (r1, r2) := H
      have A11 := Aside0.mk A110
      clear A110
      simp only [Option.some.injEq, Prod.mk.injEq] at H
      obtain ⟨rfl, rfl⟩ := H
      go_enter Try.func12, Try.ntmps12
      go_wp2_with (first | ((with_reducible refine gate_dst (N := 18) rfl ?_); refine Kd.N_lit k26 _ 26 ?hg (N' := 18) ?hd (xs := ([(⟨l1, 0⟩ : S26)] : List (S26))) (inner := [.slice A1 l1.length c1, .int .i64 0]) (ok := (fun k_ => (P1_ k_ ∨ w.heap.size ≤ k_))) (okp := (fun k_ => (P1_ k_ ∨ w.heap.size ≤ k_))) ?hr ?hp (fun _ hk => hk) ((show ∀ k_, w.heap.size ≤ k_ → (fun k_ => (P1_ k_ ∨ w.heap.size ≤ k_)) k_ from fun k_ hk => (.inr (Nat.le_trans (zzS (by repeat (first | (with_reducible first | exact HB.out | apply zzA | apply zzN | apply zzD) | exact HB.out))) hk))) _ (Nat.le_refl _)) (Below.refl _ _) (Nat.le_refl _) (by simp) ?_; (case hd => rfl); (case hg => rfl); (case hr => first | (go_simp; done) | (go_simp; rfl)); (case hp => exact (Reps.c2 (show Kd.FK k26 _ _ (⟨l1, 0⟩ : S26) [.slice A1 l1.length c1, .int .i64 0] from (k26_mkF _ _ (⟨l1, 0⟩ : S26) (Kd.V_reads' (Kd.V_mono (ok' := (fun k_ => (P1_ k_ ∨ w.heap.size ≤ k_))) (HO1.out) (fun k_ hk => hk))).2.1 (Kd.V_F (base := w.heap.size) (e := 2) (Kd.V_mono (ok' := (fun k_ => (P1_ k_ ∨ w.heap.size ≤ k_))) (HO1.out) (fun k_ hk => hk))))) (Reps.none _ _))); intro v111 w12 ho13 hb hg_ hnew_; clear hg_ hnew_; (first | rw [← Ny110.out] at ho13 | (simp only [Int.reduceToNat] at ho13; rw [← Ny110.out] at ho13)); have n0_ := Aside0.mk (Kd.V_elder' (by (with_reducible repeat (first | apply Kd.V_alloc | apply Kd.V_drewN | apply Kd.V_drew)); exact HO1.out) (Kd.N_base ho13) hb); have n1_ := Aside0.mk (Kd.N_lower ho13 (zzS (by repeat (first | (with_reducible first | exact HB.out | apply zzA | apply zzN | apply zzD) | exact HB.out)))); have n2_ := Aside0.mk (zzT (by repeat (first | (with_reducible first | exact HB.out | apply zzA | apply zzN | apply zzD) | exact HB.out)) hb); clear HO1; clear HB; have HO1 := n0_; have HO112 := n1_; have HB := n2_; clear n0_ n1_ n2_; clear hb ho13; obtain ⟨Ao14, co14, eo14⟩ := Kd.N_slice HO112.out; subst eo14) | ((with_reducible refine gate_callee (f := 33) rfl ?_); refine goesL_ (some 19) rfl rfl Try.func33 (by kernel_rfl) rfl #[.int .i64 (l1.length : Int), .slice A0 l0.length c0, .slice Ao14 y110.length co14] rfl (by (try simp only [List.map_toArray, List.map_cons, List.map_nil]); first | done | rfl | (simp only [List.length_drop, List.length_take]; rfl)) ?_; (with_reducible refine (linear_Check.calls (l1.length : Int) _ _ l0 _ _ y110 t113 _ ?side1 ?side2 ?side3 ?side4 A4.out).mono ?_); (case side1 => repeat (first | exact (Kd.C_below HR0.out HB.out) | (with_reducible refine ccA ?_ _) | (with_reducible refine ccN ?_ _) | (with_reducible refine ccD ?_))); (case side2 => exact HC0.out); (case side3 => repeat (first | exact (Kd.N_reads' HO112.out).2.2 | (with_reducible refine ccA ?_ _) | (with_reducible refine ccN ?_ _) | (with_reducible refine ccD ?_))); (case side4 => exact (Kd.N_reads' HO112.out).2.1); rintro e w15 ⟨rfl, hb⟩; refine ⟨_, rfl, ?_⟩; have n0_ := Aside0.mk (Kd.V_below (by (with_reducible repeat (first | apply Kd.V_alloc | apply Kd.V_drewN | apply Kd.V_drew)); exact HO1.out) hb); have n1_ := Aside0.mk (Kd.N_below (by (with_reducible repeat (first | apply Kd.N_alloc | apply Kd.N_drewN | apply Kd.N_drew)); exact HO112.out) hb); have n2_ := Aside0.mk (zzT (by repeat (first | (with_reducible first | exact HB.out | apply zzA | apply zzN | apply zzD) | exact HB.out)) hb); clear HO1; clear HO112; clear HB; have HO1 := n0_; have HO112 := n1_; have HB := n2_; clear n0_ n1_ n2_; (try clear hb); (try clear hb2); (try clear hk); (try clear hi); obtain ⟨i016, hi016, _, hsz16, _⟩ := info_parts info2; obtain ⟨hcut16, hA16, hC16⟩ := print_take_of (P := Try.prog) (Value.int .i64) 0 22 2 .i64 Try.underlying22 hi016 hsz16 A0 c0 l0 (l1.length : Int) (of_decide_eq_true (by first | (with_reducible assumption) | assumption)) (of_decide_eq_true (by first | (with_reducible assumption) | assumption)) HC0.out; have HR114 := Aside0.mk (Kd.C_of_reads (h1 := fun _ => rfl) (hA16 _ (Kd.reads_of_C HR0.out))); have HC114 := Aside0.mk hC16; clear hA16 hC16 hi016 hsz16) | ((with_reducible refine gate_callee (f := 34) rfl ?_); refine goesL_ (some 29) rfl rfl Try.func34 (by kernel_rfl) rfl #[.slice A0 (l0.take ((l1.length : Int) : Int).toNat).length c0, .slice A1 l1.length c1, .int .i64 a2] rfl (by (try simp only [List.map_toArray, List.map_cons, List.map_nil]); first | done | (rw [show (l0.take ((l1.length : Int) : Int).toNat).length = (l1.length : Int).toNat from (by rw [List.length_take]; have h_ : ((l1.length : Int) : Int) ≤ (l0.length : Int) := of_decide_eq_true (by first | (with_reducible assumption) | assumption); omega)] <;> rfl) | rfl | (simp only [List.length_drop, List.length_take]; rfl)) ?_; (with_reducible refine (vec_Dot.calls _ _ (l0.take ((l1.length : Int) : Int).toNat) _ _ l1 a2 t115 t116 _ ?side1 ?side2 ?side3 ?side4 A8.out).mono ?_); (case side1 => repeat (first | exact (Kd.C_below HR114.out HB.out) | (with_reducible refine ccA ?_ _) | (with_reducible refine ccN ?_ _) | (with_reducible refine ccD ?_))); (case side2 => exact HC114.out); (case side3 => repeat (first | exact (Kd.V_reads' HO1.out).2.2 | (with_reducible refine ccA ?_ _) | (with_reducible refine ccN ?_ _) | (with_reducible refine ccD ?_))); (case side4 => exact (Kd.V_reads' HO1.out).2.1); rintro e w17 ⟨rfl, hb⟩; refine ⟨_, rfl, ?_⟩; have n0_ := Aside0.mk (Kd.V_below (by (with_reducible repeat (first | apply Kd.V_alloc | apply Kd.V_drewN | apply Kd.V_drew)); exact HO1.out) hb); have n1_ := Aside0.mk (Kd.N_below (by (with_reducible repeat (first | apply Kd.N_alloc | apply Kd.N_drewN | apply Kd.N_drew)); exact HO112.out) hb); have n2_ := Aside0.mk (zzT (by repeat (first | (with_reducible first | exact HB.out | apply zzA | apply zzN | apply zzD) | exact HB.out)) hb); clear HO1; clear HO112; clear HB; have HO1 := n0_; have HO112 := n1_; have HB := n2_; clear n0_ n1_ n2_; (try clear hb); (try clear hb2); (try clear hk); (try clear hi); have p117 : 0 ≤ ((l1.length : Int) : Int) := of_decide_eq_true (by first | (with_reducible assumption) | assumption); have q117 : (l1.length : Int) < (l0.length : Int) := of_decide_eq_true (by first | (with_reducible assumption) | assumption); obtain ⟨ad117, e117, hx117_0⟩ := Kd.at_int HR0.out (l1.length : Int) p117 q117; cases e117; replace hx117_0 := (HB.out.cell (World.block_lt_of_cell? w _ hx117_0)).trans hx117_0; (try simp only [Go.IntWalk.toNatUp] at hx117_0); replace p117 := eq_true p117; replace q117 := eq_true q117) | ((with_reducible refine gate_callee (f := 35) rfl ?_); refine goesL_ (some 40) rfl rfl Try.func35 (by kernel_rfl) rfl #[.int .i64 t115, .int .i64 (rd l0 (l1.length : Int))] rfl (by (try simp only [List.map_toArray, List.map_cons, List.map_nil]); first | done | rfl | (simp only [List.length_drop, List.length_take]; rfl)) ?_; (with_reducible refine (fix_Add.calls t115 (rd l0 (l1.length : Int)) t118 t119 _ A11.out).mono ?_); rintro e w' ⟨rfl, ⟨nd, rfl⟩⟩; refine ⟨_, rfl, ?_⟩))
      go_ret2
      exact ⟨by first | rfl | (simp [errW_none, errW_some] <;> rfl) | (simp [*, errW_none, errW_some] <;> rfl), by repeat (first | (with_reducible first | exact HB.out | apply zzA | apply zzN | apply zzD) | exact HB.out)⟩
     ·
      rw [if_neg c10] at H
      exact absurd H (by simp)
    ·
     rw [if_neg c9] at H
     have c9b0 : (t116 == 0) = false := beq_eq_false_iff_ne.mpr c9
     have c9b1 : (t116 != 0) = true := bne_iff_ne.mpr c9
     simp only [Option.some.injEq, Prod.mk.injEq] at H
     obtain ⟨rfl, rfl⟩ := H
     go_enter Try.func12, Try.ntmps12
     go_wp2_with (first | ((with_reducible refine gate_dst (N := 18) rfl ?_); refine Kd.N_lit k26 _ 26 ?hg (N' := 18) ?hd (xs := ([(⟨l1, 0⟩ : S26)] : List (S26))) (inner := [.slice A1 l1.length c1, .int .i64 0]) (ok := (fun k_ => (P1_ k_ ∨ w.heap.size ≤ k_))) (okp := (fun k_ => (P1_ k_ ∨ w.heap.size ≤ k_))) ?hr ?hp (fun _ hk => hk) ((show ∀ k_, w.heap.size ≤ k_ → (fun k_ => (P1_ k_ ∨ w.heap.size ≤ k_)) k_ from fun k_ hk => (.inr (Nat.le_trans (zzS (by repeat (first | (with_reducible first | exact HB.out | apply zzA | apply zzN | apply zzD) | exact HB.out))) hk))) _ (Nat.le_refl _)) (Below.refl _ _) (Nat.le_refl _) (by simp) ?_; (case hd => rfl); (case hg => rfl); (case hr => first | (go_simp; done) | (go_simp; rfl)); (case hp => exact (Reps.c2 (show Kd.FK k26 _ _ (⟨l1, 0⟩ : S26) [.slice A1 l1.length c1, .int .i64 0] from (k26_mkF _ _ (⟨l1, 0⟩ : S26) (Kd.V_reads' (Kd.V_mono (ok' := (fun k_ => (P1_ k_ ∨ w.heap.size ≤ k_))) (HO1.out) (fun k_ hk => hk))).2.1 (Kd.V_F (base := w.heap.size) (e := 2) (Kd.V_mono (ok' := (fun k_ => (P1_ k_ ∨ w.heap.size ≤ k_))) (HO1.out) (fun k_ hk => hk))))) (Reps.none _ _))); intro v111 w18 ho19 hb hg_ hnew_; clear hg_ hnew_; (first | rw [← Ny110.out] at ho19 | (simp only [Int.reduceToNat] at ho19; rw [← Ny110.out] at ho19)); have n0_ := Aside0.mk (Kd.V_elder' (by (with_reducible repeat (first | apply Kd.V_alloc | apply Kd.V_drewN | apply Kd.V_drew)); exact HO1.out) (Kd.N_base ho19) hb); have n1_ := Aside0.mk (Kd.N_lower ho19 (zzS (by repeat (first | (with_reducible first | exact HB.out | apply zzA | apply zzN | apply zzD) | exact HB.out)))); have n2_ := Aside0.mk (zzT (by repeat (first | (with_reducible first | exact HB.out | apply zzA | apply zzN | apply zzD) | exact HB.out)) hb); clear HO1; clear HB; have HO1 := n0_; have HO112 := n1_; have HB := n2_; clear n0_ n1_ n2_; clear hb ho19; obtain ⟨Ao20, co20, eo20⟩ := Kd.N_slice HO112.out; subst eo20) | ((with_reducible refine gate_callee (f := 33) rfl ?_); refine goesL_ (some 19) rfl rfl Try.func33 (by kernel_rfl) rfl #[.int .i64 (l1.length : Int), .slice A0 l0.length c0, .slice Ao20 y110.length co20] rfl (by (try simp only [List.map_toArray, List.map_cons, List.map_nil]); first | done | rfl | (simp only [List.length_drop, List.length_take]; rfl)) ?_; (with_reducible refine (linear_Check.calls (l1.length : Int) _ _ l0 _ _ y110 t113 _ ?side1 ?side2 ?side3 ?side4 A4.out).mono ?_); (case side1 => repeat (first | exact (Kd.C_below HR0.out HB.out) | (with_reducible refine ccA ?_ _) | (with_reducible refine ccN ?_ _) | (with_reducible refine ccD ?_))); (case side2 => exact HC0.out); (case side3 => repeat (first | exact (Kd.N_reads' HO112.out).2.2 | (with_reducible refine ccA ?_ _) | (with_reducible refine ccN ?_ _) | (with_reducible refine ccD ?_))); (case side4 => exact (Kd.N_reads' HO112.out).2.1); rintro e w21 ⟨rfl, hb⟩; refine ⟨_, rfl, ?_⟩; have n0_ := Aside0.mk (Kd.V_below (by (with_reducible repeat (first | apply Kd.V_alloc | apply Kd.V_drewN | apply Kd.V_drew)); exact HO1.out) hb); have n1_ := Aside0.mk (Kd.N_below (by (with_reducible repeat (first | apply Kd.N_alloc | apply Kd.N_drewN | apply Kd.N_drew)); exact HO112.out) hb); have n2_ := Aside0.mk (zzT (by repeat (first | (with_reducible first | exact HB.out | apply zzA | apply zzN | apply zzD) | exact HB.out)) hb); clear HO1; clear HO112; clear HB; have HO1 := n0_; have HO112 := n1_; have HB := n2_; clear n0_ n1_ n2_; (try clear hb); (try clear hb2); (try clear hk); (try clear hi); obtain ⟨i022, hi022, _, hsz22, _⟩ := info_parts info2; obtain ⟨hcut22, hA22, hC22⟩ := print_take_of (P := Try.prog) (Value.int .i64) 0 22 2 .i64 Try.underlying22 hi022 hsz22 A0 c0 l0 (l1.length : Int) (of_decide_eq_true (by first | (with_reducible assumption) | assumption)) (of_decide_eq_true (by first | (with_reducible assumption) | assumption)) HC0.out; have HR114 := Aside0.mk (Kd.C_of_reads (h1 := fun _ => rfl) (hA22 _ (Kd.reads_of_C HR0.out))); have HC114 := Aside0.mk hC22; clear hA22 hC22 hi022 hsz22) | ((with_reducible refine gate_callee (f := 34) rfl ?_); refine goesL_ (some 29) rfl rfl Try.func34 (by kernel_rfl) rfl #[.slice A0 (l0.take ((l1.length : Int) : Int).toNat).length c0, .slice A1 l1.length c1, .int .i64 a2] rfl (by (try simp only [List.map_toArray, List.map_cons, List.map_nil]); first | done | (rw [show (l0.take ((l1.length : Int) : Int).toNat).length = (l1.length : Int).toNat from (by rw [List.length_take]; have h_ : ((l1.length : Int) : Int) ≤ (l0.length : Int) := of_decide_eq_true (by first | (with_reducible assumption) | assumption); omega)] <;> rfl) | rfl | (simp only [List.length_drop, List.length_take]; rfl)) ?_; (with_reducible refine (vec_Dot.calls _ _ (l0.take ((l1.length : Int) : Int).toNat) _ _ l1 a2 t115 t116 _ ?side1 ?side2 ?side3 ?side4 A8.out).mono ?_); (case side1 => repeat (first | exact (Kd.C_below HR114.out HB.out) | (with_reducible refine ccA ?_ _) | (with_reducible refine ccN ?_ _) | (with_reducible refine ccD ?_))); (case side2 => exact HC114.out); (case side3 => repeat (first | exact (Kd.V_reads' HO1.out).2.2 | (with_reducible refine ccA ?_ _) | (with_reducible refine ccN ?_ _) | (with_reducible refine ccD ?_))); (case side4 => exact (Kd.V_reads' HO1.out).2.1); rintro e w23 ⟨rfl, hb⟩; refine ⟨_, rfl, ?_⟩; have n0_ := Aside0.mk (Kd.V_below (by (with_reducible repeat (first | apply Kd.V_alloc | apply Kd.V_drewN | apply Kd.V_drew)); exact HO1.out) hb); have n1_ := Aside0.mk (Kd.N_below (by (with_reducible repeat (first | apply Kd.N_alloc | apply Kd.N_drewN | apply Kd.N_drew)); exact HO112.out) hb); have n2_ := Aside0.mk (zzT (by repeat (first | (with_reducible first | exact HB.out | apply zzA | apply zzN | apply zzD) | exact HB.out)) hb); clear HO1; clear HO112; clear HB; have HO1 := n0_; have HO112 := n1_; have HB := n2_; clear n0_ n1_ n2_; (try clear hb); (try clear hb2); (try clear hk); (try clear hi)))
     go_ret2
     exact ⟨by first | rfl | (simp [errW_none, errW_some] <;> rfl) | (simp [*, errW_none, errW_some] <;> rfl), by repeat (first | (with_reducible first | exact HB.out | apply zzA | apply zzN | apply zzD) | exact HB.out)⟩
   ·
    rw [if_neg c7] at H
    exact absurd H (by simp)
  ·
   rw [if_neg c6] at H
   exact absurd H (by simp)
 ·
  rw [if_neg c5] at H
  have c5b0 : (t113 == 0) = false := beq_eq_false_iff_ne.mpr c5
  have c5b1 : (t113 != 0) = true := bne_iff_ne.mpr c5
  simp only [Option.some.injEq, Prod.mk.injEq] at H
  obtain ⟨rfl, rfl⟩ := H
  go_enter Try.func12, Try.ntmps12
  go_wp2_with (first | ((with_reducible refine gate_dst (N := 18) rfl ?_); refine Kd.N_lit k26 _ 26 ?hg (N' := 18) ?hd (xs := ([(⟨l1, 0⟩ : S26)] : List (S26))) (inner := [.slice A1 l1.length c1, .int .i64 0]) (ok := (fun k_ => (P1_ k_ ∨ w.heap.size ≤ k_))) (okp := (fun k_ => (P1_ k_ ∨ w.heap.size ≤ k_))) ?hr ?hp (fun _ hk => hk) ((show ∀ k_, w.heap.size ≤ k_ → (fun k_ => (P1_ k_ ∨ w.heap.size ≤ k_)) k_ from fun k_ hk => (.inr (Nat.le_trans (zzS (by repeat (first | (with_reducible first | exact HB.out | apply zzA | apply zzN | apply zzD) | exact HB.out))) hk))) _ (Nat.le_refl _)) (Below.refl _ _) (Nat.le_refl _) (by simp) ?_; (case hd => rfl); (case hg => rfl); (case hr => first | (go_simp; done) | (go_simp; rfl)); (case hp => exact (Reps.c2 (show Kd.FK k26 _ _ (⟨l1, 0⟩ : S26) [.slice A1 l1.length c1, .int .i64 0] from (k26_mkF _ _ (⟨l1, 0⟩ : S26) (Kd.V_reads' (Kd.V_mono (ok' := (fun k_ => (P1_ k_ ∨ w.heap.size ≤ k_))) (HO1.out) (fun k_ hk => hk))).2.1 (Kd.V_F (base := w.heap.size) (e := 2) (Kd.V_mono (ok' := (fun k_ => (P1_ k_ ∨ w.heap.size ≤ k_))) (HO1.out) (fun k_ hk => hk))))) (Reps.none _ _))); intro v111 w24 ho25 hb hg_ hnew_; clear hg_ hnew_; (first | rw [← Ny110.out] at ho25 | (simp only [Int.reduceToNat] at ho25; rw [← Ny110.out] at ho25)); have n0_ := Aside0.mk (Kd.V_elder' (by (with_reducible repeat (first | apply Kd.V_alloc | apply Kd.V_drewN | apply Kd.V_drew)); exact HO1.out) (Kd.N_base ho25) hb); have n1_ := Aside0.mk (Kd.N_lower ho25 (zzS (by repeat (first | (with_reducible first | exact HB.out | apply zzA | apply zzN | apply zzD) | exact HB.out)))); have n2_ := Aside0.mk (zzT (by repeat (first | (with_reducible first | exact HB.out | apply zzA | apply zzN | apply zzD) | exact HB.out)) hb); clear HO1; clear HB; have HO1 := n0_; have HO112 := n1_; have HB := n2_; clear n0_ n1_ n2_; clear hb ho25; obtain ⟨Ao26, co26, eo26⟩ := Kd.N_slice HO112.out; subst eo26) | ((with_reducible refine gate_callee (f := 33) rfl ?_); refine goesL_ (some 19) rfl rfl Try.func33 (by kernel_rfl) rfl #[.int .i64 (l1.length : Int), .slice A0 l0.length c0, .slice Ao26 y110.length co26] rfl (by (try simp only [List.map_toArray, List.map_cons, List.map_nil]); first | done | rfl | (simp only [List.length_drop, List.length_take]; rfl)) ?_; (with_reducible refine (linear_Check.calls (l1.length : Int) _ _ l0 _ _ y110 t113 _ ?side1 ?side2 ?side3 ?side4 A4.out).mono ?_); (case side1 => repeat (first | exact (Kd.C_below HR0.out HB.out) | (with_reducible refine ccA ?_ _) | (with_reducible refine ccN ?_ _) | (with_reducible refine ccD ?_))); (case side2 => exact HC0.out); (case side3 => repeat (first | exact (Kd.N_reads' HO112.out).2.2 | (with_reducible refine ccA ?_ _) | (with_reducible refine ccN ?_ _) | (with_reducible refine ccD ?_))); (case side4 => exact (Kd.N_reads' HO112.out).2.1); rintro e w27 ⟨rfl, hb⟩; refine ⟨_, rfl, ?_⟩; have n0_ := Aside0.mk (Kd.V_below (by (with_reducible repeat (first | apply Kd.V_alloc | apply Kd.V_drewN | apply Kd.V_drew)); exact HO1.out) hb); have n1_ := Aside0.mk (Kd.N_below (by (with_reducible repeat (first | apply Kd.N_alloc | apply Kd.N_drewN | apply Kd.N_drew)); exact HO112.out) hb); have n2_ := Aside0.mk (zzT (by repeat (first | (with_reducible first | exact HB.out | apply zzA | apply zzN | apply zzD) | exact HB.out)) hb); clear HO1; clear HO112; clear HB; have HO1 := n0_; have HO112 := n1_; have HB := n2_; clear n0_ n1_ n2_; (try clear hb); (try clear hb2); (try clear hk); (try clear hi)))
  go_ret2
  exact ⟨by first | rfl | (simp [errW_none, errW_some] <;> rfl) | (simp [*, errW_none, errW_some] <;> rfl), by repeat (first | (with_reducible first | exact HB.out | apply zzA | apply zzN | apply zzD) | exact HB.out)⟩

def linear_Tell.f (l0 l1 : List Int) (a2 : Int) : Option (Int × Int) := if V64 l0 ∧ V64 l1 then some (tellL l0 l1 a2) else none
theorem linear_Tell.of (l0 l1 : List Int) (a2 : Int)  (h_ : V64 l0 ∧ V64 l1) : linear_Tell.f l0 l1 a2 = some (tellL l0 l1 a2) := if_pos h_
theorem linear_TellP.is (l0 l1 : List Int) (a2 : Int) (h0 : V64 l0) (h1 : V64 l1) : linear_TellP.f l0 l1 a2 = some (tellL l0 l1 a2) := by
  unfold linear_TellP.f tellL linear_Check.f
  simp only [Option.bind_some, List.map_cons, List.map_nil, sm]
  by_cases c : checkL l1.length l0 [(l1, 0)] = 0
  · rw [if_pos c, if_pos c]
    obtain ⟨c1, c2, c3, -, -, -⟩ := checkL_len c
    rw [if_pos (by omega), if_pos (by omega), Int.toNat_natCast, vec_Dot.of _ _ _ ⟨fun x hx => h0 x (List.mem_of_mem_take hx), h1⟩]
    simp only [Option.bind_some]
    by_cases d : (dotV (l0.take l1.length) l1 a2).2 = 0
    · rw [if_pos d, if_pos d, if_pos (by omega), fix_Add.of _ _ ⟨dotV_i64 _ _ _, h0.rd _⟩]; rfl
    · rw [if_neg d, if_neg d]
  · rw [if_neg c, if_neg c]
theorem linear_Tell.calls (A0 : Option Addr) (c0 : Nat) (l0 : List Int) (P1_ : Nat → Prop) (A1 : Option Addr) (c1 : Nat) (l1 : List Int) (a2 : Int) (r1 : Int) (r2 : Int) (w : World) (hr0 : Kd.C (Kd.int .i64) w A0 l0.length l0) (hc0 : l0.length ≤ c0) (hs1 : Kd.V (Kd.int .i64) 2 w w.heap.size (fun k_ => P1_ k_) (.slice A1 l1.length c1) l1) (h : linear_Tell.f l0 l1 a2 = some (r1, r2)) :
    Calls Try.prog 12 #[.slice A0 l0.length c0, .slice A1 l1.length c1, .int .i64 a2] w fun e w' => e = .returned (.tuple #[.int .i64 r1, .int .i64 r2]) ∧ Below w.heap.size w w' := by
  unfold linear_Tell.f at h
  split at h
  case isFalse => cases h
  rename_i hv
  exact linear_TellP.calls A0 c0 l0 P1_ A1 c1 l1 a2 r1 r2 w hr0 hc0 hs1 ((linear_TellP.is l0 l1 a2 hv.1 hv.2).trans h)


/-! ### slices_Clone_int64_int64: function 32 -/
def slices_Clone_int64_int64.f (l0 : List Int) : Option (List Int) := if l0.length < 17592186044416 then some l0 else none
theorem slices_Clone_int64_int64.of (l0 : List Int)  (h_ : l0.length < 17592186044416) : slices_Clone_int64_int64.f l0 = some l0 := if_pos h_
set_option maxHeartbeats 2000000 in
set_option maxRecDepth 100000 in
theorem slices_Clone_int64_int64.calls (A0 : Option Addr) (c0 : Nat) (l0 : List Int) (r : List Int) (w : World) (hr0 : Kd.C (Kd.int .i64) w A0 l0.length l0) (hc0 : l0.length ≤ c0) (h : slices_Clone_int64_int64.f l0 = some r) :
    Calls Try.prog 32 #[.slice A0 l0.length c0] w fun e w' => ∃ v0_ : Value, e = .returned (v0_) ∧ Kd.R (Kd.int .i64) 2 w' w.heap.size (fun _ => True) v0_ r ∧ Below w.heap.size w w' := by
  unfold slices_Clone_int64_int64.f at h
  split at h
  case isFalse => cases h
  rename_i hl
  cases h
  have hu := Try.underlying22
  have hq : ∀ W : World, (Go.binOp .eql 22 (.slice A0 l0.length c0) (.slice none 0 0)).run Try.prog W = .ok (.bool A0.isNone) W := fun W => Go.Lib.run_eql_slice_nil W 22 2 A0 l0.length c0 0 0 hu
  by_cases hA : A0 = none
  · subst hA
    have hn : l0 = [] := by
      cases l0 with
      | nil => rfl
      | cons x l => obtain ⟨ad, e, _⟩ := Kd.at_int hr0 0 (by omega) (by simp); cases e
    subst hn
    have HR := Aside0.mk hr0
    clear hr0
    simp only [Option.isNone_none, List.length_nil] at hq
    go_enter Try.func32, Try.ntmps32
    go_wp2
    go_ret
    exact ⟨_, rfl, Kd.R_nil _ _ _ _ _, Below.refl _ _⟩
  · have hA : A0.isNone = false := by cases A0 <;> simp_all
    simp only [hA] at hq
    have HR := Aside0.mk hr0
    have HL := Aside0.mk hl
    clear hr0 hl
    go_enter Try.func32, Try.ntmps32
    have ho := own_made w w.heap.size 2 .i64 0 (Nat.le_refl _) (by omega)
    rw [show madeCells #[Value.int .i64 0] 0 = #[] by simp [madeCells]] at ho
    have HO : Aside0 (Kd.R (Kd.int .i64) 2 (w.alloc (Obj.cells #[] 2)) w.heap.size (fun _ => True) (.slice (some ⟨w.heap.size, 0, none⟩) 0 0) ([] : List Int)) := ⟨Kd.R_of_own (enc := Value.int .i64) (h1 := fun _ => rfl) (xs := ([] : List Int)) ho (fun _ _ => trivial)⟩
    clear ho
    go_wp2_with ((with_reducible refine gate_builtin (b := .append) (xs := #[.tmp 5, .tmp 6]) rfl ?_); at_builtin; refine Kd.R_append_rows (Kd.int .i64) (w0 := w) w.heap.size rfl (.tmp 5) (.tmp 6) 22 2 (.int .i64 0) 8 rfl Try.underlying22 info2 rfl (by decide) (by omega) (.slice (some ⟨w.heap.size, 0, none⟩) 0 0) ([] : List Int) l0 _ _ _ (fun _ => True) (fun _ => False) rfl rfl ?aO ?aR (fun _ _ h => h) (fun _ h => h.elim) ?aF ?aB ?aS ?aL ?_; (case aO => exact HO.out); (case aR => exact ccA HR.out _); (case aF => exact fun _ _ => trivial); (case aB => exact zzA (Below.refl _ _) _); (case aS => simp); (case aL => have := HL.out; simp only [List.length_nil]; omega); intro v1 w2 ho hb hg hat; have HO2 := Aside0.mk ho; have HB2 := Aside0.mk hb; clear ho hb hg hat)
    go_ret
    exact ⟨_, rfl, HO2.out, HB2.out⟩


/-! ### vec_Check: function 42 -/
def vec_Check.f (l0 : List Int) : Option (Int) := if (l0.length : Int) > 4096 then (some 3) else (some 0)
set_option maxHeartbeats 8000000 in
set_option maxRecDepth 100000 in
theorem vec_Check.calls (A0 : Option Addr) (c0 : Nat) (l0 : List Int) (r : Int) (w : World) (hr0 : Kd.C (Kd.int .i64) w A0 l0.length l0) (hc0 : l0.length ≤ c0) (h : vec_Check.f l0 = some r) :
  Calls Try.prog 42 #[.slice A0 l0.length c0] w fun e w' => e = .returned (.int .i64 r) ∧ Drawn0 w w' := by
 have HR0 := Aside0.mk hr0
 have HC0 := Aside0.mk hc0
 clear hr0 hc0
 have H : (if (l0.length : Int) > 4096 then (some 3) else (some 0)) = some r := h
 clear h
 by_cases c2 : (l0.length : Int) > 4096
 ·
  rw [if_pos c2] at H
  have c2b0 : decide (4096 < (l0.length : Int)) = true := decide_eq_true c2
  have c2b1 : decide (4096 < l0.length) = true := decide_eq_true (by omega)
  clear c2
  obtain rfl := Option.some.inj H
  go_enter Try.func42, Try.ntmps42
  go_wp2
  go_ret
  exact ⟨by first | rfl | (simp; done) | (simp [*]; done), by repeat (first | exact ddR _ | apply ddS)⟩
 ·
  rw [if_neg c2] at H
  have c2b0 : decide (4096 < (l0.length : Int)) = false := decide_eq_false c2
  have c2b1 : decide (4096 < l0.length) = false := decide_eq_false (by omega)
  clear c2
  obtain rfl := Option.some.inj H
  go_enter Try.func42, Try.ntmps42
  go_wp2
  go_ret
  exact ⟨by first | rfl | (simp; done) | (simp [*]; done), by repeat (first | exact ddR _ | apply ddS)⟩

theorem vec_Check.of (l0 : List Int) : vec_Check.f l0 = some (checkE l0) := by
  unfold vec_Check.f checkE
  by_cases c : l0.length > 4096
  · rw [if_pos (by omega), if_pos c]
  · rw [if_neg (by omega), if_neg c]


/-! ### mlp_Bend: function 21 -/
def mlp_Bend.f (l0 : List Int) : Option (List Int × Int) := some (bendM l0)
set_option maxHeartbeats 4000000 in
set_option maxRecDepth 100000 in
theorem mlp_Bend.calls (A0 : Option Addr) (c0 : Nat) (l0 : List Int) (r1 : List Int) (r2 : Int) (w : World) (hr0 : Kd.C (Kd.int .i64) w A0 l0.length l0) (hc0 : l0.length ≤ c0) (h : mlp_Bend.f l0 = some (r1, r2)) :
    Calls Try.prog 21 #[.slice A0 l0.length c0] w fun e w' => ∃ v0_ : Value, e = .returned (.tuple #[v0_, .int .i64 r2]) ∧ Kd.R (Kd.int .i64) 2 w' w.heap.size (fun _ => True) v0_ r1 ∧ Below w.heap.size w w' := by
  have h := Option.some.inj h
  unfold bendM at h
  have HR0 := Aside0.mk hr0
  have HC0 := Aside0.mk hc0
  clear hr0 hc0
  by_cases c : l0.length ≤ 4096
  · rw [if_pos c] at h
    obtain ⟨h1, h2⟩ : l0.map (fun n => max n 0) = r1 ∧ 0 = r2 := by cases h; exact ⟨rfl, rfl⟩
    subst h1
    subst h2
    have A1 : vec_Check.f l0 = some 0 := by unfold vec_Check.f; rw [if_neg (by omega)]
    have A2 : slices_Clone_int64_int64.f l0 = some l0 := slices_Clone_int64_int64.of _ (by omega)
    have HN := Aside0.mk c
    clear h c
    go_enter Try.func21, Try.ntmps21
    go_wp2_with (first | (go_at_call 42; (with_reducible refine (vec_Check.calls A0 c0 l0 0 _ HR0.out HC0.out A1).mono ?_); rintro ed W1 ⟨rfl, ⟨nd, rfl⟩⟩) | (go_at_call 32; (with_reducible refine (slices_Clone_int64_int64.calls A0 c0 l0 l0 _ (ccN HR0.out _) HC0.out A2).mono ?_); rintro ed W1 ⟨v_, rfl, hR, hb⟩; have HO := Aside0.mk (Kd.R_lower hR (Nat.le_refl _)); have HB := Aside0.mk (below_then (zzN (Below.refl w.heap.size w) nd) (Nat.le_refl _) hb); clear hR hb; obtain ⟨Ao, co, eo⟩ := Kd.R_slice HO.out; subst eo))
    go_loopw [17] (fun i W => ∃ (k : Nat), i = .int .i64 k ∧ Aside0 (k ≤ l0.length) ∧ Aside0 (Kd.R (Kd.int .i64) 2 W w.heap.size (fun _ => True) (.slice Ao l0.length co) ((l0.take k).map (fun n => max n 0) ++ l0.drop k)) ∧ Aside0 (Below w.heap.size w W)) (fun i _ => l0.length - (intOf i).toNat)
    case atStart => exact ⟨0, rfl, ⟨Nat.zero_le _⟩, ⟨by rw [List.take_zero, List.drop_zero]; exact HO.out⟩, HB⟩
    case round =>
      obtain ⟨k, rfl, ⟨hk⟩, HO, HB⟩ := hrel
      by_cases hlt : k < l0.length
      · have hacc : ((l0.take k).map (fun n => max n 0)).length = k := by rw [List.length_map, List.length_take]; omega
        obtain ⟨g, hg⟩ : ∃ g, Ao = some ⟨g, 0, none⟩ := by
          have hx := HO.out
          obtain ⟨g, cap, he, _⟩ := Kd.R_form hx (by rw [List.length_append, hacc, List.length_drop]; omega)
          injection he with h1 _ _
          exact ⟨g, h1⟩
        subst hg
        have hrd : rd ((l0.take k).map (fun n => max n 0) ++ l0.drop k) (k : Int) = rd l0 k := by
          rw [rd_nat hlt, rd_nat (by rw [List.length_append, hacc, List.length_drop]; omega), List.getElem_append_right (by omega)]
          have hmin : min k l0.length = k := Nat.min_eq_left hk
          simp [hmin]
        have hcell := (Kd.R_celln 0 HO.out (k : Int) (by omega) (by omega)).1
        have hfr := (Kd.R_celln 0 HO.out (k : Int) (by omega) (by omega)).2
        rw [show rdOf 0 ((l0.take k).map (fun n => max n 0) ++ l0.drop k) (k : Int) = rd l0 k from hrd] at hcell
        simp only [Int.toNat_natCast] at hcell hfr
        have hset : ((l0.take k).map (fun n => max n 0) ++ l0.drop k).set k (max (rd l0 k) 0) = (l0.take (k + 1)).map (fun n => max n 0) ++ l0.drop (k + 1) := by
          rw [List.set_append_right _ _ (by omega), hacc, Nat.sub_self, List.drop_eq_getElem_cons hlt, List.set_cons_zero, List.take_add_one, List.getElem?_eq_getElem hlt, List.map_append, rd_nat hlt]
          simp
        have HS := Aside0.mk hset
        have HKL := Aside0.mk hacc
        have HLT := Aside0.mk hlt
        clear hset hrd hacc hk
        go_wp2
        have hp := (Kd.R_putg HO.out (k : Int) (max (rd l0 k) 0)).1
        simp only [Int.toNat_natCast] at hp
        rw [HS.out, show max (rd l0 k) 0 = (if rd l0 k < 0 then 0 else rd l0 k) by split <;> omega] at hp
        have hL := HN.out
        exact ⟨⟨k + 1, by rw [wrap64_of (show I64 ((k : Int) + 1) by unfold I64; omega)]; rfl, ⟨HLT.out⟩, ⟨hp⟩, ⟨HB.out.setCell (by obtain ⟨_, _, he, hb, _⟩ := Kd.R_form HO.out (by have := HKL.out; have := HLT.out; rw [List.length_append, List.length_drop]; omega); injection he with h1 _ _; injection h1 with h1; injection h1 with h1 _ _; show w.heap.size ≤ g; rw [h1]; exact hb) _⟩⟩, by rw [wrap64_of (show I64 ((k : Int) + 1) by unfold I64; omega)]; simp [intOf]; omega⟩
      · have hkn : k = l0.length := by omega
        have HO2 := HO.out
        rw [hkn, List.drop_length, List.append_nil, List.take_length] at HO2
        have HO3 := Aside0.mk HO2
        subst hkn
        clear HO2 HO hk
        go_wp2
        go_ret2
        exact ⟨_, rfl, HO3.out, HB.out⟩
  · rw [if_neg c] at h
    obtain ⟨h1, h2⟩ : [] = r1 ∧ 3 = r2 := by cases h; exact ⟨rfl, rfl⟩
    subst h1
    subst h2
    have A1 : vec_Check.f l0 = some 3 := by unfold vec_Check.f; rw [if_pos (by omega)]
    clear h c
    go_enter Try.func21, Try.ntmps21
    go_wp2_with (go_at_call 42; (with_reducible refine (vec_Check.calls A0 c0 l0 3 _ HR0.out HC0.out A1).mono ?_); rintro ed W1 ⟨rfl, ⟨nd, rfl⟩⟩)
    go_ret2
    exact ⟨_, rfl, Kd.R_nil _ _ _ _ _, zzN (Below.refl _ _) _⟩


/-! ### mlp_net_hiddenP: function 31 -/
def mlp_net_hiddenP.l0 : Nat → List Int → Int → List Int → List (List Int) → Int → Int → Option (List Int × Int)
 | 0, _, _, _, _, _, _ => none
 | k + 1, x1, x2, x8, x30, x31, x32 => if x32 < x31 then (if 0 ≤ x32 then (if x32 < (x30.length : Int) then ((linear_Tell.f (rd_L1 x30 x32) x1 x2).bind fun bt125 => (if x32 < (x8.length : Int) then (if bt125.2 = 0 then (mlp_net_hiddenP.l0 k x1 x2 (x8.set (x32 : Int).toNat bt125.1) x30 x31 (wrap64 (x32 + 1))) else (some (([] : List Int), bt125.2))) else (none))) else (none)) else (none)) else ((mlp_Bend.f x8).bind fun bt128 => (some (bt128.1, bt128.2)))
def mlp_net_hiddenP.f (k : Nat) (l0_0 : List Int) (l0_1 : List (List Int)) (a0_2 : Int) (l1 : List Int) (a2 : Int) : Option (List Int × Int) := if (l1.length : Int) = a0_2 then (if a2 < 0 then (some (([] : List Int), 1)) else (if a2 > 30 then (some (([] : List Int), 1)) else (if 0 ≤ (l0_1.length : Int) then (if ((l0_1.length : Int) : Int).toNat ≤ 35184372088832 then (mlp_net_hiddenP.l0 k l1 a2 (List.replicate ((l0_1.length : Int) : Int).toNat 0) l0_1 (l0_1.length : Int) 0) else (none)) else (none)))) else (some (([] : List Int), 4))
theorem mlp_net_hiddenP.mono_l : ∀ k, (∀ y0 y1 y2 y3 y4 y5, LeO (mlp_net_hiddenP.l0 k y0 y1 y2 y3 y4 y5) (mlp_net_hiddenP.l0 (k + 1) y0 y1 y2 y3 y4 y5))
 | 0 => fun _ _ _ _ _ _ r h => by simp [mlp_net_hiddenP.l0] at h
 | k + 1 => by
  have ih0 := mlp_net_hiddenP.mono_l k
  ·
   intro y0 y1 y2 y3 y4 y5
   unfold mlp_net_hiddenP.l0
   repeat' first
   | (with_reducible exact ih0 _ _ _ _ _ _)
   | (with_reducible exact LeO.refl _)
   | (with_reducible exact LeO.none _)
   | (with_reducible refine LeO.ite ?_ ?_)
   | (with_reducible refine LeO.bind ?_ (fun _ => ?_))
   | exact ih0 _ _ _ _ _ _
   | exact LeO.none _
   | refine LeO.ite ?_ ?_
   | refine LeO.bind ?_ (fun _ => ?_)
theorem mlp_net_hiddenP.mono : ∀ a0 a1 a2 a3 a4 k, LeO (mlp_net_hiddenP.f k a0 a1 a2 a3 a4) (mlp_net_hiddenP.f (k + 1) a0 a1 a2 a3 a4) := by
 intro a0 a1 a2 a3 a4 k
 have ih0 := mlp_net_hiddenP.mono_l k
 unfold mlp_net_hiddenP.f
 repeat' first
   | (with_reducible exact ih0 _ _ _ _ _ _)
   | (with_reducible exact LeO.refl _)
   | (with_reducible exact LeO.none _)
   | (with_reducible refine LeO.ite ?_ ?_)
   | (with_reducible refine LeO.bind ?_ (fun _ => ?_))
   | exact ih0 _ _ _ _ _ _
   | exact LeO.none _
   | refine LeO.ite ?_ ?_
   | refine LeO.bind ?_ (fun _ => ?_)
set_option maxHeartbeats 8000000 in
set_option maxRecDepth 100000 in
theorem mlp_net_hiddenP.calls (k : Nat) (A0_0 : Option Addr) (c0_0 : Nat) (l0_0 : List Int) (A0_1 : Option Addr) (c0_1 : Nat) (l0_1 : List (List Int)) (a0_2 : Int) (A1 : Option Addr) (c1 : Nat) (l1 : List Int) (a2 : Int) (r1 : List Int) (r2 : Int) (w : World) (hr0_0 : Kd.C (Kd.int .i64) w A0_0 l0_0.length l0_0) (hc0_0 : l0_0.length ≤ c0_0) (hr0_1 : Kd.C (Kd.slice 2 (Kd.int .i64)) w A0_1 l0_1.length l0_1) (hc0_1 : l0_1.length ≤ c0_1) (hr1 : Kd.C (Kd.int .i64) w A1 l1.length l1) (hc1 : l1.length ≤ c1) (h : mlp_net_hiddenP.f k l0_0 l0_1 a0_2 l1 a2 = some (r1, r2)) :
  Calls Try.prog 31 #[.agg #[.slice A0_0 l0_0.length c0_0, .slice A0_1 l0_1.length c0_1, .int .i64 a0_2], .slice A1 l1.length c1, .int .i64 a2] w fun e w' => ∃ v0_ : Value, e = .returned (.tuple #[v0_, .int .i64 r2]) ∧ Kd.R (Kd.int .i64) 2 w' w.heap.size (fun _ => True) v0_ r1 ∧ Below w.heap.size w w' := by
 have hu54 := Try.underlying54
 have HR0_0 := Aside0.mk hr0_0
 have HC0_0 := Aside0.mk hc0_0
 clear hr0_0 hc0_0
 have HR0_1 := Aside0.mk hr0_1
 have HC0_1 := Aside0.mk hc0_1
 clear hr0_1 hc0_1
 have HR1 := Aside0.mk hr1
 have HC1 := Aside0.mk hc1
 clear hr1 hc1
 have HB := Aside0.mk (Below.refl w.heap.size w)
 have H : (if (l1.length : Int) = a0_2 then (if a2 < 0 then (some (([] : List Int), 1)) else (if a2 > 30 then (some (([] : List Int), 1)) else (if 0 ≤ (l0_1.length : Int) then (if ((l0_1.length : Int) : Int).toNat ≤ 35184372088832 then (mlp_net_hiddenP.l0 k l1 a2 (List.replicate ((l0_1.length : Int) : Int).toNat 0) l0_1 (l0_1.length : Int) 0) else (none)) else (none)))) else (some (([] : List Int), 4))) = some (r1, r2) := h
 clear h
 by_cases c4 : (l1.length : Int) = a0_2
 ·
  rw [if_pos c4] at H
  have c4b0 : ((l1.length : Int) == a0_2) = true := beq_iff_eq.mpr c4
  have c4b1 : ((l1.length : Int) != a0_2) = false := bne_eq_false_iff_eq.mpr c4
  clear c4
  by_cases c5 : a2 < 0
  ·
   rw [if_pos c5] at H
   have c5b0 : decide (a2 < 0) = true := decide_eq_true c5
   clear c5
   simp only [Option.some.injEq, Prod.mk.injEq] at H
   obtain ⟨rfl, rfl⟩ := H
   go_enter Try.func31, Try.ntmps31
   go_wp2_with (first | ((with_reducible refine gate_dst (N := 3) rfl ?_); refine box_event ?hg (N := 3) ?hd (cs := #[.slice A0_0 l0_0.length c0_0, .slice A0_1 l0_1.length c0_1, .int .i64 a0_2]) (t := 54) ?hr ?_; (case hd => rfl); (case hg => rfl); (case hr => first | (go_simp; done) | (go_simp; rfl)); intro gb120 hg w6 hbox hb; have n0_ := Aside0.mk (zzT (by repeat (first | (with_reducible first | exact HB.out | apply zzA | apply zzN | apply zzD) | exact HB.out)) hb); have n1_ := Aside0.mk (hbox); have n2_ := Aside0.mk ((by rw [hg]; exact (zzS (by repeat (first | (with_reducible first | exact HB.out | apply zzA | apply zzN | apply zzD) | exact HB.out))) : w.heap.size ≤ gb120)); have n3_ := Aside0.mk ((by rw [hg]; exact (zzS (by repeat (first | (with_reducible first | exact HB.out | apply zzA | apply zzN | apply zzD) | exact HB.out))) : w.heap.size ≤ gb120)); clear HB; have HB := n0_; have BK120 := n1_; have GW120 := n2_; have GE120 := n3_; clear n0_ n1_ n2_ n3_; clear hb hbox hg; have hcz7_0 : w6.cell? ⟨gb120, 0, none⟩ = some (.slice A0_0 l0_0.length c0_0) := (blk_cell BK120.out 0).trans rfl; have hcz7_1 : w6.cell? ⟨gb120, 1, none⟩ = some (.slice A0_1 l0_1.length c0_1) := (blk_cell BK120.out 1).trans rfl; have hcz7_2 : w6.cell? ⟨gb120, 2, none⟩ = some (.int .i64 a0_2) := (blk_cell BK120.out 2).trans rfl; have hfz7_0 := blk_frozen BK120.out 0; have hfz7_1 := blk_frozen BK120.out 1; have hfz7_2 := blk_frozen BK120.out 2))
   go_ret2
   exact ⟨_, by first | rfl | (simp [errW_none, errW_some] <;> rfl) | (simp [*, errW_none, errW_some] <;> rfl), by first | exact Kd.R_nil _ _ _ _ _ | exact Kd.N_nil _ _ _ _ _ | exact Kd.V_nil _ _ _ _ _ | exact Kd.Q_nil _ _ _ _ _ | exact Kd.S_nil _ _ _ _ _, by repeat (first | (with_reducible first | exact HB.out | apply zzA | apply zzN | apply zzD | refine below_set ?_ GE120.out) | exact HB.out)⟩
  ·
   rw [if_neg c5] at H
   have c5b0 : decide (a2 < 0) = false := decide_eq_false c5
   clear c5
   by_cases c8 : a2 > 30
   ·
    rw [if_pos c8] at H
    have c8b0 : decide (30 < a2) = true := decide_eq_true c8
    clear c8
    simp only [Option.some.injEq, Prod.mk.injEq] at H
    obtain ⟨rfl, rfl⟩ := H
    go_enter Try.func31, Try.ntmps31
    go_wp2_with (first | ((with_reducible refine gate_dst (N := 3) rfl ?_); refine box_event ?hg (N := 3) ?hd (cs := #[.slice A0_0 l0_0.length c0_0, .slice A0_1 l0_1.length c0_1, .int .i64 a0_2]) (t := 54) ?hr ?_; (case hd => rfl); (case hg => rfl); (case hr => first | (go_simp; done) | (go_simp; rfl)); intro gb120 hg w9 hbox hb; have n0_ := Aside0.mk (zzT (by repeat (first | (with_reducible first | exact HB.out | apply zzA | apply zzN | apply zzD) | exact HB.out)) hb); have n1_ := Aside0.mk (hbox); have n2_ := Aside0.mk ((by rw [hg]; exact (zzS (by repeat (first | (with_reducible first | exact HB.out | apply zzA | apply zzN | apply zzD) | exact HB.out))) : w.heap.size ≤ gb120)); have n3_ := Aside0.mk ((by rw [hg]; exact (zzS (by repeat (first | (with_reducible first | exact HB.out | apply zzA | apply zzN | apply zzD) | exact HB.out))) : w.heap.size ≤ gb120)); clear HB; have HB := n0_; have BK120 := n1_; have GW120 := n2_; have GE120 := n3_; clear n0_ n1_ n2_ n3_; clear hb hbox hg; have hcz10_0 : w9.cell? ⟨gb120, 0, none⟩ = some (.slice A0_0 l0_0.length c0_0) := (blk_cell BK120.out 0).trans rfl; have hcz10_1 : w9.cell? ⟨gb120, 1, none⟩ = some (.slice A0_1 l0_1.length c0_1) := (blk_cell BK120.out 1).trans rfl; have hcz10_2 : w9.cell? ⟨gb120, 2, none⟩ = some (.int .i64 a0_2) := (blk_cell BK120.out 2).trans rfl; have hfz10_0 := blk_frozen BK120.out 0; have hfz10_1 := blk_frozen BK120.out 1; have hfz10_2 := blk_frozen BK120.out 2))
    go_ret2
    exact ⟨_, by first | rfl | (simp [errW_none, errW_some] <;> rfl) | (simp [*, errW_none, errW_some] <;> rfl), by first | exact Kd.R_nil _ _ _ _ _ | exact Kd.N_nil _ _ _ _ _ | exact Kd.V_nil _ _ _ _ _ | exact Kd.Q_nil _ _ _ _ _ | exact Kd.S_nil _ _ _ _ _, by repeat (first | (with_reducible first | exact HB.out | apply zzA | apply zzN | apply zzD | refine below_set ?_ GE120.out) | exact HB.out)⟩
   ·
    rw [if_neg c8] at H
    have c8b0 : decide (30 < a2) = false := decide_eq_false c8
    clear c8
    by_cases c11 : 0 ≤ (l0_1.length : Int)
    ·
     rw [if_pos c11] at H
     have c11b0 := eq_true c11
     have c11b1 : decide (0 ≤ (l0_1.length : Int)) = true := decide_eq_true c11
     clear c11
     by_cases c12 : ((l0_1.length : Int) : Int).toNat ≤ 35184372088832
     ·
      rw [if_pos c12] at H
      have c12b0 := eq_true c12
      have c12b1 : decide (((l0_1.length : Int) : Int).toNat ≤ 35184372088832) = true := decide_eq_true c12
      clear c12
      obtain ⟨y121, hy121⟩ : ∃ y_ : List Int, y_ = (List.replicate ((l0_1.length : Int) : Int).toNat 0) := ⟨_, rfl⟩
      replace H : (mlp_net_hiddenP.l0 k l1 a2 y121 l0_1 (l0_1.length : Int) 0) = some (r1, r2) := by first | (rw [hy121]; with_reducible exact H) | (have H2_ := (Option.bind_some _ _).symm.trans H; rw [hy121]; with_reducible exact H2_) | (have H2_ := (Option.bind_some _ _).symm.trans H; with_reducible exact H2_) | with_reducible exact H | (rw [hy121]; exact H) | exact H
      have Ny121 := Aside0.mk hy121
      clear hy121
      have H' := Aside0.mk H
      clear H
      go_enter Try.func31, Try.ntmps31
      go_wp2_with (first | ((with_reducible refine gate_dst (N := 3) rfl ?_); refine box_event ?hg (N := 3) ?hd (cs := #[.slice A0_0 l0_0.length c0_0, .slice A0_1 l0_1.length c0_1, .int .i64 a0_2]) (t := 54) ?hr ?_; (case hd => rfl); (case hg => rfl); (case hr => first | (go_simp; done) | (go_simp; rfl)); intro gb120 hg w13 hbox hb; have n0_ := Aside0.mk (zzT (by repeat (first | (with_reducible first | exact HB.out | apply zzA | apply zzN | apply zzD) | exact HB.out)) hb); have n1_ := Aside0.mk (hbox); have n2_ := Aside0.mk ((by rw [hg]; exact (zzS (by repeat (first | (with_reducible first | exact HB.out | apply zzA | apply zzN | apply zzD) | exact HB.out))) : w.heap.size ≤ gb120)); have n3_ := Aside0.mk ((by rw [hg]; exact (zzS (by repeat (first | (with_reducible first | exact HB.out | apply zzA | apply zzN | apply zzD) | exact HB.out))) : w.heap.size ≤ gb120)); clear HB; have HB := n0_; have BK120 := n1_; have GW120 := n2_; have GE120 := n3_; clear n0_ n1_ n2_ n3_; clear hb hbox hg; have hcz14_0 : w13.cell? ⟨gb120, 0, none⟩ = some (.slice A0_0 l0_0.length c0_0) := (blk_cell BK120.out 0).trans rfl; have hcz14_1 : w13.cell? ⟨gb120, 1, none⟩ = some (.slice A0_1 l0_1.length c0_1) := (blk_cell BK120.out 1).trans rfl; have hcz14_2 : w13.cell? ⟨gb120, 2, none⟩ = some (.int .i64 a0_2) := (blk_cell BK120.out 2).trans rfl; have hfz14_0 := blk_frozen BK120.out 0; have hfz14_1 := blk_frozen BK120.out 1; have hfz14_2 := blk_frozen BK120.out 2) | ((with_reducible refine gate_dst (N := 28) rfl ?_); refine Kd.R_make (Kd.int .i64) _ 2 rfl (N := 28) rfl 22 _ _ rfl (l0_1.length : Int) rfl rfl Try.underlying22 (.int .i64 0) 8 info2 rfl (by decide) (by omega) 0 (ok := fun _ => True) (okp := fun _ => True) rfl (fun _ hk => hk) trivial (of_decide_eq_true (by first | (with_reducible assumption) | assumption)) (Nat.le_trans (Nat.mul_le_mul_right _ (of_decide_eq_true (by first | (with_reducible assumption) | assumption) : (l0_1.length : Int).toNat ≤ 35184372088832)) (by omega)) (Below.refl _ _) (Nat.le_refl _) ?_; intro v122 w15 ho16 hb hg_ hnew_; clear hg_ hnew_; (first | rw [← Ny121.out] at ho16 | (simp only [Int.reduceToNat] at ho16; rw [← Ny121.out] at ho16)); have n0_ := Aside0.mk (Kd.R_lower ho16 (zzS (by repeat (first | (with_reducible first | exact HB.out | apply zzA | apply zzN | apply zzD | refine below_set ?_ GE120.out) | exact HB.out)))); have n1_ := Aside0.mk (blk_below (g := gb120) (o := .cells #[.slice A0_0 l0_0.length c0_0, .slice A0_1 l0_1.length c0_1, .int .i64 a0_2] 54 (0, 0)) (by (with_reducible repeat (first | refine kkN ?_ _ | refine kkD ?_ | refine kkA ?_ _)); exact BK120.out) hb); have n2_ := Aside0.mk (zzT (by repeat (first | (with_reducible first | exact HB.out | apply zzA | apply zzN | apply zzD | refine below_set ?_ GE120.out) | exact HB.out)) hb); clear BK120; clear HB; have HO123 := n0_; have BK120 := n1_; have HB := n2_; clear n0_ n1_ n2_; clear hb ho16; have hcz17_0 : w15.cell? ⟨gb120, 0, none⟩ = some (.slice A0_0 l0_0.length c0_0) := (blk_cell BK120.out 0).trans rfl; have hcz17_1 : w15.cell? ⟨gb120, 1, none⟩ = some (.slice A0_1 l0_1.length c0_1) := (blk_cell BK120.out 1).trans rfl; have hcz17_2 : w15.cell? ⟨gb120, 2, none⟩ = some (.int .i64 a0_2) := (blk_cell BK120.out 2).trans rfl; have hfz17_0 := blk_frozen BK120.out 0; have hfz17_1 := blk_frozen BK120.out 1; have hfz17_2 := blk_frozen BK120.out 2))
      go_loopg [32] k (fun kq v32 w' => ∃ (x8_1 : List Int) (x32_1 : Int), v32 = .int .i64 x32_1 ∧ Aside0 (mlp_net_hiddenP.l0 kq l1 a2 x8_1 l0_1 (l0_1.length : Int) x32_1 = some (r1, r2)) ∧ Aside0 (kq ≤ k) ∧ Aside0 (Kd.R (Kd.int .i64) 2 w' w.heap.size (fun _ => True) v122 x8_1) ∧ Aside0 (w'.heap[gb120]? = some (.cells #[(.slice A0_0 l0_0.length c0_0), (.slice A0_1 l0_1.length c0_1), .int .i64 a0_2] 54 (0, 0))) ∧ Aside0 (Below w.heap.size w w'))
      case atStart => exact ⟨(y121), (0), (by first | rfl | (simp; done) | (simp [*]; done)), H', ⟨Nat.le_refl _⟩, ⟨by (with_reducible repeat (first | apply rrA | apply rrN | apply rrD)); exact HO123.out⟩, ⟨by (with_reducible repeat (first | refine kkN ?_ _ | refine kkD ?_ | refine kkA ?_ _)); exact BK120.out⟩, ⟨by repeat (first | (with_reducible first | exact HB.out | apply zzA | apply zzN | apply zzD | refine below_set ?_ GE120.out) | exact HB.out)⟩⟩
      case round =>
       clear H'
       try clear c1
       try clear p2
       try clear c3
       try clear c4
       try clear c4b0
       try clear c4b1
       try clear c5
       try clear c5b0
       try clear c8
       try clear c8b0
       try clear c11
       try clear c11b0
       try clear c11b1
       try clear c12
       try clear c12b0
       try clear c12b1
       try clear hcz10_0
       try clear hcz10_1
       try clear hcz10_2
       try clear hcz14_0
       try clear hcz14_1
       try clear hcz14_2
       try clear hcz17_0
       try clear hcz17_1
       try clear hcz17_2
       try clear hcz7_0
       try clear hcz7_1
       try clear hcz7_2
       try clear hfz10_0
       try clear hfz10_1
       try clear hfz10_2
       try clear hfz14_0
       try clear hfz14_1
       try clear hfz14_2
       try clear hfz17_0
       try clear hfz17_1
       try clear hfz17_2
       try clear hfz7_0
       try clear hfz7_1
       try clear hfz7_2
       obtain ⟨x8_1, x32_1, rfl, HA, HK1, HO_8, BK120, HB⟩ := hrel
       cases gk with
       | zero => exact absurd HA.out (by simp [mlp_net_hiddenP.l0])
       | succ k1 =>
        have H := HA.out
        clear HA
        simp only [mlp_net_hiddenP.l0] at H
        by_cases c18 : x32_1 < (l0_1.length : Int)
        ·
         rw [if_pos c18] at H
         have c18b0 : decide (x32_1 < (l0_1.length : Int)) = true := decide_eq_true c18
         clear c18
         by_cases c19 : 0 ≤ x32_1
         ·
          rw [if_pos c19] at H
          have c19b0 : decide (0 ≤ x32_1) = true := decide_eq_true c19
          clear c19
          by_cases c20 : x32_1 < (l0_1.length : Int)
          ·
           rw [if_pos c20] at H
           have c20b0 : decide (x32_1 < (l0_1.length : Int)) = true := decide_eq_true c20
           clear c20
           replace H := Option.bind_eq_some_iff.mp H
           obtain ⟨⟨t125, t126⟩, A210, H⟩ := H
           replace H : (if x32_1 < (x8_1.length : Int) then (if t126 = 0 then (mlp_net_hiddenP.l0 k1 l1 a2 (x8_1.set (x32_1 : Int).toNat t125) l0_1 (l0_1.length : Int) (wrap64 (x32_1 + 1))) else (some (([] : List Int), t126))) else (none)) = some (r1, r2) := H
           have A21 := Aside0.mk A210
           clear A210
           by_cases c22 : x32_1 < (x8_1.length : Int)
           ·
            rw [if_pos c22] at H
            have c22b0 : decide (x32_1 < (x8_1.length : Int)) = true := decide_eq_true c22
            clear c22
            obtain ⟨y127, hy127⟩ : ∃ y_ : List Int, y_ = (x8_1.set (x32_1 : Int).toNat t125) := ⟨_, rfl⟩
            replace H : (if t126 = 0 then (mlp_net_hiddenP.l0 k1 l1 a2 y127 l0_1 (l0_1.length : Int) (wrap64 (x32_1 + 1))) else (some (([] : List Int), t126))) = some (r1, r2) := by first | (rw [hy127]; with_reducible exact H) | (have H2_ := (Option.bind_some _ _).symm.trans H; rw [hy127]; with_reducible exact H2_) | (have H2_ := (Option.bind_some _ _).symm.trans H; with_reducible exact H2_) | with_reducible exact H | (rw [hy127]; exact H) | exact H
            have Ny127 := Aside0.mk hy127
            clear hy127
            by_cases c24 : t126 = 0
            ·
             rw [if_pos c24] at H
             have c24b0 : (t126 == 0) = true := beq_iff_eq.mpr c24
             have c24b1 : (t126 != 0) = false := bne_eq_false_iff_eq.mpr c24
             clear c24
             have H' := Aside0.mk H
             clear H
             have p124 : 0 ≤ (x32_1 : Int) := of_decide_eq_true (by first | (with_reducible assumption) | assumption)
             have q124 : x32_1 < (l0_1.length : Int) := of_decide_eq_true (by first | (with_reducible assumption) | assumption)
             obtain ⟨ad124, A124_0, c124_0, e124, hx124_0, hl124_0, hi124_0⟩ := at_L1 HR0_1.out x32_1 p124 q124
             cases e124
             replace hx124_0 := (HB.out.cell (World.block_lt_of_cell? w _ hx124_0)).trans hx124_0
             have HR124_0 := Aside0.mk hi124_0
             have HC124_0 := Aside0.mk hl124_0
             clear hi124_0 hl124_0
             replace p124 := eq_true p124
             replace q124 := eq_true q124
             go_wp2_with (first | ((with_reducible refine gate_callee (f := 12) rfl ?_); refine goesL_ (some 43) rfl rfl Try.func12 (by kernel_rfl) rfl #[.slice A124_0 (rd_L1 l0_1 x32_1).length c124_0, .slice A1 l1.length c1, .int .i64 a2] rfl (by (try simp only [List.map_toArray, List.map_cons, List.map_nil]); first | done | rfl | (simp only [List.length_drop, List.length_take]; rfl)) ?_; (with_reducible refine (linear_Tell.calls _ _ (rd_L1 l0_1 x32_1) (fun k_ => k_ < w.heap.size) _ _ l1 a2 t125 t126 _ ?side1 ?side2 ?side3 A21.out).mono ?_); (case side1 => repeat (first | exact (Kd.C_below HR124_0.out HB.out) | (with_reducible refine ccA ?_ _) | (with_reducible refine ccN ?_ _) | (with_reducible refine ccD ?_))); (case side2 => exact HC124_0.out); (case side3 => exact Kd.V_mk HC1.out (Kd.F_below (Kd.C_F (Kd.heap_int .i64) HR1.out) (by repeat (first | (with_reducible first | exact HB.out | apply zzA | apply zzN | apply zzD | refine below_set ?_ GE120.out) | exact HB.out)))); rintro e w25 ⟨rfl, hb⟩; refine ⟨_, rfl, ?_⟩; have n0_ := Aside0.mk (Kd.R_below (by (with_reducible repeat (first | apply rrA | apply rrN | apply rrD)); exact HO_8.out) hb); have n1_ := Aside0.mk (blk_below (g := gb120) (o := .cells #[.slice A0_0 l0_0.length c0_0, .slice (some ad124) l0_1.length c0_1, .int .i64 a0_2] 54 (0, 0)) (by (with_reducible repeat (first | refine kkN ?_ _ | refine kkD ?_ | refine kkA ?_ _)); exact BK120.out) hb); have n2_ := Aside0.mk (zzT (by repeat (first | (with_reducible first | exact HB.out | apply zzA | apply zzN | apply zzD | refine below_set ?_ GE120.out) | exact HB.out)) hb); clear HO_8; clear BK120; clear HB; have HO_8 := n0_; have BK120 := n1_; have HB := n2_; clear n0_ n1_ n2_; (try clear hb); (try clear hb2); (try clear hk); (try clear hi); have p23 : 0 ≤ (x32_1 : Int) := of_decide_eq_true (by first | (with_reducible assumption) | assumption); have q23 : (x32_1 : Int) < ((x8_1.length : Int) : Int) := of_decide_eq_true (by first | (with_reducible assumption) | assumption); obtain ⟨go23, co23, eo23, gb23, gl23, cl23, HG23⟩ := Kd.R_form HO_8.out (by omega); (first | cases eo23 | (injection eo23 with ea_ en_ ec_; (first | subst ea_ | (injection ea_ with ea_; subst ea_)); subst ec_; clear en_)); have GB23 := Aside0.mk gb23; have GG23 := Aside0.mk HG23; clear gb23 gl23 HG23; obtain ⟨hx23_0, hf23_0⟩ := Kd.R_celln 0 HO_8.out (x32_1 : Int) p23 q23; replace p23 := eq_true p23; replace q23 := eq_true q23; obtain ⟨hy26_, hz26_⟩ := Kd.R_celln 0 HO_8.out (x32_1 : Int) (of_decide_eq_true (by first | (with_reducible assumption) | assumption)) (of_decide_eq_true (by first | (with_reducible assumption) | assumption)); have HP26 := Kd.R_putg HO_8.out (x32_1 : Int) t125) | ((with_reducible refine gate_store (t := 2) (p := 46) rfl ?_); refine store_event (t := 2) (p := 46) (v := ?vo_w27) (w1 := (w25.setCell ⟨go23, (x32_1 : Int).toNat, none⟩ (.int .i64 t125))) ?hg ?ho ?hn ?hr ?_; (case ho => rfl); (case hg => rfl); (case hn => rfl); (case hr => first | (go_simp; done) | (go_simp; rfl)); intro w27 hw; have hg : w25.grownBy w27 (some go23) := (by rw [hw]; exact HP26.2); have hp_ : Kd.R (Kd.int .i64) 2 w27 w.heap.size (fun _ => True) (.slice (some ⟨go23, 0, none⟩) x8_1.length co23) y127 := (by rw [hw, Ny127.out]; exact HP26.1); clear HP26; have n0_ := Aside0.mk (hp_); have n1_ := Aside0.mk (blk_grown (g := gb120) (o := .cells #[.slice A0_0 l0_0.length c0_0, .slice (some ad124) l0_1.length c0_1, .int .i64 a0_2] 54 (0, 0)) (by (with_reducible repeat (first | refine kkN ?_ _ | refine kkD ?_ | refine kkA ?_ _)); exact BK120.out) hg (Kd.R_ne HO_8.out BK120.out (by decide))); have n2_ := Aside0.mk ((by rw [hw]; exact below_set (HB.out) GB23.out : Below w.heap.size w w27)); clear HO_8; clear BK120; clear HB; have HO_8 := n0_; have BK120 := n1_; have HB := n2_; clear n0_ n1_ n2_; clear hg hw hp_))
             go_roundg k1
             case measure => have := HK1.out; omega
             case rel => exact ⟨(y127), (wrap64 (x32_1 + 1)), (by first | rfl | (simp; done) | (simp [*]; done)), H', ⟨by have := HK1.out; omega⟩, ⟨by (with_reducible repeat (first | apply rrA | apply rrN | apply rrD)); exact HO_8.out⟩, ⟨by (with_reducible repeat (first | refine kkN ?_ _ | refine kkD ?_ | refine kkA ?_ _)); exact BK120.out⟩, ⟨by repeat (first | (with_reducible first | exact HB.out | apply zzA | apply zzN | apply zzD | refine below_set ?_ GE120.out) | exact HB.out)⟩⟩
            ·
             rw [if_neg c24] at H
             have c24b0 : (t126 == 0) = false := beq_eq_false_iff_ne.mpr c24
             have c24b1 : (t126 != 0) = true := bne_iff_ne.mpr c24
             simp only [Option.some.injEq, Prod.mk.injEq] at H
             obtain ⟨rfl, rfl⟩ := H
             have p124 : 0 ≤ (x32_1 : Int) := of_decide_eq_true (by first | (with_reducible assumption) | assumption)
             have q124 : x32_1 < (l0_1.length : Int) := of_decide_eq_true (by first | (with_reducible assumption) | assumption)
             obtain ⟨ad124, A124_0, c124_0, e124, hx124_0, hl124_0, hi124_0⟩ := at_L1 HR0_1.out x32_1 p124 q124
             cases e124
             replace hx124_0 := (HB.out.cell (World.block_lt_of_cell? w _ hx124_0)).trans hx124_0
             have HR124_0 := Aside0.mk hi124_0
             have HC124_0 := Aside0.mk hl124_0
             clear hi124_0 hl124_0
             replace p124 := eq_true p124
             replace q124 := eq_true q124
             go_wp2_with (first | ((with_reducible refine gate_callee (f := 12) rfl ?_); refine goesL_ (some 43) rfl rfl Try.func12 (by kernel_rfl) rfl #[.slice A124_0 (rd_L1 l0_1 x32_1).length c124_0, .slice A1 l1.length c1, .int .i64 a2] rfl (by (try simp only [List.map_toArray, List.map_cons, List.map_nil]); first | done | rfl | (simp only [List.length_drop, List.length_take]; rfl)) ?_; (with_reducible refine (linear_Tell.calls _ _ (rd_L1 l0_1 x32_1) (fun k_ => k_ < w.heap.size) _ _ l1 a2 t125 t126 _ ?side1 ?side2 ?side3 A21.out).mono ?_); (case side1 => repeat (first | exact (Kd.C_below HR124_0.out HB.out) | (with_reducible refine ccA ?_ _) | (with_reducible refine ccN ?_ _) | (with_reducible refine ccD ?_))); (case side2 => exact HC124_0.out); (case side3 => exact Kd.V_mk HC1.out (Kd.F_below (Kd.C_F (Kd.heap_int .i64) HR1.out) (by repeat (first | (with_reducible first | exact HB.out | apply zzA | apply zzN | apply zzD | refine below_set ?_ GE120.out) | exact HB.out)))); rintro e w28 ⟨rfl, hb⟩; refine ⟨_, rfl, ?_⟩; have n0_ := Aside0.mk (Kd.R_below (by (with_reducible repeat (first | apply rrA | apply rrN | apply rrD)); exact HO_8.out) hb); have n1_ := Aside0.mk (blk_below (g := gb120) (o := .cells #[.slice A0_0 l0_0.length c0_0, .slice (some ad124) l0_1.length c0_1, .int .i64 a0_2] 54 (0, 0)) (by (with_reducible repeat (first | refine kkN ?_ _ | refine kkD ?_ | refine kkA ?_ _)); exact BK120.out) hb); have n2_ := Aside0.mk (zzT (by repeat (first | (with_reducible first | exact HB.out | apply zzA | apply zzN | apply zzD | refine below_set ?_ GE120.out) | exact HB.out)) hb); clear HO_8; clear BK120; clear HB; have HO_8 := n0_; have BK120 := n1_; have HB := n2_; clear n0_ n1_ n2_; (try clear hb); (try clear hb2); (try clear hk); (try clear hi); have p23 : 0 ≤ (x32_1 : Int) := of_decide_eq_true (by first | (with_reducible assumption) | assumption); have q23 : (x32_1 : Int) < ((x8_1.length : Int) : Int) := of_decide_eq_true (by first | (with_reducible assumption) | assumption); obtain ⟨go23, co23, eo23, gb23, gl23, cl23, HG23⟩ := Kd.R_form HO_8.out (by omega); (first | cases eo23 | (injection eo23 with ea_ en_ ec_; (first | subst ea_ | (injection ea_ with ea_; subst ea_)); subst ec_; clear en_)); have GB23 := Aside0.mk gb23; have GG23 := Aside0.mk HG23; clear gb23 gl23 HG23; obtain ⟨hx23_0, hf23_0⟩ := Kd.R_celln 0 HO_8.out (x32_1 : Int) p23 q23; replace p23 := eq_true p23; replace q23 := eq_true q23; obtain ⟨hy29_, hz29_⟩ := Kd.R_celln 0 HO_8.out (x32_1 : Int) (of_decide_eq_true (by first | (with_reducible assumption) | assumption)) (of_decide_eq_true (by first | (with_reducible assumption) | assumption)); have HP29 := Kd.R_putg HO_8.out (x32_1 : Int) t125) | ((with_reducible refine gate_store (t := 2) (p := 46) rfl ?_); refine store_event (t := 2) (p := 46) (v := ?vo_w30) (w1 := (w28.setCell ⟨go23, (x32_1 : Int).toNat, none⟩ (.int .i64 t125))) ?hg ?ho ?hn ?hr ?_; (case ho => rfl); (case hg => rfl); (case hn => rfl); (case hr => first | (go_simp; done) | (go_simp; rfl)); intro w30 hw; have hg : w28.grownBy w30 (some go23) := (by rw [hw]; exact HP29.2); have hp_ : Kd.R (Kd.int .i64) 2 w30 w.heap.size (fun _ => True) (.slice (some ⟨go23, 0, none⟩) x8_1.length co23) y127 := (by rw [hw, Ny127.out]; exact HP29.1); clear HP29; have n0_ := Aside0.mk (hp_); have n1_ := Aside0.mk (blk_grown (g := gb120) (o := .cells #[.slice A0_0 l0_0.length c0_0, .slice (some ad124) l0_1.length c0_1, .int .i64 a0_2] 54 (0, 0)) (by (with_reducible repeat (first | refine kkN ?_ _ | refine kkD ?_ | refine kkA ?_ _)); exact BK120.out) hg (Kd.R_ne HO_8.out BK120.out (by decide))); have n2_ := Aside0.mk ((by rw [hw]; exact below_set (HB.out) GB23.out : Below w.heap.size w w30)); clear HO_8; clear BK120; clear HB; have HO_8 := n0_; have BK120 := n1_; have HB := n2_; clear n0_ n1_ n2_; clear hg hw hp_))
             go_ret2
             exact ⟨_, by first | rfl | (simp [errW_none, errW_some] <;> rfl) | (simp [*, errW_none, errW_some] <;> rfl), by first | exact Kd.R_nil _ _ _ _ _ | exact Kd.N_nil _ _ _ _ _ | exact Kd.V_nil _ _ _ _ _ | exact Kd.Q_nil _ _ _ _ _ | exact Kd.S_nil _ _ _ _ _, by repeat (first | (with_reducible first | exact HB.out | apply zzA | apply zzN | apply zzD | refine below_set ?_ GE120.out) | exact HB.out)⟩
           ·
            rw [if_neg c22] at H
            exact absurd H (by simp)
          ·
           rw [if_neg c20] at H
           exact absurd H (by simp)
         ·
          rw [if_neg c19] at H
          exact absurd H (by simp)
        ·
         rw [if_neg c18] at H
         have c18b0 : decide (x32_1 < (l0_1.length : Int)) = false := decide_eq_false c18
         clear c18
         replace H := Option.bind_eq_some_iff.mp H
         obtain ⟨⟨t128, t129⟩, A310, H⟩ := H
         replace H : (some (t128, t129)) = some (r1, r2) := H
         have A31 := Aside0.mk A310
         clear A310
         simp only [Option.some.injEq, Prod.mk.injEq] at H
         obtain ⟨rfl, rfl⟩ := H
         obtain ⟨Ao32, co32, eo32⟩ := Kd.R_slice HO_8.out
         subst eo32
         go_wp2_with (first | ((with_reducible refine gate_callee (f := 21) rfl ?_); refine goesL_ (some 52) rfl rfl Try.func21 (by kernel_rfl) rfl #[.slice Ao32 x8_1.length co32] rfl (by (try simp only [List.map_toArray, List.map_cons, List.map_nil]); first | done | rfl | (simp only [List.length_drop, List.length_take]; rfl)) ?_; (with_reducible refine (mlp_Bend.calls _ _ x8_1 t128 t129 _ ?side1 ?side2 A31.out).mono ?_); (case side1 => repeat (first | exact (Kd.R_reads' HO_8.out).2.2 | (with_reducible refine ccA ?_ _) | (with_reducible refine ccN ?_ _) | (with_reducible refine ccD ?_))); (case side2 => exact (Kd.R_reads' HO_8.out).2.1); rintro e w33 ⟨v130, rfl, ho0, hb⟩; refine ⟨_, rfl, ?_⟩; have n0_ := Aside0.mk (Kd.R_elder' (by (with_reducible repeat (first | apply rrA | apply rrN | apply rrD)); exact HO_8.out) (Kd.R_base ho0) hb); have n1_ := Aside0.mk (Kd.R_lower (Kd.R_new' ho0 (Kd.R_lt (by (with_reducible repeat (first | apply rrA | apply rrN | apply rrD)); exact HO_8.out))) (zzS (by repeat (first | (with_reducible first | exact HB.out | apply zzA | apply zzN | apply zzD | refine below_set ?_ GE120.out) | exact HB.out)))); have n2_ := Aside0.mk (blk_below (g := gb120) (o := .cells #[.slice A0_0 l0_0.length c0_0, .slice A0_1 l0_1.length c0_1, .int .i64 a0_2] 54 (0, 0)) (by (with_reducible repeat (first | refine kkN ?_ _ | refine kkD ?_ | refine kkA ?_ _)); exact BK120.out) hb); have n3_ := Aside0.mk (zzT (by repeat (first | (with_reducible first | exact HB.out | apply zzA | apply zzN | apply zzD | refine below_set ?_ GE120.out) | exact HB.out)) hb); clear HO_8; clear BK120; clear HB; have HO_8 := n0_; have HO131 := n1_; have BK120 := n2_; have HB := n3_; clear n0_ n1_ n2_ n3_; (try clear hb); (try clear hb2); (try clear hk); (try clear hi); (try clear ho0)))
         go_ret2
         exact ⟨_, by first | rfl | (simp [errW_none, errW_some] <;> rfl) | (simp [*, errW_none, errW_some] <;> rfl), by (with_reducible repeat (first | apply rrA | apply rrN | apply rrD)); exact Kd.R_mono HO131.out (fun _ hk => trivial), by repeat (first | (with_reducible first | exact HB.out | apply zzA | apply zzN | apply zzD | refine below_set ?_ GE120.out) | exact HB.out)⟩
     ·
      rw [if_neg c12] at H
      exact absurd H (by simp)
    ·
     rw [if_neg c11] at H
     exact absurd H (by simp)
 ·
  rw [if_neg c4] at H
  have c4b0 : ((l1.length : Int) == a0_2) = false := beq_eq_false_iff_ne.mpr c4
  have c4b1 : ((l1.length : Int) != a0_2) = true := bne_iff_ne.mpr c4
  simp only [Option.some.injEq, Prod.mk.injEq] at H
  obtain ⟨rfl, rfl⟩ := H
  go_enter Try.func31, Try.ntmps31
  go_wp2_with (first | ((with_reducible refine gate_dst (N := 3) rfl ?_); refine box_event ?hg (N := 3) ?hd (cs := #[.slice A0_0 l0_0.length c0_0, .slice A0_1 l0_1.length c0_1, .int .i64 a0_2]) (t := 54) ?hr ?_; (case hd => rfl); (case hg => rfl); (case hr => first | (go_simp; done) | (go_simp; rfl)); intro gb120 hg w34 hbox hb; have n0_ := Aside0.mk (zzT (by repeat (first | (with_reducible first | exact HB.out | apply zzA | apply zzN | apply zzD) | exact HB.out)) hb); have n1_ := Aside0.mk (hbox); have n2_ := Aside0.mk ((by rw [hg]; exact (zzS (by repeat (first | (with_reducible first | exact HB.out | apply zzA | apply zzN | apply zzD) | exact HB.out))) : w.heap.size ≤ gb120)); have n3_ := Aside0.mk ((by rw [hg]; exact (zzS (by repeat (first | (with_reducible first | exact HB.out | apply zzA | apply zzN | apply zzD) | exact HB.out))) : w.heap.size ≤ gb120)); clear HB; have HB := n0_; have BK120 := n1_; have GW120 := n2_; have GE120 := n3_; clear n0_ n1_ n2_ n3_; clear hb hbox hg; have hcz35_0 : w34.cell? ⟨gb120, 0, none⟩ = some (.slice A0_0 l0_0.length c0_0) := (blk_cell BK120.out 0).trans rfl; have hcz35_1 : w34.cell? ⟨gb120, 1, none⟩ = some (.slice A0_1 l0_1.length c0_1) := (blk_cell BK120.out 1).trans rfl; have hcz35_2 : w34.cell? ⟨gb120, 2, none⟩ = some (.int .i64 a0_2) := (blk_cell BK120.out 2).trans rfl; have hfz35_0 := blk_frozen BK120.out 0; have hfz35_1 := blk_frozen BK120.out 1; have hfz35_2 := blk_frozen BK120.out 2))
  go_ret2
  exact ⟨_, by first | rfl | (simp [errW_none, errW_some] <;> rfl) | (simp [*, errW_none, errW_some] <;> rfl), by first | exact Kd.R_nil _ _ _ _ _ | exact Kd.N_nil _ _ _ _ _ | exact Kd.V_nil _ _ _ _ _ | exact Kd.Q_nil _ _ _ _ _ | exact Kd.S_nil _ _ _ _ _, by repeat (first | (with_reducible first | exact HB.out | apply zzA | apply zzN | apply zzD | refine below_set ?_ GE120.out) | exact HB.out)⟩

def mlp_net_hidden.f (l0_0 : List Int) (l0_1 : List (List Int)) (a0_2 : Int) (l1 : List Int) (a2 : Int) : Option (List Int × Int) := if V64 l1 ∧ (∀ r ∈ l0_1, V64 r) ∧ l0_1.length ≤ 4096 then some (hiddenM l0_1 a0_2 l1 a2) else none
theorem mlp_net_hidden.of (l0_0 : List Int) (l0_1 : List (List Int)) (a0_2 : Int) (l1 : List Int) (a2 : Int) (h : V64 l1 ∧ (∀ r ∈ l0_1, V64 r) ∧ l0_1.length ≤ 4096) : mlp_net_hidden.f l0_0 l0_1 a0_2 l1 a2 = some (hiddenM l0_1 a0_2 l1 a2) := if_pos h
theorem mlp_net_hiddenP.loop (x : List Int) (f : Int) (rows : List (List Int)) (hx : V64 x) (hrv : ∀ r ∈ rows, V64 r) (hb : rows.length ≤ 4096) : ∀ (d i : Nat) (acc : List Int), d + i = rows.length → acc.length = i →
    mlp_net_hiddenP.l0 (d + 1) x f (acc ++ List.replicate d 0) rows (rows.length : Int) (i : Int) = some (if (seqV ((rows.drop i).map fun row => tellL row x f)).2 = 0 then bendM (acc ++ (seqV ((rows.drop i).map fun row => tellL row x f)).1) else ([], (seqV ((rows.drop i).map fun row => tellL row x f)).2)) := by
  intro d
  induction d with
  | zero =>
    intro i acc hd ha
    rw [mlp_net_hiddenP.l0, if_neg (by omega), List.drop_eq_nil_of_le (by omega)]
    simp only [List.map_nil, seqV, if_true, List.append_nil, List.replicate_zero, mlp_Bend.f, Option.bind_some]
  | succ d ih =>
    intro i acc hd ha
    have hi : i < rows.length := by omega
    have hrd : rd_L1 rows (i : Int) = rows[i] := by unfold rd_L1; rw [Int.toNat_natCast, List.getD_eq_getElem?_getD, List.getElem?_eq_getElem hi, Option.getD_some]
    have hlen : ((acc ++ List.replicate (d + 1) (0 : Int)).length : Int) = rows.length := by rw [List.length_append, List.length_replicate]; omega
    rw [mlp_net_hiddenP.l0, if_pos (by omega), if_pos (by omega), if_pos (by omega), hrd, linear_Tell.of _ _ _ ⟨hrv _ (List.getElem_mem hi), hx⟩, Option.bind_some, if_pos (by omega), List.drop_eq_getElem_cons hi, List.map_cons]
    obtain ⟨⟨t, e⟩, hp⟩ : ∃ p, tellL rows[i] x f = p := ⟨_, rfl⟩
    rw [hp]
    simp only [seqV]
    by_cases c : e = 0
    · have hset : (acc ++ List.replicate (d + 1) (0 : Int)).set i t = (acc ++ [t]) ++ List.replicate d 0 := by
        rw [List.set_append_right _ _ (by omega), ha, Nat.sub_self, List.replicate_succ, List.set_cons_zero]
        simp
      rw [if_pos c, if_pos c, Int.toNat_natCast, hset, wrap64_of (by unfold I64; omega), show (i : Int) + 1 = ((i + 1 : Nat) : Int) by omega, ih (i + 1) _ (by omega) (by rw [List.length_append, List.length_singleton]; omega)]
      obtain ⟨⟨ys, e2⟩, hq⟩ : ∃ p, seqV ((rows.drop (i + 1)).map fun row => tellL row x f) = p := ⟨_, rfl⟩
      rw [hq]
      simp only []
      by_cases c2 : e2 = 0
      · rw [if_pos c2, if_pos c2, if_pos rfl, List.append_assoc]; rfl
      · rw [if_neg c2, if_neg c2, if_neg c2]
    · rw [if_neg c, if_neg c, if_neg c]
theorem mlp_net_hiddenP.is (l0_0 : List Int) (rows : List (List Int)) (inn : Int) (x : List Int) (f : Int) (hx : V64 x) (hrv : ∀ r ∈ rows, V64 r) (hb : rows.length ≤ 4096) : mlp_net_hiddenP.f (rows.length + 1) l0_0 rows inn x f = some (hiddenM rows inn x f) := by
  unfold mlp_net_hiddenP.f hiddenM
  by_cases c : (x.length : Int) = inn
  · rw [if_pos c, if_neg (not_not_intro c)]
    by_cases c1 : f < 0
    · rw [if_pos c1, if_pos (.inl c1)]
    · rw [if_neg c1]
      by_cases c2 : f > 30
      · rw [if_pos c2, if_pos (.inr c2)]
      · have h := mlp_net_hiddenP.loop x f rows hx hrv hb rows.length 0 [] (by omega) rfl
        rw [List.nil_append, List.drop_zero] at h
        simp only [List.nil_append] at h
        rw [if_neg c2, if_pos (show (0 : Int) ≤ (rows.length : Int) by omega), if_pos (show ((rows.length : Int)).toNat ≤ 35184372088832 by omega), Int.toNat_natCast, if_neg (show ¬ (f < 0 ∨ f > 30) by omega)]
        exact h
  · rw [if_neg c, if_pos c]
theorem mlp_net_hidden.calls (A0_0 : Option Addr) (c0_0 : Nat) (l0_0 : List Int) (A0_1 : Option Addr) (c0_1 : Nat) (l0_1 : List (List Int)) (a0_2 : Int) (A1 : Option Addr) (c1 : Nat) (l1 : List Int) (a2 : Int) (r1 : List Int) (r2 : Int) (w : World) (hr0_0 : Kd.C (Kd.int .i64) w A0_0 l0_0.length l0_0) (hc0_0 : l0_0.length ≤ c0_0) (hr0_1 : Kd.C (Kd.slice 2 (Kd.int .i64)) w A0_1 l0_1.length l0_1) (hc0_1 : l0_1.length ≤ c0_1) (hr1 : Kd.C (Kd.int .i64) w A1 l1.length l1) (hc1 : l1.length ≤ c1) (h : mlp_net_hidden.f l0_0 l0_1 a0_2 l1 a2 = some (r1, r2)) :
    Calls Try.prog 31 #[.agg #[.slice A0_0 l0_0.length c0_0, .slice A0_1 l0_1.length c0_1, .int .i64 a0_2], .slice A1 l1.length c1, .int .i64 a2] w fun e w' => ∃ v0_ : Value, e = .returned (.tuple #[v0_, .int .i64 r2]) ∧ Kd.R (Kd.int .i64) 2 w' w.heap.size (fun _ => True) v0_ r1 ∧ Below w.heap.size w w' := by
  unfold mlp_net_hidden.f at h
  split at h
  case isFalse => cases h
  rename_i hv
  exact mlp_net_hiddenP.calls (l0_1.length + 1) A0_0 c0_0 l0_0 A0_1 c0_1 l0_1 a0_2 A1 c1 l1 a2 r1 r2 w hr0_0 hc0_0 hr0_1 hc0_1 hr1 hc1 ((mlp_net_hiddenP.is l0_0 l0_1 a0_2 l1 a2 hv.1 hv.2.1 hv.2.2).trans h)


/-! ### mlp_net_tellP: function 36 -/
def mlp_net_tellP.f (l0_0 : List Int) (l0_1 : List (List Int)) (a0_2 : Int) (l1 : List Int) (a2 : Int) : Option (List Int × Int × Int) := (mlp_net_hidden.f l0_0 l0_1 a0_2 l1 a2).bind fun bt133 => (if bt133.2 = 0 then ((linear_Tell.f l0_0 bt133.1 a2).bind fun bt137 => (some (bt133.1, bt137.1, bt137.2))) else (some (([] : List Int), 0, bt133.2)))
set_option maxHeartbeats 8000000 in
set_option maxRecDepth 100000 in
theorem mlp_net_tellP.calls (A0_0 : Option Addr) (c0_0 : Nat) (l0_0 : List Int) (A0_1 : Option Addr) (c0_1 : Nat) (l0_1 : List (List Int)) (a0_2 : Int) (A1 : Option Addr) (c1 : Nat) (l1 : List Int) (a2 : Int) (r1 : List Int) (r2 : Int) (r3 : Int) (w : World) (hr0_0 : Kd.C (Kd.int .i64) w A0_0 l0_0.length l0_0) (hc0_0 : l0_0.length ≤ c0_0) (hr0_1 : Kd.C (Kd.slice 2 (Kd.int .i64)) w A0_1 l0_1.length l0_1) (hc0_1 : l0_1.length ≤ c0_1) (hr1 : Kd.C (Kd.int .i64) w A1 l1.length l1) (hc1 : l1.length ≤ c1) (h : mlp_net_tellP.f l0_0 l0_1 a0_2 l1 a2 = some (r1, r2, r3)) :
  Calls Try.prog 36 #[.agg #[.slice A0_0 l0_0.length c0_0, .slice A0_1 l0_1.length c0_1, .int .i64 a0_2], .slice A1 l1.length c1, .int .i64 a2] w fun e w' => ∃ v0_ : Value, e = .returned (.tuple #[v0_, .int .i64 r2, .int .i64 r3]) ∧ Kd.R (Kd.int .i64) 2 w' w.heap.size (fun _ => True) v0_ r1 ∧ Below w.heap.size w w' := by
 have hu54 := Try.underlying54
 have HR0_0 := Aside0.mk hr0_0
 have HC0_0 := Aside0.mk hc0_0
 clear hr0_0 hc0_0
 have HR0_1 := Aside0.mk hr0_1
 have HC0_1 := Aside0.mk hc0_1
 clear hr0_1 hc0_1
 have HR1 := Aside0.mk hr1
 have HC1 := Aside0.mk hc1
 clear hr1 hc1
 have HB := Aside0.mk (Below.refl w.heap.size w)
 have H : ((mlp_net_hidden.f l0_0 l0_1 a0_2 l1 a2).bind fun bt133 => (if bt133.2 = 0 then ((linear_Tell.f l0_0 bt133.1 a2).bind fun bt137 => (some (bt133.1, bt137.1, bt137.2))) else (some (([] : List Int), 0, bt133.2)))) = some (r1, r2, r3) := h
 clear h
 replace H := Option.bind_eq_some_iff.mp H
 obtain ⟨⟨t133, t136⟩, A40, H⟩ := H
 replace H : (if t136 = 0 then ((linear_Tell.f l0_0 t133 a2).bind fun bt137 => (some (t133, bt137.1, bt137.2))) else (some (([] : List Int), 0, t136))) = some (r1, r2, r3) := H
 have A4 := Aside0.mk A40
 clear A40
 by_cases c5 : t136 = 0
 ·
  rw [if_pos c5] at H
  have c5b0 : (t136 == 0) = true := beq_iff_eq.mpr c5
  have c5b1 : (t136 != 0) = false := bne_eq_false_iff_eq.mpr c5
  clear c5
  replace H := Option.bind_eq_some_iff.mp H
  obtain ⟨⟨t137, t138⟩, A60, H⟩ := H
  replace H : (some (t133, t137, t138)) = some (r1, r2, r3) := H
  have A6 := Aside0.mk A60
  clear A60
  simp only [Option.some.injEq, Prod.mk.injEq] at H
  obtain ⟨rfl, rfl, rfl⟩ := H
  go_enter Try.func36, Try.ntmps36
  go_wp2_with (first | ((with_reducible refine gate_dst (N := 3) rfl ?_); refine box_event ?hg (N := 3) ?hd (cs := #[.slice A0_0 l0_0.length c0_0, .slice A0_1 l0_1.length c0_1, .int .i64 a0_2]) (t := 54) ?hr ?_; (case hd => rfl); (case hg => rfl); (case hr => first | (go_simp; done) | (go_simp; rfl)); intro gb132 hg w7 hbox hb; have n0_ := Aside0.mk (zzT (by repeat (first | (with_reducible first | exact HB.out | apply zzA | apply zzN | apply zzD) | exact HB.out)) hb); have n1_ := Aside0.mk (hbox); have n2_ := Aside0.mk ((by rw [hg]; exact (zzS (by repeat (first | (with_reducible first | exact HB.out | apply zzA | apply zzN | apply zzD) | exact HB.out))) : w.heap.size ≤ gb132)); have n3_ := Aside0.mk ((by rw [hg]; exact (zzS (by repeat (first | (with_reducible first | exact HB.out | apply zzA | apply zzN | apply zzD) | exact HB.out))) : w.heap.size ≤ gb132)); clear HB; have HB := n0_; have BK132 := n1_; have GW132 := n2_; have GE132 := n3_; clear n0_ n1_ n2_ n3_; clear hb hbox hg; have hcz8_0 : w7.cell? ⟨gb132, 0, none⟩ = some (.slice A0_0 l0_0.length c0_0) := (blk_cell BK132.out 0).trans rfl; have hcz8_1 : w7.cell? ⟨gb132, 1, none⟩ = some (.slice A0_1 l0_1.length c0_1) := (blk_cell BK132.out 1).trans rfl; have hcz8_2 : w7.cell? ⟨gb132, 2, none⟩ = some (.int .i64 a0_2) := (blk_cell BK132.out 2).trans rfl; have hfz8_0 := blk_frozen BK132.out 0; have hfz8_1 := blk_frozen BK132.out 1; have hfz8_2 := blk_frozen BK132.out 2) | ((with_reducible refine gate_callee (f := 31) rfl ?_); refine goesL_ (some 16) rfl rfl Try.func31 (by kernel_rfl) rfl #[.agg #[.slice A0_0 l0_0.length c0_0, .slice A0_1 l0_1.length c0_1, .int .i64 a0_2], .slice A1 l1.length c1, .int .i64 a2] rfl (by (try simp only [List.map_toArray, List.map_cons, List.map_nil]); first | done | rfl | (simp only [List.length_drop, List.length_take]; rfl)) ?_; (with_reducible refine (mlp_net_hidden.calls _ _ l0_0 _ _ l0_1 a0_2 _ _ l1 a2 t133 t136 _ ?side1 ?side2 ?side3 ?side4 ?side5 ?side6 A4.out).mono ?_); (case side1 => repeat (first | exact (Kd.C_below HR0_0.out HB.out) | (with_reducible refine ccA ?_ _) | (with_reducible refine ccN ?_ _) | (with_reducible refine ccD ?_))); (case side2 => exact HC0_0.out); (case side3 => repeat (first | exact (Kd.C_below HR0_1.out HB.out) | (with_reducible refine ccA ?_ _) | (with_reducible refine ccN ?_ _) | (with_reducible refine ccD ?_))); (case side4 => exact HC0_1.out); (case side5 => repeat (first | exact (Kd.C_below HR1.out HB.out) | (with_reducible refine ccA ?_ _) | (with_reducible refine ccN ?_ _) | (with_reducible refine ccD ?_))); (case side6 => exact HC1.out); rintro e w9 ⟨v134, rfl, ho0, hb⟩; refine ⟨_, rfl, ?_⟩; have n0_ := Aside0.mk (Kd.R_lower ho0 (zzS (by repeat (first | (with_reducible first | exact HB.out | apply zzA | apply zzN | apply zzD | refine below_set ?_ GE132.out) | exact HB.out)))); have n1_ := Aside0.mk (blk_below (g := gb132) (o := .cells #[.slice A0_0 l0_0.length c0_0, .slice A0_1 l0_1.length c0_1, .int .i64 a0_2] 54 (0, 0)) (by (with_reducible repeat (first | refine kkN ?_ _ | refine kkD ?_ | refine kkA ?_ _)); exact BK132.out) hb); have n2_ := Aside0.mk (zzT (by repeat (first | (with_reducible first | exact HB.out | apply zzA | apply zzN | apply zzD | refine below_set ?_ GE132.out) | exact HB.out)) hb); clear BK132; clear HB; have HO135 := n0_; have BK132 := n1_; have HB := n2_; clear n0_ n1_ n2_; (try clear hb); (try clear hb2); (try clear hk); (try clear hi); (try clear ho0); have hcz10_0 : w9.cell? ⟨gb132, 0, none⟩ = some (.slice A0_0 l0_0.length c0_0) := (blk_cell BK132.out 0).trans rfl; have hcz10_1 : w9.cell? ⟨gb132, 1, none⟩ = some (.slice A0_1 l0_1.length c0_1) := (blk_cell BK132.out 1).trans rfl; have hcz10_2 : w9.cell? ⟨gb132, 2, none⟩ = some (.int .i64 a0_2) := (blk_cell BK132.out 2).trans rfl; have hfz10_0 := blk_frozen BK132.out 0; have hfz10_1 := blk_frozen BK132.out 1; have hfz10_2 := blk_frozen BK132.out 2; obtain ⟨Ao11, co11, eo11⟩ := Kd.R_slice HO135.out; subst eo11) | ((with_reducible refine gate_callee (f := 12) rfl ?_); refine goesL_ (some 28) rfl rfl Try.func12 (by kernel_rfl) rfl #[.slice A0_0 l0_0.length c0_0, .slice Ao11 t133.length co11, .int .i64 a2] rfl (by (try simp only [List.map_toArray, List.map_cons, List.map_nil]); first | done | rfl | (simp only [List.length_drop, List.length_take]; rfl)) ?_; (with_reducible refine (linear_Tell.calls _ _ l0_0 (fun k_ => some k_ = (.slice Ao11 t133.length co11 : Value).ownBlock) _ _ t133 a2 t137 t138 _ ?side1 ?side2 ?side3 A6.out).mono ?_); (case side1 => repeat (first | exact (Kd.C_below HR0_0.out HB.out) | (with_reducible refine ccA ?_ _) | (with_reducible refine ccN ?_ _) | (with_reducible refine ccD ?_))); (case side2 => exact HC0_0.out); (case side3 => exact Kd.R_V (Kd.R_tight rfl (Kd.R_types (HO135.out) BK132.out (by decide)))); rintro e w12 ⟨rfl, hb⟩; refine ⟨_, rfl, ?_⟩; have n0_ := Aside0.mk (Kd.R_below (by (with_reducible repeat (first | apply rrA | apply rrN | apply rrD)); exact HO135.out) hb); have n1_ := Aside0.mk (blk_below (g := gb132) (o := .cells #[.slice A0_0 l0_0.length c0_0, .slice A0_1 l0_1.length c0_1, .int .i64 a0_2] 54 (0, 0)) (by (with_reducible repeat (first | refine kkN ?_ _ | refine kkD ?_ | refine kkA ?_ _)); exact BK132.out) hb); have n2_ := Aside0.mk (zzT (by repeat (first | (with_reducible first | exact HB.out | apply zzA | apply zzN | apply zzD | refine below_set ?_ GE132.out) | exact HB.out)) hb); clear HO135; clear BK132; clear HB; have HO135 := n0_; have BK132 := n1_; have HB := n2_; clear n0_ n1_ n2_; (try clear hb); (try clear hb2); (try clear hk); (try clear hi)))
  go_ret3
  exact ⟨_, by first | rfl | (simp [errW_none, errW_some] <;> rfl) | (simp [*, errW_none, errW_some] <;> rfl), by (with_reducible repeat (first | apply rrA | apply rrN | apply rrD)); exact HO135.out, by repeat (first | (with_reducible first | exact HB.out | apply zzA | apply zzN | apply zzD | refine below_set ?_ GE132.out) | exact HB.out)⟩
 ·
  rw [if_neg c5] at H
  have c5b0 : (t136 == 0) = false := beq_eq_false_iff_ne.mpr c5
  have c5b1 : (t136 != 0) = true := bne_iff_ne.mpr c5
  simp only [Option.some.injEq, Prod.mk.injEq] at H
  obtain ⟨rfl, rfl, rfl⟩ := H
  go_enter Try.func36, Try.ntmps36
  go_wp2_with (first | ((with_reducible refine gate_dst (N := 3) rfl ?_); refine box_event ?hg (N := 3) ?hd (cs := #[.slice A0_0 l0_0.length c0_0, .slice A0_1 l0_1.length c0_1, .int .i64 a0_2]) (t := 54) ?hr ?_; (case hd => rfl); (case hg => rfl); (case hr => first | (go_simp; done) | (go_simp; rfl)); intro gb132 hg w13 hbox hb; have n0_ := Aside0.mk (zzT (by repeat (first | (with_reducible first | exact HB.out | apply zzA | apply zzN | apply zzD) | exact HB.out)) hb); have n1_ := Aside0.mk (hbox); have n2_ := Aside0.mk ((by rw [hg]; exact (zzS (by repeat (first | (with_reducible first | exact HB.out | apply zzA | apply zzN | apply zzD) | exact HB.out))) : w.heap.size ≤ gb132)); have n3_ := Aside0.mk ((by rw [hg]; exact (zzS (by repeat (first | (with_reducible first | exact HB.out | apply zzA | apply zzN | apply zzD) | exact HB.out))) : w.heap.size ≤ gb132)); clear HB; have HB := n0_; have BK132 := n1_; have GW132 := n2_; have GE132 := n3_; clear n0_ n1_ n2_ n3_; clear hb hbox hg; have hcz14_0 : w13.cell? ⟨gb132, 0, none⟩ = some (.slice A0_0 l0_0.length c0_0) := (blk_cell BK132.out 0).trans rfl; have hcz14_1 : w13.cell? ⟨gb132, 1, none⟩ = some (.slice A0_1 l0_1.length c0_1) := (blk_cell BK132.out 1).trans rfl; have hcz14_2 : w13.cell? ⟨gb132, 2, none⟩ = some (.int .i64 a0_2) := (blk_cell BK132.out 2).trans rfl; have hfz14_0 := blk_frozen BK132.out 0; have hfz14_1 := blk_frozen BK132.out 1; have hfz14_2 := blk_frozen BK132.out 2) | ((with_reducible refine gate_callee (f := 31) rfl ?_); refine goesL_ (some 16) rfl rfl Try.func31 (by kernel_rfl) rfl #[.agg #[.slice A0_0 l0_0.length c0_0, .slice A0_1 l0_1.length c0_1, .int .i64 a0_2], .slice A1 l1.length c1, .int .i64 a2] rfl (by (try simp only [List.map_toArray, List.map_cons, List.map_nil]); first | done | rfl | (simp only [List.length_drop, List.length_take]; rfl)) ?_; (with_reducible refine (mlp_net_hidden.calls _ _ l0_0 _ _ l0_1 a0_2 _ _ l1 a2 t133 t136 _ ?side1 ?side2 ?side3 ?side4 ?side5 ?side6 A4.out).mono ?_); (case side1 => repeat (first | exact (Kd.C_below HR0_0.out HB.out) | (with_reducible refine ccA ?_ _) | (with_reducible refine ccN ?_ _) | (with_reducible refine ccD ?_))); (case side2 => exact HC0_0.out); (case side3 => repeat (first | exact (Kd.C_below HR0_1.out HB.out) | (with_reducible refine ccA ?_ _) | (with_reducible refine ccN ?_ _) | (with_reducible refine ccD ?_))); (case side4 => exact HC0_1.out); (case side5 => repeat (first | exact (Kd.C_below HR1.out HB.out) | (with_reducible refine ccA ?_ _) | (with_reducible refine ccN ?_ _) | (with_reducible refine ccD ?_))); (case side6 => exact HC1.out); rintro e w15 ⟨v134, rfl, ho0, hb⟩; refine ⟨_, rfl, ?_⟩; have n0_ := Aside0.mk (Kd.R_lower ho0 (zzS (by repeat (first | (with_reducible first | exact HB.out | apply zzA | apply zzN | apply zzD | refine below_set ?_ GE132.out) | exact HB.out)))); have n1_ := Aside0.mk (blk_below (g := gb132) (o := .cells #[.slice A0_0 l0_0.length c0_0, .slice A0_1 l0_1.length c0_1, .int .i64 a0_2] 54 (0, 0)) (by (with_reducible repeat (first | refine kkN ?_ _ | refine kkD ?_ | refine kkA ?_ _)); exact BK132.out) hb); have n2_ := Aside0.mk (zzT (by repeat (first | (with_reducible first | exact HB.out | apply zzA | apply zzN | apply zzD | refine below_set ?_ GE132.out) | exact HB.out)) hb); clear BK132; clear HB; have HO135 := n0_; have BK132 := n1_; have HB := n2_; clear n0_ n1_ n2_; (try clear hb); (try clear hb2); (try clear hk); (try clear hi); (try clear ho0)))
  go_ret3
  exact ⟨_, by first | rfl | (simp [errW_none, errW_some] <;> rfl) | (simp [*, errW_none, errW_some] <;> rfl), by first | exact Kd.R_nil _ _ _ _ _ | exact Kd.N_nil _ _ _ _ _ | exact Kd.V_nil _ _ _ _ _ | exact Kd.Q_nil _ _ _ _ _ | exact Kd.S_nil _ _ _ _ _, by repeat (first | (with_reducible first | exact HB.out | apply zzA | apply zzN | apply zzD | refine below_set ?_ GE132.out) | exact HB.out)⟩

def mlp_net_tell.f (l0_0 : List Int) (l0_1 : List (List Int)) (a0_2 : Int) (l1 : List Int) (a2 : Int) : Option (List Int × Int × Int) := if V64 l0_0 ∧ V64 l1 ∧ (∀ r ∈ l0_1, V64 r) ∧ l0_1.length ≤ 4096 then some (ptellM l0_1 l0_0 a0_2 l1 a2) else none
theorem mlp_net_tell.of (l0_0 : List Int) (l0_1 : List (List Int)) (a0_2 : Int) (l1 : List Int) (a2 : Int) (h : V64 l0_0 ∧ V64 l1 ∧ (∀ r ∈ l0_1, V64 r) ∧ l0_1.length ≤ 4096) : mlp_net_tell.f l0_0 l0_1 a0_2 l1 a2 = some (ptellM l0_1 l0_0 a0_2 l1 a2) := if_pos h
theorem mlp_net_tellP.is (last : List Int) (rows : List (List Int)) (inn : Int) (x : List Int) (f : Int) (hl : V64 last) (hx : V64 x) (hrv : ∀ r ∈ rows, V64 r) (hb : rows.length ≤ 4096) : mlp_net_tellP.f last rows inn x f = some (ptellM rows last inn x f) := by
  unfold mlp_net_tellP.f ptellM
  rw [mlp_net_hidden.of _ _ _ _ _ ⟨hx, hrv, hb⟩, Option.bind_some]
  by_cases c : (hiddenM rows inn x f).2 = 0
  · rw [if_pos c, if_pos c, linear_Tell.of _ _ _ ⟨hl, hiddenM_v64 _ _ _ _⟩, Option.bind_some]
  · rw [if_neg c, if_neg c]
theorem mlp_net_tell.calls (A0_0 : Option Addr) (c0_0 : Nat) (l0_0 : List Int) (A0_1 : Option Addr) (c0_1 : Nat) (l0_1 : List (List Int)) (a0_2 : Int) (A1 : Option Addr) (c1 : Nat) (l1 : List Int) (a2 : Int) (r1 : List Int) (r2 : Int) (r3 : Int) (w : World) (hr0_0 : Kd.C (Kd.int .i64) w A0_0 l0_0.length l0_0) (hc0_0 : l0_0.length ≤ c0_0) (hr0_1 : Kd.C (Kd.slice 2 (Kd.int .i64)) w A0_1 l0_1.length l0_1) (hc0_1 : l0_1.length ≤ c0_1) (hr1 : Kd.C (Kd.int .i64) w A1 l1.length l1) (hc1 : l1.length ≤ c1) (h : mlp_net_tell.f l0_0 l0_1 a0_2 l1 a2 = some (r1, r2, r3)) :
    Calls Try.prog 36 #[.agg #[.slice A0_0 l0_0.length c0_0, .slice A0_1 l0_1.length c0_1, .int .i64 a0_2], .slice A1 l1.length c1, .int .i64 a2] w fun e w' => ∃ v0_ : Value, e = .returned (.tuple #[v0_, .int .i64 r2, .int .i64 r3]) ∧ Kd.R (Kd.int .i64) 2 w' w.heap.size (fun _ => True) v0_ r1 ∧ Below w.heap.size w w' := by
  unfold mlp_net_tell.f at h
  split at h
  case isFalse => cases h
  rename_i hv
  exact mlp_net_tellP.calls A0_0 c0_0 l0_0 A0_1 c0_1 l0_1 a0_2 A1 c1 l1 a2 r1 r2 r3 w hr0_0 hc0_0 hr0_1 hc0_1 hr1 hc1 ((mlp_net_tellP.is l0_0 l0_1 a0_2 l1 a2 hv.1 hv.2.1 hv.2.2.1 hv.2.2.2).trans h)


/-! ### mlp_Tell: function 13 -/
def mlp_Tell.f (a0 : Int) (l1 l2 : List Int) (a3 : Int) : Option (Int × Int) := if V64 l1 ∧ V64 l2 then some (tellM a0 l1 l2 a3) else none
theorem mlp_Tell.of (a0 : Int) (l1 l2 : List Int) (a3 : Int)  (h_ : V64 l1 ∧ V64 l2) : mlp_Tell.f a0 l1 l2 a3 = some (tellM a0 l1 l2 a3) := if_pos h_
set_option maxHeartbeats 4000000 in
set_option maxRecDepth 100000 in
theorem mlp_Tell.calls (a0 : Int) (A1 : Option Addr) (c1 : Nat) (l1 : List Int) (A2 : Option Addr) (c2 : Nat) (l2 : List Int) (a3 : Int) (r1 : Int) (r2 : Int) (w : World) (hr1 : Kd.C (Kd.int .i64) w A1 l1.length l1) (hc1 : l1.length ≤ c1) (hr2 : Kd.C (Kd.int .i64) w A2 l2.length l2) (hc2 : l2.length ≤ c2) (h : mlp_Tell.f a0 l1 l2 a3 = some (r1, r2)) :
    Calls Try.prog 13 #[.int .i64 a0, .slice A1 l1.length c1, .slice A2 l2.length c2, .int .i64 a3] w fun e w' => e = .returned (.tuple #[.int .i64 r1, .int .i64 r2]) ∧ Below w.heap.size w w' := by
  unfold mlp_Tell.f at h
  split at h
  case isFalse => cases h
  rename_i hv
  have h := Option.some.inj h
  have hu54 := Try.underlying54
  have hu52 := Try.underlying52
  unfold tellM at h
  have HR2 := Aside0.mk hr2
  have HC2 := Aside0.mk hc2
  by_cases c : (splitM a0 l1).2.2 = 0
  · rw [if_pos c] at h
    obtain ⟨k, m, rfl, hk1, hk8, hm2, hm17, hkm, hlm, hs⟩ := splitM_good c
    obtain ⟨ad, rfl, _⟩ := hr1.2.2 (by omega)
    rw [hlm, hs] at h
    obtain ⟨h0, hh0⟩ : ∃ h0, ptellM (rowsM k m l1) (l1.drop (k * m)) ((m : Int) - 1) l2 a3 = (h0, r1, r2) := ⟨_, Prod.ext rfl h⟩
    have AH : mlp_net_tell.f (l1.drop (k * m)) (rowsM k m l1) ((m : Int) - 1) l2 a3 = some (h0, r1, r2) := (mlp_net_tell.of _ _ _ _ _ ⟨v64_drop hv.1 _, hv.2, rowsM_v64 hv.1, by rw [rowsM_len]; omega⟩).trans (congrArg some hh0)
    have HSP := Aside0.mk (mlp_split.good k m ad c1 l1 w hk1 hk8 hm2 hm17 hkm hr1 hc1)
    have HCD := Aside0.mk (drop_C (p := k * m) (by omega) hc1 hr1)
    have HCU := Aside0.mk (fun (W : World) (v : Value) (base : Nat) (hS : W.ownsRow base 22 1 v k (cutsM ad m k)) (hb : Below w.heap.size w W) => cuts_C (l := l1) (c := c1) (W := W) (v := v) (base := base) hS (by omega) (by omega) hc1 (Kd.C_below hr1 hb))
    have hld : (l1.drop (k * m)).length = k + 1 := by rw [List.length_drop]; omega
    have HH := Aside0.mk (fun (Ar : Option Addr) (cr : Nat) (W : World) h1 h3 h4 h5 => mlp_net_tell.calls (some (ad.add (k * m))) (c1 - k * m) (l1.drop (k * m)) Ar cr (rowsM k m l1) ((m : Int) - 1) A2 c2 l2 a3 h0 r1 r2 W h1 (by rw [hld]; omega) h3 h4 h5 hc2 AH)
    have hrl : ((List.range k).map (Go.Proofs.Ytalamamjodihaaa.Sp.rowAt m l1)).length = k := by simp
    have hrm : rowsM k m l1 = (List.range k).map (Go.Proofs.Ytalamamjodihaaa.Sp.rowAt m l1) := rfl
    rw [hrm] at HH
    rw [hld, hrl] at HH
    rw [hld] at HCD
    simp only [hrl] at HCU
    generalize (List.range k).map (Go.Proofs.Ytalamamjodihaaa.Sp.rowAt m l1) = R0 at HH HCU
    generalize l1.drop (k * m) = L0 at HH HCD
    generalize hp : k * m = p at HH HCD HSP
    clear AH h hh0 hs hlm hld hrl hrm hkm hr1 hc1 hr2 hc2 c hv
    go_enter Try.func13, Try.ntmps13
    go_wp2_with (first | (go_at_call 30; (with_reducible refine HSP.out.mono ?_); rintro e w1 ⟨v0, rfl, hS, hb⟩; have hcu := HCU.out w1 v0 w.heap.size hS hb; obtain ⟨Ar, cr, rfl, hcr, hCr⟩ := hcu; have HCR := Aside0.mk hCr; have HKR := Aside0.mk hcr; have HB := Aside0.mk hb; clear hS hb hCr hcr) | (go_at_call 36; (with_reducible refine (HH.out _ _ _ (ccA (Kd.C_below HCD.out HB.out) _) (ccA HCR.out _) HKR.out (ccA (Kd.C_below HR2.out HB.out) _)).mono ?_); rintro e w2 ⟨v0_, rfl, hR, hb2⟩; have HO := Aside0.mk hR; have HB2 := Aside0.mk (below_then (zzA HB.out _) (Nat.le_trans HB.out.size (by simp)) hb2); clear hR hb2; obtain ⟨Ao, co, eo⟩ := Kd.R_slice HO.out; subst eo))
    go_ret2
    exact ⟨rfl, HB2.out⟩
  · rw [if_neg c] at h
    have HSP := Aside0.mk (mlp_split.bad a0 A1 c1 l1 w hr1 hc1 c)
    obtain ⟨h1, h2⟩ : 0 = r1 ∧ (splitM a0 l1).2.2 = r2 := by cases h; exact ⟨rfl, rfl⟩
    subst h1
    subst h2
    generalize (splitM a0 l1).2.2 = e at HSP c ⊢
    have he0 : (e == 0) = false := beq_eq_false_iff_ne.2 c
    have he1 : (e != 0) = true := bne_iff_ne.2 c
    clear h hr1 hc1 hr2 hc2 c hv
    go_enter Try.func13, Try.ntmps13
    go_wp2_with (go_at_call 30; (with_reducible refine HSP.out.mono ?_); rintro e w1 ⟨rfl, hb⟩; have HB := Aside0.mk hb; clear hb)
    go_ret2
    exact ⟨rfl, zzA HB.out _⟩


/-! ### thrumlaw16_liveP: function 8 -/
def thrumlaw16_liveP.f  : Option (Bool) := (mlp_Tell.f 1 (([2, (-5), 10, 1] : List Int)) (([3] : List Int)) 0).bind fun bt145 => ((mlp_Tell.f 1 (([2, (-5), 10, 1] : List Int)) (([2] : List Int)) 0).bind fun bt153 => (if bt145.1 = 11 then (if bt145.2 = 0 then (if bt153.1 = 1 then (some (bt153.2 == 0)) else (some false)) else (some false)) else (some false)))
set_option maxHeartbeats 80000000 in
set_option maxRecDepth 100000 in
theorem thrumlaw16_liveP.calls  (r : Bool) (w : World) (h : thrumlaw16_liveP.f  = some r) (hr_ : r = true) :
  Calls Try.prog 8 #[] w fun e w' => e = .returned (.bool r) ∧ Below w.heap.size w w' := by
 have HR_ := Aside0.mk hr_
 clear hr_
 have HB := Aside0.mk (Below.refl w.heap.size w)
 have H : ((mlp_Tell.f 1 (([2, (-5), 10, 1] : List Int)) (([3] : List Int)) 0).bind fun bt145 => ((mlp_Tell.f 1 (([2, (-5), 10, 1] : List Int)) (([2] : List Int)) 0).bind fun bt153 => (if bt145.1 = 11 then (if bt145.2 = 0 then (if bt153.1 = 1 then (some (bt153.2 == 0)) else (some false)) else (some false)) else (some false)))) = some r := h
 clear h
 obtain ⟨y139, hy139⟩ : ∃ y_ : List Int, y_ = (([2, (-5), 10, 1] : List Int)) := ⟨_, rfl⟩
 replace H : ((mlp_Tell.f 1 y139 (([3] : List Int)) 0).bind fun bt145 => ((mlp_Tell.f 1 (([2, (-5), 10, 1] : List Int)) (([2] : List Int)) 0).bind fun bt153 => (if bt145.1 = 11 then (if bt145.2 = 0 then (if bt153.1 = 1 then (some (bt153.2 == 0)) else (some false)) else (some false)) else (some false)))) = some r := by first | (rw [hy139]; with_reducible exact H) | (have H2_ := (Option.bind_some _ _).symm.trans H; rw [hy139]; with_reducible exact H2_) | (have H2_ := (Option.bind_some _ _).symm.trans H; with_reducible exact H2_) | with_reducible exact H | (rw [hy139]; exact H) | exact H
 have Ny139 := Aside0.mk hy139
 clear hy139
 obtain ⟨y142, hy142⟩ : ∃ y_ : List Int, y_ = (([3] : List Int)) := ⟨_, rfl⟩
 replace H : ((mlp_Tell.f 1 y139 y142 0).bind fun bt145 => ((mlp_Tell.f 1 (([2, (-5), 10, 1] : List Int)) (([2] : List Int)) 0).bind fun bt153 => (if bt145.1 = 11 then (if bt145.2 = 0 then (if bt153.1 = 1 then (some (bt153.2 == 0)) else (some false)) else (some false)) else (some false)))) = some r := by first | (rw [hy142]; with_reducible exact H) | (have H2_ := (Option.bind_some _ _).symm.trans H; rw [hy142]; with_reducible exact H2_) | (have H2_ := (Option.bind_some _ _).symm.trans H; with_reducible exact H2_) | with_reducible exact H | (rw [hy142]; exact H) | exact H
 have Ny142 := Aside0.mk hy142
 clear hy142
 replace H := Option.bind_eq_some_iff.mp H
 obtain ⟨⟨t145, t146⟩, A10, H⟩ := H
 replace H : ((mlp_Tell.f 1 (([2, (-5), 10, 1] : List Int)) (([2] : List Int)) 0).bind fun bt153 => (if t145 = 11 then (if t146 = 0 then (if bt153.1 = 1 then (some (bt153.2 == 0)) else (some false)) else (some false)) else (some false))) = some r := H
 have A1 := Aside0.mk A10
 clear A10
 obtain ⟨y147, hy147⟩ : ∃ y_ : List Int, y_ = (([2, (-5), 10, 1] : List Int)) := ⟨_, rfl⟩
 replace H : ((mlp_Tell.f 1 y147 (([2] : List Int)) 0).bind fun bt153 => (if t145 = 11 then (if t146 = 0 then (if bt153.1 = 1 then (some (bt153.2 == 0)) else (some false)) else (some false)) else (some false))) = some r := by first | (rw [hy147]; with_reducible exact H) | (have H2_ := (Option.bind_some _ _).symm.trans H; rw [hy147]; with_reducible exact H2_) | (have H2_ := (Option.bind_some _ _).symm.trans H; with_reducible exact H2_) | with_reducible exact H | (rw [hy147]; exact H) | exact H
 have Ny147 := Aside0.mk hy147
 clear hy147
 obtain ⟨y150, hy150⟩ : ∃ y_ : List Int, y_ = (([2] : List Int)) := ⟨_, rfl⟩
 replace H : ((mlp_Tell.f 1 y147 y150 0).bind fun bt153 => (if t145 = 11 then (if t146 = 0 then (if bt153.1 = 1 then (some (bt153.2 == 0)) else (some false)) else (some false)) else (some false))) = some r := by first | (rw [hy150]; with_reducible exact H) | (have H2_ := (Option.bind_some _ _).symm.trans H; rw [hy150]; with_reducible exact H2_) | (have H2_ := (Option.bind_some _ _).symm.trans H; with_reducible exact H2_) | with_reducible exact H | (rw [hy150]; exact H) | exact H
 have Ny150 := Aside0.mk hy150
 clear hy150
 replace H := Option.bind_eq_some_iff.mp H
 obtain ⟨⟨t153, t154⟩, A20, H⟩ := H
 replace H : (if t145 = 11 then (if t146 = 0 then (if t153 = 1 then (some (t154 == 0)) else (some false)) else (some false)) else (some false)) = some r := H
 have A2 := Aside0.mk A20
 clear A20
 by_cases c3 : t145 = 11
 ·
  rw [if_pos c3] at H
  have c3b0 : (t145 == 11) = true := beq_iff_eq.mpr c3
  have c3b1 : (t145 != 11) = false := bne_eq_false_iff_eq.mpr c3
  clear c3
  by_cases c4 : t146 = 0
  ·
   rw [if_pos c4] at H
   have c4b0 : (t146 == 0) = true := beq_iff_eq.mpr c4
   have c4b1 : (t146 != 0) = false := bne_eq_false_iff_eq.mpr c4
   clear c4
   by_cases c5 : t153 = 1
   ·
    rw [if_pos c5] at H
    have c5b0 : (t153 == 1) = true := beq_iff_eq.mpr c5
    have c5b1 : (t153 != 1) = false := bne_eq_false_iff_eq.mpr c5
    clear c5
    obtain rfl := Option.some.inj H
    go_enter Try.func8, Try.ntmps8
    go_wp2_with (first | ((with_reducible refine gate_dst (N := 6) rfl ?_); refine Kd.R_lit (Kd.int .i64) _ 2 ?hg (N := 6) ?hd (xs := ([2, (-5), 10, 1] : List Int)) (inner := [.int .i64 2, .int .i64 (-5), .int .i64 10, .int .i64 1]) (ok := fun _ => True) (okp := fun _ => True) ?hr ?hp (fun _ hk => hk) trivial (Below.refl _ _) (Nat.le_refl _) (by simp) ?_; (case hd => rfl); (case hg => rfl); (case hr => first | (go_simp; done) | (go_simp; rfl)); (case hp => exact (Reps.one (show Kd.M (Kd.int .i64) _ _ _ 2 [.int .i64 2] from rfl) (Reps.one (show Kd.M (Kd.int .i64) _ _ _ (-5) [.int .i64 (-5)] from rfl) (Reps.one (show Kd.M (Kd.int .i64) _ _ _ 10 [.int .i64 10] from rfl) (Reps.one (show Kd.M (Kd.int .i64) _ _ _ 1 [.int .i64 1] from rfl) (Reps.none _ _)))))); intro v140 w6 ho7 hb hg_ hnew_; clear hg_ hnew_; (first | rw [← Ny139.out] at ho7 | (simp only [Int.reduceToNat] at ho7; rw [← Ny139.out] at ho7)); have n0_ := Aside0.mk (Kd.R_lower ho7 (zzS (by repeat (first | (with_reducible first | exact HB.out | apply zzA | apply zzN | apply zzD) | exact HB.out)))); have n1_ := Aside0.mk (zzT (by repeat (first | (with_reducible first | exact HB.out | apply zzA | apply zzN | apply zzD) | exact HB.out)) hb); clear HB; have HO141 := n0_; have HB := n1_; clear n0_ n1_; clear hb ho7) | ((with_reducible refine gate_dst (N := 7) rfl ?_); refine Kd.R_lit (Kd.int .i64) _ 2 ?hg (N := 7) ?hd (xs := ([3] : List Int)) (inner := [.int .i64 3]) (ok := fun _ => True) (okp := fun _ => True) ?hr ?hp (fun _ hk => hk) trivial (Below.refl _ _) (Nat.le_refl _) (by simp) ?_; (case hd => rfl); (case hg => rfl); (case hr => first | (go_simp; done) | (go_simp; rfl)); (case hp => exact (Reps.one (show Kd.M (Kd.int .i64) _ _ _ 3 [.int .i64 3] from rfl) (Reps.none _ _))); intro v143 w8 ho9 hb hg_ hnew_; clear hg_ hnew_; (first | rw [← Ny142.out] at ho9 | (simp only [Int.reduceToNat] at ho9; rw [← Ny142.out] at ho9)); have n0_ := Aside0.mk (Kd.R_elder' (by (with_reducible repeat (first | apply rrA | apply rrN | apply rrD)); exact HO141.out) (Kd.R_base ho9) hb); have n1_ := Aside0.mk (Kd.R_lower (Kd.R_new' ho9 (Kd.R_lt (by (with_reducible repeat (first | apply rrA | apply rrN | apply rrD)); exact HO141.out))) (zzS (by repeat (first | (with_reducible first | exact HB.out | apply zzA | apply zzN | apply zzD) | exact HB.out)))); have n2_ := Aside0.mk (zzT (by repeat (first | (with_reducible first | exact HB.out | apply zzA | apply zzN | apply zzD) | exact HB.out)) hb); clear HO141; clear HB; have HO141 := n0_; have HO144 := n1_; have HB := n2_; clear n0_ n1_ n2_; clear hb ho9; obtain ⟨Ao10, co10, eo10⟩ := Kd.R_slice HO141.out; subst eo10; obtain ⟨Ao11, co11, eo11⟩ := Kd.R_slice HO144.out; subst eo11) | ((with_reducible refine gate_callee (f := 13) rfl ?_); refine goesL_ (some 8) rfl rfl Try.func13 (by kernel_rfl) rfl #[.int .i64 1, .slice Ao10 y139.length co10, .slice Ao11 y142.length co11, .int .i64 0] rfl (by (try simp only [List.map_toArray, List.map_cons, List.map_nil]); first | done | rfl | (simp only [List.length_drop, List.length_take]; rfl)) ?_; (with_reducible refine (mlp_Tell.calls 1 _ _ y139 _ _ y142 0 t145 t146 _ ?side1 ?side2 ?side3 ?side4 A1.out).mono ?_); (case side1 => repeat (first | exact (Kd.R_reads' HO141.out).2.2 | (with_reducible refine ccA ?_ _) | (with_reducible refine ccN ?_ _) | (with_reducible refine ccD ?_))); (case side2 => exact (Kd.R_reads' HO141.out).2.1); (case side3 => repeat (first | exact (Kd.R_reads' HO144.out).2.2 | (with_reducible refine ccA ?_ _) | (with_reducible refine ccN ?_ _) | (with_reducible refine ccD ?_))); (case side4 => exact (Kd.R_reads' HO144.out).2.1); rintro e w12 ⟨rfl, hb⟩; refine ⟨_, rfl, ?_⟩; have n0_ := Aside0.mk (Kd.R_below (by (with_reducible repeat (first | apply rrA | apply rrN | apply rrD)); exact HO141.out) hb); have n1_ := Aside0.mk (Kd.R_below (by (with_reducible repeat (first | apply rrA | apply rrN | apply rrD)); exact HO144.out) hb); have n2_ := Aside0.mk (zzT (by repeat (first | (with_reducible first | exact HB.out | apply zzA | apply zzN | apply zzD) | exact HB.out)) hb); clear HO141; clear HO144; clear HB; have HO141 := n0_; have HO144 := n1_; have HB := n2_; clear n0_ n1_ n2_; (try clear hb); (try clear hb2); (try clear hk); (try clear hi)) | ((with_reducible refine gate_dst (N := 12) rfl ?_); refine Kd.R_lit (Kd.int .i64) _ 2 ?hg (N := 12) ?hd (xs := ([2, (-5), 10, 1] : List Int)) (inner := [.int .i64 2, .int .i64 (-5), .int .i64 10, .int .i64 1]) (ok := fun _ => True) (okp := fun _ => True) ?hr ?hp (fun _ hk => hk) trivial (Below.refl _ _) (Nat.le_refl _) (by simp) ?_; (case hd => rfl); (case hg => rfl); (case hr => first | (go_simp; done) | (go_simp; rfl)); (case hp => exact (Reps.one (show Kd.M (Kd.int .i64) _ _ _ 2 [.int .i64 2] from rfl) (Reps.one (show Kd.M (Kd.int .i64) _ _ _ (-5) [.int .i64 (-5)] from rfl) (Reps.one (show Kd.M (Kd.int .i64) _ _ _ 10 [.int .i64 10] from rfl) (Reps.one (show Kd.M (Kd.int .i64) _ _ _ 1 [.int .i64 1] from rfl) (Reps.none _ _)))))); intro v148 w13 ho14 hb hg_ hnew_; clear hg_ hnew_; (first | rw [← Ny147.out] at ho14 | (simp only [Int.reduceToNat] at ho14; rw [← Ny147.out] at ho14)); have n0_ := Aside0.mk (Kd.R_elder' (by (with_reducible repeat (first | apply rrA | apply rrN | apply rrD)); exact HO141.out) (Kd.R_base ho14) hb); have n1_ := Aside0.mk (Kd.R_elder' (by (with_reducible repeat (first | apply rrA | apply rrN | apply rrD)); exact HO144.out) (Kd.R_base ho14) hb); have n2_ := Aside0.mk (Kd.R_lower (Kd.R_new' (Kd.R_new' ho14 (Kd.R_lt (by (with_reducible repeat (first | apply rrA | apply rrN | apply rrD)); exact HO141.out))) (Kd.R_lt (by (with_reducible repeat (first | apply rrA | apply rrN | apply rrD)); exact HO144.out))) (zzS (by repeat (first | (with_reducible first | exact HB.out | apply zzA | apply zzN | apply zzD) | exact HB.out)))); have n3_ := Aside0.mk (zzT (by repeat (first | (with_reducible first | exact HB.out | apply zzA | apply zzN | apply zzD) | exact HB.out)) hb); clear HO141; clear HO144; clear HB; have HO141 := n0_; have HO144 := n1_; have HO149 := n2_; have HB := n3_; clear n0_ n1_ n2_ n3_; clear hb ho14) | ((with_reducible refine gate_dst (N := 13) rfl ?_); refine Kd.R_lit (Kd.int .i64) _ 2 ?hg (N := 13) ?hd (xs := ([2] : List Int)) (inner := [.int .i64 2]) (ok := fun _ => True) (okp := fun _ => True) ?hr ?hp (fun _ hk => hk) trivial (Below.refl _ _) (Nat.le_refl _) (by simp) ?_; (case hd => rfl); (case hg => rfl); (case hr => first | (go_simp; done) | (go_simp; rfl)); (case hp => exact (Reps.one (show Kd.M (Kd.int .i64) _ _ _ 2 [.int .i64 2] from rfl) (Reps.none _ _))); intro v151 w15 ho16 hb hg_ hnew_; clear hg_ hnew_; (first | rw [← Ny150.out] at ho16 | (simp only [Int.reduceToNat] at ho16; rw [← Ny150.out] at ho16)); have n0_ := Aside0.mk (Kd.R_elder' (by (with_reducible repeat (first | apply rrA | apply rrN | apply rrD)); exact HO141.out) (Kd.R_base ho16) hb); have n1_ := Aside0.mk (Kd.R_elder' (by (with_reducible repeat (first | apply rrA | apply rrN | apply rrD)); exact HO144.out) (Kd.R_base ho16) hb); have n2_ := Aside0.mk (Kd.R_elder' (by (with_reducible repeat (first | apply rrA | apply rrN | apply rrD)); exact HO149.out) (Kd.R_base ho16) hb); have n3_ := Aside0.mk (Kd.R_lower (Kd.R_new' (Kd.R_new' (Kd.R_new' ho16 (Kd.R_lt (by (with_reducible repeat (first | apply rrA | apply rrN | apply rrD)); exact HO141.out))) (Kd.R_lt (by (with_reducible repeat (first | apply rrA | apply rrN | apply rrD)); exact HO144.out))) (Kd.R_lt (by (with_reducible repeat (first | apply rrA | apply rrN | apply rrD)); exact HO149.out))) (zzS (by repeat (first | (with_reducible first | exact HB.out | apply zzA | apply zzN | apply zzD) | exact HB.out)))); have n4_ := Aside0.mk (zzT (by repeat (first | (with_reducible first | exact HB.out | apply zzA | apply zzN | apply zzD) | exact HB.out)) hb); clear HO141; clear HO144; clear HO149; clear HB; have HO141 := n0_; have HO144 := n1_; have HO149 := n2_; have HO152 := n3_; have HB := n4_; clear n0_ n1_ n2_ n3_ n4_; clear hb ho16; obtain ⟨Ao17, co17, eo17⟩ := Kd.R_slice HO149.out; subst eo17; obtain ⟨Ao18, co18, eo18⟩ := Kd.R_slice HO152.out; subst eo18) | ((with_reducible refine gate_callee (f := 13) rfl ?_); refine goesL_ (some 14) rfl rfl Try.func13 (by kernel_rfl) rfl #[.int .i64 1, .slice Ao17 y147.length co17, .slice Ao18 y150.length co18, .int .i64 0] rfl (by (try simp only [List.map_toArray, List.map_cons, List.map_nil]); first | done | rfl | (simp only [List.length_drop, List.length_take]; rfl)) ?_; (with_reducible refine (mlp_Tell.calls 1 _ _ y147 _ _ y150 0 t153 t154 _ ?side1 ?side2 ?side3 ?side4 A2.out).mono ?_); (case side1 => repeat (first | exact (Kd.R_reads' HO149.out).2.2 | (with_reducible refine ccA ?_ _) | (with_reducible refine ccN ?_ _) | (with_reducible refine ccD ?_))); (case side2 => exact (Kd.R_reads' HO149.out).2.1); (case side3 => repeat (first | exact (Kd.R_reads' HO152.out).2.2 | (with_reducible refine ccA ?_ _) | (with_reducible refine ccN ?_ _) | (with_reducible refine ccD ?_))); (case side4 => exact (Kd.R_reads' HO152.out).2.1); rintro e w19 ⟨rfl, hb⟩; refine ⟨_, rfl, ?_⟩; have n0_ := Aside0.mk (Kd.R_below (by (with_reducible repeat (first | apply rrA | apply rrN | apply rrD)); exact HO141.out) hb); have n1_ := Aside0.mk (Kd.R_below (by (with_reducible repeat (first | apply rrA | apply rrN | apply rrD)); exact HO144.out) hb); have n2_ := Aside0.mk (Kd.R_below (by (with_reducible repeat (first | apply rrA | apply rrN | apply rrD)); exact HO149.out) hb); have n3_ := Aside0.mk (Kd.R_below (by (with_reducible repeat (first | apply rrA | apply rrN | apply rrD)); exact HO152.out) hb); have n4_ := Aside0.mk (zzT (by repeat (first | (with_reducible first | exact HB.out | apply zzA | apply zzN | apply zzD) | exact HB.out)) hb); clear HO141; clear HO144; clear HO149; clear HO152; clear HB; have HO141 := n0_; have HO144 := n1_; have HO149 := n2_; have HO152 := n3_; have HB := n4_; clear n0_ n1_ n2_ n3_ n4_; (try clear hb); (try clear hb2); (try clear hk); (try clear hi)))
    go_ret
    exact ⟨by first | rfl | (simp [errW_none, errW_some] <;> rfl) | (simp [*, errW_none, errW_some] <;> rfl), by repeat (first | (with_reducible first | exact HB.out | apply zzA | apply zzN | apply zzD) | exact HB.out)⟩
   ·
    rw [if_neg c5] at H
    exact absurd (Option.some.inj H) (by rw [HR_.out]; decide)
  ·
   rw [if_neg c4] at H
   exact absurd (Option.some.inj H) (by rw [HR_.out]; decide)
 ·
  rw [if_neg c3] at H
  exact absurd (Option.some.inj H) (by rw [HR_.out]; decide)

def thrumlaw16_live.f : Option Bool := some true
theorem thrumlaw16_live.calls  (r : Bool) (w : World) (h : thrumlaw16_live.f  = some r) :
    Calls Try.prog 8 #[] w fun e w' => e = .returned (.bool r) ∧ Below w.heap.size w w' := by
  have hr : r = true := (Option.some.inj h).symm
  refine thrumlaw16_liveP.calls r w (Eq.trans ?_ h) hr
  unfold thrumlaw16_liveP.f thrumlaw16_live.f
  rw [mlp_Tell.of _ _ _ _ ⟨by decide +kernel, by decide +kernel⟩, mlp_Tell.of _ _ _ _ ⟨by decide +kernel, by decide +kernel⟩, show tellM 1 [2, -5, 10, 1] [3] 0 = (11, 0) by decide +kernel, show tellM 1 [2, -5, 10, 1] [2] 0 = (1, 0) by decide +kernel]
  rfl


end Go.Proofs.Ytalamamjodihaaa.HP
