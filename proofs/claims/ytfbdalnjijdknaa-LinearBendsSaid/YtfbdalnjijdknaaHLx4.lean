/- What Go functions do, each as a plain Lean function with the same answers, and the proof of it, in every world: printed by the session's driver over the kit's print, with texts by hand. -/
import Derived.Test.YtfbdalnjijdknaaHLx0
import Derived.Test.YtfbdalnjijdknaaHLx2
import Derived.Test.YtfbdalnjijdknaaHLx3
namespace Go.Proofs.Ytfbdalnjijdknaa.HL
open Go.RowKit Go.Proofs.YtfbdalnjijdknaaW.PrintWords Go.Proofs.YtfbdalnjijdknaaW.PrintLast Go.Proofs.YtfbdalnjijdknaaW.PrintMore
attribute [local go_sem] max2_int min2_int max_two min_two max_three min_three max_four min_four   -- for this text's walks alone
open Go.Proofs.Ytfbdalnjijdknaa.Sp
attribute [local go_sem] Go.Proofs.Ytfbdalnjijdknaa.Sp.u64_not
set_option linter.unusedVariables false
set_option linter.unusedSimpArgs false

/-! ### vec_each: function 134 -/
set_option maxHeartbeats 2000000 in
set_option maxRecDepth 100000 in
theorem vec_each.calls (K : Nat) (caps : Array Value) (g : Nat → Option (Int × Int)) (n : Nat) (hn : n ≤ 1000000) (w : World) (r1 : List Int) (r2 : Int)
    (hent : ∀ (args : Array Value) (w : World), (callFunc K args).run Try.prog w = .ok (.enter K args) w)
    (H : Tells Try.prog K caps g n w) (h : eachGo g n 0 [] = some (r1, r2)) :
    Calls Try.prog 134 #[.int .i64 n, .func (.func K) #[] caps] w fun e w' => ∃ v0_ : Value, e = .returned (.tuple #[v0_, .int .i64 r2]) ∧ Kd.R (Kd.int .i64) 2 w' w.heap.size (fun _ => True) v0_ r1 ∧ Below w.heap.size w w' := by
  have hmk := print_make (P := Try.prog) 22 2 .i64 8 Try.underlying22 info2 (by decide) n (by omega)
  have HH := Aside0.mk H
  have HG := Aside0.mk h
  clear H h
  go_enter Try.func134, Try.ntmps134
  go_wp2_with fail
  go_loopw [13] (fun i W => ∃ (k : Nat) (acc : List Int), i = .int .i64 k ∧ Aside0 (k ≤ n) ∧ Aside0 (acc.length = k) ∧ Aside0 (eachGo g (n - k) k acc = some (r1, r2)) ∧ Aside0 (Kd.R (Kd.int .i64) 2 W w.heap.size (fun _ => True) (.slice (some ⟨w.heap.size, 0, none⟩) n n) (acc ++ List.replicate (n - k) 0)) ∧ Aside0 (Below w.heap.size w W)) (fun i _ => n - (intOf i).toNat)
  case atStart => exact ⟨0, [], rfl, ⟨Nat.zero_le _⟩, ⟨rfl⟩, HG, ⟨by have ho := own_made w w.heap.size 2 .i64 n (Nat.le_refl _) (by omega); rw [show ([] : List Int) ++ List.replicate (n - 0) 0 = List.replicate n 0 by simp]; exact Kd.R_of_own (enc := Value.int .i64) (h1 := fun _ => rfl) (xs := List.replicate n (0 : Int)) (by rw [List.length_replicate]; exact ho) (fun _ _ => trivial)⟩, ⟨zzA (Below.refl _ _) _⟩⟩
  case round =>
    obtain ⟨k, acc, rfl, ⟨hk⟩, ⟨hacc⟩, ⟨hgo⟩, HO, HB⟩ := hrel
    clear HG
    by_cases hlt : k < n
    · obtain ⟨d, hd⟩ : ∃ d, n - k = d + 1 := ⟨n - k - 1, by omega⟩
      rw [hd, eachGo] at hgo
      obtain ⟨⟨x, e⟩, hgk, hgo⟩ := Option.bind_eq_some_iff.mp hgo
      have HC := Aside0.mk (HH.out k wr x e hlt HB.out hgk)
      have HHd := Aside0.mk hd
      clear hd hgk
      by_cases he : e = 0
      · subst he
        simp only [if_true] at hgo
        have HG := Aside0.mk hgo
        have HA := Aside0.mk hacc
        clear hgo hacc hk
        go_wp2_with (go_at_fn K; refine HC.out.mono ?_; rintro ed W1 ⟨rfl, hb⟩; have HO1 := Aside0.mk (Kd.R_below HO.out hb); have HB1 := Aside0.mk (below_then HB.out HB.out.size hb); clear hb; have hcell := (Kd.R_celln 0 HO1.out (k : Int) (by omega) (by omega)).1; have hfr := (Kd.R_celln 0 HO1.out (k : Int) (by omega) (by omega)).2; simp only [Int.toNat_natCast] at hcell hfr)
        have hp := Kd.R_putg HO1.out (k : Int) x
        have hset : (acc ++ List.replicate (n - k) 0).set (k : Int).toNat x = (acc ++ [x]) ++ List.replicate (n - (k + 1)) 0 := by
          rw [HHd.out, show n - (k + 1) = d by have := HHd.out; omega, Int.toNat_natCast, ← HA.out, List.set_append_right _ _ (Nat.le_refl _), Nat.sub_self, List.replicate_succ]
          simp
        rw [hset] at hp
        simp only [Int.toNat_natCast] at hp
        exact ⟨⟨k + 1, acc ++ [x], by go_num, ⟨by omega⟩, ⟨by have := HA.out; simp; omega⟩, ⟨by rw [show n - (k + 1) = d by have := HHd.out; omega]; exact HG.out⟩, ⟨hp.1⟩, ⟨HB1.out.setCell (Nat.le_refl _) _⟩⟩, by simp [intOf]; omega⟩
      · rw [if_neg he] at hgo
        cases hgo
        have he0 : (e == 0) = false := beq_eq_false_iff_ne.2 he
        have he1 : (e != 0) = true := bne_iff_ne.2 he
        clear he hacc hk
        go_wp2_with (go_at_fn K; refine HC.out.mono ?_; rintro ed W1 ⟨rfl, hb⟩; have HO1 := Aside0.mk (Kd.R_below HO.out hb); have HB1 := Aside0.mk (below_then HB.out HB.out.size hb); clear hb; have hcell := (Kd.R_celln 0 HO1.out (k : Int) (by omega) (by omega)).1; have hfr := (Kd.R_celln 0 HO1.out (k : Int) (by omega) (by omega)).2; simp only [Int.toNat_natCast] at hcell hfr)
        go_ret2
        exact ⟨_, rfl, Kd.R_nil _ _ _ _ _, HB1.out.setCell (Nat.le_refl _) _⟩
    · have hkn : n - k = 0 := by omega
      rw [hkn, eachGo] at hgo
      cases hgo
      have HO2 := HO.out
      rw [hkn, List.replicate_zero, List.append_nil] at HO2
      have HO3 := Aside0.mk HO2
      clear HO2 HO hkn hacc hk
      go_wp2
      go_ret2
      exact ⟨_, rfl, HO3.out, HB.out⟩


-- NOT PRINTED: function 176 (vec_Add_1)

/-! ### vec_Add: function 163 -/
set_option maxHeartbeats 2000000 in
set_option maxRecDepth 100000 in
theorem vec_Add_1.calls (b1 b2 : Nat) (A0 : Option Addr) (c0 : Nat) (l0 : List Int) (A1 : Option Addr) (c1 : Nat) (l1 : List Int) (i : Nat) (W : World) (x e : Int)
    (hb1 : W.cell? ⟨b1, 0, none⟩ = some (.slice A0 l0.length c0)) (hb2 : W.cell? ⟨b2, 0, none⟩ = some (.slice A1 l1.length c1))
    (hr0 : Kd.C (Kd.int .i64) W A0 l0.length l0) (hr1 : Kd.C (Kd.int .i64) W A1 l1.length l1) (h0 : i < l0.length) (h1 : i < l1.length)
    (h : fix_Add.f (rd l0 i) (rd l1 i) = some (x, e)) :
    Calls Try.prog 176 #[.int .i64 i, .pointer (some ⟨b1, 0, none⟩), .pointer (some ⟨b2, 0, none⟩)] W fun ed W' => ed = .returned (.tuple #[.int .i64 x, .int .i64 e]) ∧ Drawn0 W W' := by
  obtain ⟨ad0, rfl, hc0⟩ := Kd.at_int hr0 (i : Int) (by omega) (by omega)
  obtain ⟨ad1, rfl, hc1⟩ := Kd.at_int hr1 (i : Int) (by omega) (by omega)
  simp only [Int.toNat_natCast] at hc0 hc1
  have HC := Aside0.mk h
  clear hr0 hr1 h
  go_enter Try.func176, Try.ntmps176
  go_wp2
  go_quiet ((go_at_call 105; (with_reducible refine (fix_Add.calls (rd l0 i) (rd l1 i) x e _ HC.out).mono ?_); rintro ed W2 ⟨rfl, ⟨nd, rfl⟩⟩; (try first | exact ⟨rfl, _, wwN _ _ _⟩ | exact ⟨rfl, _, ww3 _ _ _ _⟩ | exact ⟨rfl, _, rfl⟩)))
  go_wp2
  go_ret2
  exact ⟨rfl, ⟨_, rfl⟩⟩
def vec_Add.f (l0 l1 : List Int) : Option (List Int × Int) := if V64 l0 ∧ V64 l1 then some (addV l0 l1) else none
theorem vec_Add.of (l0 l1 : List Int)  (h_ : V64 l0 ∧ V64 l1) : vec_Add.f l0 l1 = some (addV l0 l1) := if_pos h_
set_option maxHeartbeats 2000000 in
set_option maxRecDepth 100000 in
theorem vec_Add.calls (A0 : Option Addr) (c0 : Nat) (l0 : List Int) (A1 : Option Addr) (c1 : Nat) (l1 : List Int) (r1 : List Int) (r2 : Int) (w : World) (hr0 : Kd.C (Kd.int .i64) w A0 l0.length l0) (hc0 : l0.length ≤ c0) (hr1 : Kd.C (Kd.int .i64) w A1 l1.length l1) (hc1 : l1.length ≤ c1) (h : vec_Add.f l0 l1 = some (r1, r2)) :
    Calls Try.prog 163 #[.slice A0 l0.length c0, .slice A1 l1.length c1] w fun e w' => ∃ v0_ : Value, e = .returned (.tuple #[v0_, .int .i64 r2]) ∧ Kd.R (Kd.int .i64) 2 w' w.heap.size (fun _ => True) v0_ r1 ∧ Below w.heap.size w w' := by
  unfold vec_Add.f at h
  split at h
  case isFalse => cases h
  rename_i hv
  have h := Option.some.inj h
  unfold addV at h
  have HR0 := Aside0.mk hr0
  have HC0 := Aside0.mk hc0
  have HR1 := Aside0.mk hr1
  have HC1 := Aside0.mk hc1
  clear hr0 hc0 hr1 hc1
  have HV := Aside0.mk hv
  clear hv
  try have hu22 := Try.underlying22
  have HP0 : Aside0 (vec_pair.f l0 l1 = some (pairE l0 l1)) := ⟨rfl⟩
  by_cases hp0 : pairE l0 l1 = 0
  · rw [if_pos hp0] at h
    rw [hp0] at HP0
    have HL : Aside0 (l0.length = l1.length) := ⟨pairE_len hp0⟩
    have HN : Aside0 (l0.length ≤ 4096) := ⟨pairE_le hp0⟩
    have HH := Aside0.mk h
    clear h hp0
    have HX0 : Aside0 (((w.alloc (Obj.cells #[Value.slice A0 l0.length c0] 22)).alloc (Obj.cells #[Value.slice A1 l1.length c1] 22)).cell? ⟨w.heap.size, 0, none⟩ = some (.slice A0 l0.length c0)) := ⟨by simp [go_sem]⟩
    have HX1 : Aside0 (((w.alloc (Obj.cells #[Value.slice A0 l0.length c0] 22)).alloc (Obj.cells #[Value.slice A1 l1.length c1] 22)).cell? ⟨w.heap.size + 1, 0, none⟩ = some (.slice A1 l1.length c1)) := ⟨by simp [go_sem]⟩
    have HB : Aside0 (Below w.heap.size w ((w.alloc (Obj.cells #[Value.slice A0 l0.length c0] 22)).alloc (Obj.cells #[Value.slice A1 l1.length c1] 22))) := ⟨zzA (zzA (Below.refl _ _) _) _⟩
    go_enter Try.func163, Try.ntmps163
    go_wp2_with (first | (go_at_call 150; (with_reducible refine (vec_pair.calls A0 c0 l0 A1 c1 l1 0 _ (Kd.C_below HR0.out HB.out) HC0.out (Kd.C_below HR1.out HB.out) HC1.out HP0.out).mono ?_); rintro ed W1 ⟨rfl, hd⟩; have hb := hd; clear hd; have HB := Aside0.mk (below_then HB.out HB.out.size hb); have HX0 := Aside0.mk (pw_cell_below hb HX0.out); have HX1 := Aside0.mk (pw_cell_below hb HX1.out); have hx0 := HX0.out; have hx1 := HX1.out; clear hb) | (go_at_call 134; (with_reducible refine (vec_each.calls 176 _ (fun i : Nat => fix_Add.f (rd l0 i) (rd l1 i)) l0.length (by have := HN.out; omega) _ r1 r2 ?ent ?tells ?go).mono ?_); (case ent => exact enters_of Try.func176 rfl rfl); (case tells => intro i W x e hi hb hg; refine (vec_Add_1.calls (w.heap.size) (w.heap.size + 1) A0 c0 l0 A1 c1 l1 i W x e (pw_cell_below hb HX0.out) (pw_cell_below hb HX1.out) (Kd.C_below (Kd.C_below HR0.out HB.out) hb) (Kd.C_below (Kd.C_below HR1.out HB.out) hb) (by have := HL.out; omega) (by have := HL.out; omega) hg).mono ?_; rintro ed W' ⟨rfl, hd⟩; exact ⟨rfl, hd.below⟩); (case go => exact (each_spec (ps := List.zipWith (fun x y => res (x + y)) l0 l1) (by have := HL.out; rw [List.length_zipWith]; omega) (fun j h => by rw [zip_get _ _ HL.out j h]; exact fix_Add.of _ _ ⟨HV.out.1.rd _, HV.out.2.rd _⟩)).trans (congrArg some HH.out)); rintro ed W2 ⟨v_, rfl, hR, hb⟩; have HO := Aside0.mk (Kd.R_lower hR HB.out.size); have HB2 := Aside0.mk (below_then HB.out HB.out.size hb); clear hR hb))
    go_ret2
    exact ⟨_, rfl, HO.out, HB2.out⟩
  · rw [if_neg hp0] at h
    cases h
    have HX0 : Aside0 (((w.alloc (Obj.cells #[Value.slice A0 l0.length c0] 22)).alloc (Obj.cells #[Value.slice A1 l1.length c1] 22)).cell? ⟨w.heap.size, 0, none⟩ = some (.slice A0 l0.length c0)) := ⟨by simp [go_sem]⟩
    have HX1 : Aside0 (((w.alloc (Obj.cells #[Value.slice A0 l0.length c0] 22)).alloc (Obj.cells #[Value.slice A1 l1.length c1] 22)).cell? ⟨w.heap.size + 1, 0, none⟩ = some (.slice A1 l1.length c1)) := ⟨by simp [go_sem]⟩
    have HB : Aside0 (Below w.heap.size w ((w.alloc (Obj.cells #[Value.slice A0 l0.length c0] 22)).alloc (Obj.cells #[Value.slice A1 l1.length c1] 22))) := ⟨zzA (zzA (Below.refl _ _) _) _⟩
    have he0 : (pairE l0 l1 == 0) = false := beq_eq_false_iff_ne.2 hp0
    have he1 : (pairE l0 l1 != 0) = true := bne_iff_ne.2 hp0
    obtain ⟨e_, hE⟩ : ∃ e_ : Int, pairE l0 l1 = e_ := ⟨_, rfl⟩
    rw [hE] at HP0 he0 he1
    simp only [hE]
    clear hE hp0
    go_enter Try.func163, Try.ntmps163
    go_wp2_with (first | (go_at_call 150; (with_reducible refine (vec_pair.calls A0 c0 l0 A1 c1 l1 e_ _ (Kd.C_below HR0.out HB.out) HC0.out (Kd.C_below HR1.out HB.out) HC1.out HP0.out).mono ?_); rintro ed W1 ⟨rfl, hd⟩; have hb := hd; clear hd; have HB := Aside0.mk (below_then HB.out HB.out.size hb); have HX0 := Aside0.mk (pw_cell_below hb HX0.out); have HX1 := Aside0.mk (pw_cell_below hb HX1.out); have hx0 := HX0.out; have hx1 := HX1.out; clear hb))
    go_ret2
    exact ⟨_, rfl, Kd.R_nil _ _ _ _ _, HB.out⟩


/-! ### vec_SumP: function 123 -/
def vec_SumP.l0 : Nat → List Int → List (List Int) → Int → Int → Option (List Int × Int)
 | 0, _, _, _, _ => none
 | k + 1, x2, x6, x7, x8 => if x8 < x7 then (if 0 ≤ x8 then (if x8 < (x6.length : Int) then (if x8 = 0 then ((slices_Clone_int64_int64.f (rd_L1 x6 x8)).bind fun t122 => ((vec_Check.f (rd_L1 x6 x8)).bind fun t125 => (if t125 = 0 then (vec_SumP.l0 k t122 x6 x7 (wrap64 (x8 + 1))) else (some (([] : List Int), t125))))) else ((vec_Add.f x2 (rd_L1 x6 x8)).bind fun bt126 => (if bt126.2 = 0 then (vec_SumP.l0 k bt126.1 x6 x7 (wrap64 (x8 + 1))) else (some (([] : List Int), bt126.2))))) else (none)) else (none)) else (some (x2, 0))
def vec_SumP.f (k : Nat) (l0 : List (List Int)) : Option (List Int × Int) := vec_SumP.l0 k ([] : List Int) l0 (l0.length : Int) 0
theorem vec_SumP.mono_l : ∀ k, (∀ y0 y1 y2 y3, LeO (vec_SumP.l0 k y0 y1 y2 y3) (vec_SumP.l0 (k + 1) y0 y1 y2 y3))
 | 0 => fun _ _ _ _ r h => by simp [vec_SumP.l0] at h
 | k + 1 => by
  have ih0 := vec_SumP.mono_l k
  ·
   intro y0 y1 y2 y3
   unfold vec_SumP.l0
   repeat' first
   | (with_reducible exact ih0 _ _ _ _)
   | (with_reducible exact LeO.refl _)
   | (with_reducible exact LeO.none _)
   | (with_reducible refine LeO.ite ?_ ?_)
   | (with_reducible refine LeO.bind ?_ (fun _ => ?_))
   | exact ih0 _ _ _ _
   | exact LeO.none _
   | refine LeO.ite ?_ ?_
   | refine LeO.bind ?_ (fun _ => ?_)
theorem vec_SumP.mono : ∀ a0 k, LeO (vec_SumP.f k a0) (vec_SumP.f (k + 1) a0) := by
 intro a0 k
 have ih0 := vec_SumP.mono_l k
 unfold vec_SumP.f
 repeat' first
   | (with_reducible exact ih0 _ _ _ _)
   | (with_reducible exact LeO.refl _)
   | (with_reducible exact LeO.none _)
   | (with_reducible refine LeO.ite ?_ ?_)
   | (with_reducible refine LeO.bind ?_ (fun _ => ?_))
   | exact ih0 _ _ _ _
   | exact LeO.none _
   | refine LeO.ite ?_ ?_
   | refine LeO.bind ?_ (fun _ => ?_)
set_option maxHeartbeats 8000000 in
set_option maxRecDepth 100000 in
theorem vec_SumP.calls (k : Nat) (A0 : Option Addr) (c0 : Nat) (l0 : List (List Int)) (r1 : List Int) (r2 : Int) (w : World) (hr0 : Kd.C (Kd.slice 2 (Kd.int .i64)) w A0 l0.length l0) (hc0 : l0.length ≤ c0) (h : vec_SumP.f k l0 = some (r1, r2)) :
  Calls Try.prog 123 #[.slice A0 l0.length c0] w fun e w' => ∃ v0_ : Value, e = .returned (.tuple #[v0_, .int .i64 r2]) ∧ Kd.R (Kd.int .i64) 2 w' w.heap.size (fun _ => True) v0_ r1 ∧ Below w.heap.size w w' := by
 have HR0 := Aside0.mk hr0
 have HC0 := Aside0.mk hc0
 clear hr0 hc0
 have HB := Aside0.mk (Below.refl w.heap.size w)
 have H : (vec_SumP.l0 k ([] : List Int) l0 (l0.length : Int) 0) = some (r1, r2) := h
 clear h
 have H' := Aside0.mk H
 clear H
 go_enter Try.func123, Try.ntmps123
 go_wp2
 go_loopg [2, 8] k (fun kq v2 v8 w' => ∃ (x2_1 : List Int) (x8_1 : Int), v8 = .int .i64 x8_1 ∧ Aside0 (vec_SumP.l0 kq x2_1 l0 (l0.length : Int) x8_1 = some (r1, r2)) ∧ Aside0 (kq ≤ k) ∧ Aside0 (Kd.R (Kd.int .i64) 2 w' w.heap.size (fun _ => True) v2 x2_1) ∧ Aside0 (Below w.heap.size w w'))
 case atStart => exact ⟨(([] : List Int)), (0), (by first | rfl | (simp; done) | (simp [*]; done)), H', ⟨Nat.le_refl _⟩, ⟨by first | exact Kd.R_nil _ _ _ _ _ | exact Kd.N_nil _ _ _ _ _ | exact Kd.V_nil _ _ _ _ _ | exact Kd.Q_nil _ _ _ _ _ | exact Kd.S_nil _ _ _ _ _⟩, ⟨by repeat (first | (with_reducible first | exact HB.out | apply zzA | apply zzN | apply zzD) | exact HB.out)⟩⟩
 case round =>
  clear H'
  try clear c1
  obtain ⟨x2_1, x8_1, rfl, HA, HK1, HO_2, HB⟩ := hrel
  cases gk with
  | zero => exact absurd HA.out (by simp [vec_SumP.l0])
  | succ k1 =>
   have H := HA.out
   clear HA
   simp only [vec_SumP.l0] at H
   by_cases c2 : x8_1 < (l0.length : Int)
   ·
    rw [if_pos c2] at H
    have c2b0 : decide (x8_1 < (l0.length : Int)) = true := decide_eq_true c2
    clear c2
    by_cases c3 : 0 ≤ x8_1
    ·
     rw [if_pos c3] at H
     have c3b0 : decide (0 ≤ x8_1) = true := decide_eq_true c3
     clear c3
     by_cases c4 : x8_1 < (l0.length : Int)
     ·
      rw [if_pos c4] at H
      have c4b0 : decide (x8_1 < (l0.length : Int)) = true := decide_eq_true c4
      clear c4
      by_cases c5 : x8_1 = 0
      ·
       rw [if_pos c5] at H
       have c5b0 : (x8_1 == 0) = true := beq_iff_eq.mpr c5
       have c5b1 : (x8_1 != 0) = false := bne_eq_false_iff_eq.mpr c5
       clear c5
       replace H := Option.bind_eq_some_iff.mp H
       obtain ⟨t122, A60, H⟩ := H
       replace H : ((vec_Check.f (rd_L1 l0 x8_1)).bind fun t125 => (if t125 = 0 then (vec_SumP.l0 k1 t122 l0 (l0.length : Int) (wrap64 (x8_1 + 1))) else (some (([] : List Int), t125)))) = some (r1, r2) := H
       have A6 := Aside0.mk A60
       clear A60
       replace H := Option.bind_eq_some_iff.mp H
       obtain ⟨t125, A70, H⟩ := H
       replace H : (if t125 = 0 then (vec_SumP.l0 k1 t122 l0 (l0.length : Int) (wrap64 (x8_1 + 1))) else (some (([] : List Int), t125))) = some (r1, r2) := H
       have A7 := Aside0.mk A70
       clear A70
       by_cases c8 : t125 = 0
       ·
        rw [if_pos c8] at H
        have c8b0 : (t125 == 0) = true := beq_iff_eq.mpr c8
        have c8b1 : (t125 != 0) = false := bne_eq_false_iff_eq.mpr c8
        clear c8
        have H' := Aside0.mk H
        clear H
        have p121 : 0 ≤ (x8_1 : Int) := of_decide_eq_true (by first | (with_reducible assumption) | assumption)
        have q121 : x8_1 < (l0.length : Int) := of_decide_eq_true (by first | (with_reducible assumption) | assumption)
        obtain ⟨ad121, A121_0, c121_0, e121, hx121_0, hl121_0, hi121_0⟩ := at_L1 HR0.out x8_1 p121 q121
        cases e121
        replace hx121_0 := (HB.out.cell (World.block_lt_of_cell? w _ hx121_0)).trans hx121_0
        have HR121_0 := Aside0.mk hi121_0
        have HC121_0 := Aside0.mk hl121_0
        clear hi121_0 hl121_0
        replace p121 := eq_true p121
        replace q121 := eq_true q121
        go_wp2_with (first | ((with_reducible refine gate_callee (f := 103) rfl ?_); refine goesL_ (some 16) rfl rfl Try.func103 (by kernel_rfl) rfl #[.slice A121_0 (rd_L1 l0 x8_1).length c121_0] rfl (by (try simp only [List.map_toArray, List.map_cons, List.map_nil]); first | done | rfl | (simp only [List.length_drop, List.length_take]; rfl)) ?_; (with_reducible refine (slices_Clone_int64_int64.calls _ _ (rd_L1 l0 x8_1) t122 _ ?side1 ?side2 A6.out).mono ?_); (case side1 => repeat (first | exact (Kd.C_below HR121_0.out HB.out) | (with_reducible refine ccA ?_ _) | (with_reducible refine ccN ?_ _) | (with_reducible refine ccD ?_))); (case side2 => exact HC121_0.out); rintro e w9 ⟨v123, rfl, ho0, hb⟩; refine ⟨_, rfl, ?_⟩; have n0_ := Aside0.mk (Kd.R_elder' (by (with_reducible repeat (first | apply rrA | apply rrN | apply rrD)); exact HO_2.out) (Kd.R_base ho0) hb); have n1_ := Aside0.mk (Kd.R_lower (Kd.R_new' ho0 (Kd.R_lt (by (with_reducible repeat (first | apply rrA | apply rrN | apply rrD)); exact HO_2.out))) (zzS (by repeat (first | (with_reducible first | exact HB.out | apply zzA | apply zzN | apply zzD) | exact HB.out)))); have n2_ := Aside0.mk (zzT (by repeat (first | (with_reducible first | exact HB.out | apply zzA | apply zzN | apply zzD) | exact HB.out)) hb); clear HO_2; clear HB; have HO_2 := n0_; have HO124 := n1_; have HB := n2_; clear n0_ n1_ n2_; (try clear hb); (try clear hb2); (try clear hk); (try clear hi); (try clear ho0)) | ((with_reducible refine gate_callee (f := 110) rfl ?_); refine goesL_ (some 18) rfl rfl Try.func110 (by kernel_rfl) rfl #[.slice A121_0 (rd_L1 l0 x8_1).length c121_0] rfl (by (try simp only [List.map_toArray, List.map_cons, List.map_nil]); first | done | rfl | (simp only [List.length_drop, List.length_take]; rfl)) ?_; (with_reducible refine (vec_Check.calls _ _ (rd_L1 l0 x8_1) t125 _ ?side1 ?side2 A7.out).mono ?_); (case side1 => repeat (first | exact (Kd.C_below HR121_0.out HB.out) | (with_reducible refine ccA ?_ _) | (with_reducible refine ccN ?_ _) | (with_reducible refine ccD ?_))); (case side2 => exact HC121_0.out); rintro e w' ⟨rfl, ⟨nd, rfl⟩⟩; refine ⟨_, rfl, ?_⟩))
        go_roundg k1
        case measure => have := HK1.out; omega
        case rel => exact ⟨(t122), (wrap64 (x8_1 + 1)), (by first | rfl | (simp; done) | (simp [*]; done)), H', ⟨by have := HK1.out; omega⟩, ⟨by (with_reducible repeat (first | apply rrA | apply rrN | apply rrD)); exact Kd.R_mono HO124.out (fun _ hk => trivial)⟩, ⟨by repeat (first | (with_reducible first | exact HB.out | apply zzA | apply zzN | apply zzD) | exact HB.out)⟩⟩
       ·
        rw [if_neg c8] at H
        have c8b0 : (t125 == 0) = false := beq_eq_false_iff_ne.mpr c8
        have c8b1 : (t125 != 0) = true := bne_iff_ne.mpr c8
        simp only [Option.some.injEq, Prod.mk.injEq] at H
        obtain ⟨rfl, rfl⟩ := H
        have p121 : 0 ≤ (x8_1 : Int) := of_decide_eq_true (by first | (with_reducible assumption) | assumption)
        have q121 : x8_1 < (l0.length : Int) := of_decide_eq_true (by first | (with_reducible assumption) | assumption)
        obtain ⟨ad121, A121_0, c121_0, e121, hx121_0, hl121_0, hi121_0⟩ := at_L1 HR0.out x8_1 p121 q121
        cases e121
        replace hx121_0 := (HB.out.cell (World.block_lt_of_cell? w _ hx121_0)).trans hx121_0
        have HR121_0 := Aside0.mk hi121_0
        have HC121_0 := Aside0.mk hl121_0
        clear hi121_0 hl121_0
        replace p121 := eq_true p121
        replace q121 := eq_true q121
        go_wp2_with (first | ((with_reducible refine gate_callee (f := 103) rfl ?_); refine goesL_ (some 16) rfl rfl Try.func103 (by kernel_rfl) rfl #[.slice A121_0 (rd_L1 l0 x8_1).length c121_0] rfl (by (try simp only [List.map_toArray, List.map_cons, List.map_nil]); first | done | rfl | (simp only [List.length_drop, List.length_take]; rfl)) ?_; (with_reducible refine (slices_Clone_int64_int64.calls _ _ (rd_L1 l0 x8_1) t122 _ ?side1 ?side2 A6.out).mono ?_); (case side1 => repeat (first | exact (Kd.C_below HR121_0.out HB.out) | (with_reducible refine ccA ?_ _) | (with_reducible refine ccN ?_ _) | (with_reducible refine ccD ?_))); (case side2 => exact HC121_0.out); rintro e w10 ⟨v123, rfl, ho0, hb⟩; refine ⟨_, rfl, ?_⟩; have n0_ := Aside0.mk (Kd.R_elder' (by (with_reducible repeat (first | apply rrA | apply rrN | apply rrD)); exact HO_2.out) (Kd.R_base ho0) hb); have n1_ := Aside0.mk (Kd.R_lower (Kd.R_new' ho0 (Kd.R_lt (by (with_reducible repeat (first | apply rrA | apply rrN | apply rrD)); exact HO_2.out))) (zzS (by repeat (first | (with_reducible first | exact HB.out | apply zzA | apply zzN | apply zzD) | exact HB.out)))); have n2_ := Aside0.mk (zzT (by repeat (first | (with_reducible first | exact HB.out | apply zzA | apply zzN | apply zzD) | exact HB.out)) hb); clear HO_2; clear HB; have HO_2 := n0_; have HO124 := n1_; have HB := n2_; clear n0_ n1_ n2_; (try clear hb); (try clear hb2); (try clear hk); (try clear hi); (try clear ho0)) | ((with_reducible refine gate_callee (f := 110) rfl ?_); refine goesL_ (some 18) rfl rfl Try.func110 (by kernel_rfl) rfl #[.slice A121_0 (rd_L1 l0 x8_1).length c121_0] rfl (by (try simp only [List.map_toArray, List.map_cons, List.map_nil]); first | done | rfl | (simp only [List.length_drop, List.length_take]; rfl)) ?_; (with_reducible refine (vec_Check.calls _ _ (rd_L1 l0 x8_1) t125 _ ?side1 ?side2 A7.out).mono ?_); (case side1 => repeat (first | exact (Kd.C_below HR121_0.out HB.out) | (with_reducible refine ccA ?_ _) | (with_reducible refine ccN ?_ _) | (with_reducible refine ccD ?_))); (case side2 => exact HC121_0.out); rintro e w' ⟨rfl, ⟨nd, rfl⟩⟩; refine ⟨_, rfl, ?_⟩))
        go_ret2
        exact ⟨_, by first | rfl | (simp [errW_none, errW_some] <;> rfl) | (simp [*, errW_none, errW_some] <;> rfl), by first | exact Kd.R_nil _ _ _ _ _ | exact Kd.N_nil _ _ _ _ _ | exact Kd.V_nil _ _ _ _ _ | exact Kd.Q_nil _ _ _ _ _ | exact Kd.S_nil _ _ _ _ _, by repeat (first | (with_reducible first | exact HB.out | apply zzA | apply zzN | apply zzD) | exact HB.out)⟩
      ·
       rw [if_neg c5] at H
       have c5b0 : (x8_1 == 0) = false := beq_eq_false_iff_ne.mpr c5
       have c5b1 : (x8_1 != 0) = true := bne_iff_ne.mpr c5
       replace H := Option.bind_eq_some_iff.mp H
       obtain ⟨⟨t126, t127⟩, A110, H⟩ := H
       replace H : (if t127 = 0 then (vec_SumP.l0 k1 t126 l0 (l0.length : Int) (wrap64 (x8_1 + 1))) else (some (([] : List Int), t127))) = some (r1, r2) := H
       have A11 := Aside0.mk A110
       clear A110
       by_cases c12 : t127 = 0
       ·
        rw [if_pos c12] at H
        have c12b0 : (t127 == 0) = true := beq_iff_eq.mpr c12
        have c12b1 : (t127 != 0) = false := bne_eq_false_iff_eq.mpr c12
        clear c12
        have H' := Aside0.mk H
        clear H
        have p121 : 0 ≤ (x8_1 : Int) := of_decide_eq_true (by first | (with_reducible assumption) | assumption)
        have q121 : x8_1 < (l0.length : Int) := of_decide_eq_true (by first | (with_reducible assumption) | assumption)
        obtain ⟨ad121, A121_0, c121_0, e121, hx121_0, hl121_0, hi121_0⟩ := at_L1 HR0.out x8_1 p121 q121
        cases e121
        replace hx121_0 := (HB.out.cell (World.block_lt_of_cell? w _ hx121_0)).trans hx121_0
        have HR121_0 := Aside0.mk hi121_0
        have HC121_0 := Aside0.mk hl121_0
        clear hi121_0 hl121_0
        replace p121 := eq_true p121
        replace q121 := eq_true q121
        obtain ⟨Ao13, co13, eo13⟩ := Kd.R_slice HO_2.out
        subst eo13
        go_wp2_with (first | ((with_reducible refine gate_callee (f := 163) rfl ?_); refine goesL_ (some 22) rfl rfl Try.func163 (by kernel_rfl) rfl #[.slice Ao13 x2_1.length co13, .slice A121_0 (rd_L1 l0 x8_1).length c121_0] rfl (by (try simp only [List.map_toArray, List.map_cons, List.map_nil]); first | done | rfl | (simp only [List.length_drop, List.length_take]; rfl)) ?_; (with_reducible refine (vec_Add.calls _ _ x2_1 _ _ (rd_L1 l0 x8_1) t126 t127 _ ?side1 ?side2 ?side3 ?side4 A11.out).mono ?_); (case side1 => repeat (first | exact (Kd.R_reads' HO_2.out).2.2 | (with_reducible refine ccA ?_ _) | (with_reducible refine ccN ?_ _) | (with_reducible refine ccD ?_))); (case side2 => exact (Kd.R_reads' HO_2.out).2.1); (case side3 => repeat (first | exact (Kd.C_below HR121_0.out HB.out) | (with_reducible refine ccA ?_ _) | (with_reducible refine ccN ?_ _) | (with_reducible refine ccD ?_))); (case side4 => exact HC121_0.out); rintro e w14 ⟨v128, rfl, ho0, hb⟩; refine ⟨_, rfl, ?_⟩; have n0_ := Aside0.mk (Kd.R_elder' (by (with_reducible repeat (first | apply rrA | apply rrN | apply rrD)); exact HO_2.out) (Kd.R_base ho0) hb); have n1_ := Aside0.mk (Kd.R_lower (Kd.R_new' ho0 (Kd.R_lt (by (with_reducible repeat (first | apply rrA | apply rrN | apply rrD)); exact HO_2.out))) (zzS (by repeat (first | (with_reducible first | exact HB.out | apply zzA | apply zzN | apply zzD) | exact HB.out)))); have n2_ := Aside0.mk (zzT (by repeat (first | (with_reducible first | exact HB.out | apply zzA | apply zzN | apply zzD) | exact HB.out)) hb); clear HO_2; clear HB; have HO_2 := n0_; have HO129 := n1_; have HB := n2_; clear n0_ n1_ n2_; (try clear hb); (try clear hb2); (try clear hk); (try clear hi); (try clear ho0)))
        go_roundg k1
        case measure => have := HK1.out; omega
        case rel => exact ⟨(t126), (wrap64 (x8_1 + 1)), (by first | rfl | (simp; done) | (simp [*]; done)), H', ⟨by have := HK1.out; omega⟩, ⟨by (with_reducible repeat (first | apply rrA | apply rrN | apply rrD)); exact Kd.R_mono HO129.out (fun _ hk => trivial)⟩, ⟨by repeat (first | (with_reducible first | exact HB.out | apply zzA | apply zzN | apply zzD) | exact HB.out)⟩⟩
       ·
        rw [if_neg c12] at H
        have c12b0 : (t127 == 0) = false := beq_eq_false_iff_ne.mpr c12
        have c12b1 : (t127 != 0) = true := bne_iff_ne.mpr c12
        simp only [Option.some.injEq, Prod.mk.injEq] at H
        obtain ⟨rfl, rfl⟩ := H
        have p121 : 0 ≤ (x8_1 : Int) := of_decide_eq_true (by first | (with_reducible assumption) | assumption)
        have q121 : x8_1 < (l0.length : Int) := of_decide_eq_true (by first | (with_reducible assumption) | assumption)
        obtain ⟨ad121, A121_0, c121_0, e121, hx121_0, hl121_0, hi121_0⟩ := at_L1 HR0.out x8_1 p121 q121
        cases e121
        replace hx121_0 := (HB.out.cell (World.block_lt_of_cell? w _ hx121_0)).trans hx121_0
        have HR121_0 := Aside0.mk hi121_0
        have HC121_0 := Aside0.mk hl121_0
        clear hi121_0 hl121_0
        replace p121 := eq_true p121
        replace q121 := eq_true q121
        obtain ⟨Ao15, co15, eo15⟩ := Kd.R_slice HO_2.out
        subst eo15
        go_wp2_with (first | ((with_reducible refine gate_callee (f := 163) rfl ?_); refine goesL_ (some 22) rfl rfl Try.func163 (by kernel_rfl) rfl #[.slice Ao15 x2_1.length co15, .slice A121_0 (rd_L1 l0 x8_1).length c121_0] rfl (by (try simp only [List.map_toArray, List.map_cons, List.map_nil]); first | done | rfl | (simp only [List.length_drop, List.length_take]; rfl)) ?_; (with_reducible refine (vec_Add.calls _ _ x2_1 _ _ (rd_L1 l0 x8_1) t126 t127 _ ?side1 ?side2 ?side3 ?side4 A11.out).mono ?_); (case side1 => repeat (first | exact (Kd.R_reads' HO_2.out).2.2 | (with_reducible refine ccA ?_ _) | (with_reducible refine ccN ?_ _) | (with_reducible refine ccD ?_))); (case side2 => exact (Kd.R_reads' HO_2.out).2.1); (case side3 => repeat (first | exact (Kd.C_below HR121_0.out HB.out) | (with_reducible refine ccA ?_ _) | (with_reducible refine ccN ?_ _) | (with_reducible refine ccD ?_))); (case side4 => exact HC121_0.out); rintro e w16 ⟨v128, rfl, ho0, hb⟩; refine ⟨_, rfl, ?_⟩; have n0_ := Aside0.mk (Kd.R_elder' (by (with_reducible repeat (first | apply rrA | apply rrN | apply rrD)); exact HO_2.out) (Kd.R_base ho0) hb); have n1_ := Aside0.mk (Kd.R_lower (Kd.R_new' ho0 (Kd.R_lt (by (with_reducible repeat (first | apply rrA | apply rrN | apply rrD)); exact HO_2.out))) (zzS (by repeat (first | (with_reducible first | exact HB.out | apply zzA | apply zzN | apply zzD) | exact HB.out)))); have n2_ := Aside0.mk (zzT (by repeat (first | (with_reducible first | exact HB.out | apply zzA | apply zzN | apply zzD) | exact HB.out)) hb); clear HO_2; clear HB; have HO_2 := n0_; have HO129 := n1_; have HB := n2_; clear n0_ n1_ n2_; (try clear hb); (try clear hb2); (try clear hk); (try clear hi); (try clear ho0)))
        go_ret2
        exact ⟨_, by first | rfl | (simp [errW_none, errW_some] <;> rfl) | (simp [*, errW_none, errW_some] <;> rfl), by first | exact Kd.R_nil _ _ _ _ _ | exact Kd.N_nil _ _ _ _ _ | exact Kd.V_nil _ _ _ _ _ | exact Kd.Q_nil _ _ _ _ _ | exact Kd.S_nil _ _ _ _ _, by repeat (first | (with_reducible first | exact HB.out | apply zzA | apply zzN | apply zzD) | exact HB.out)⟩
     ·
      rw [if_neg c4] at H
      exact absurd H (by simp)
    ·
     rw [if_neg c3] at H
     exact absurd H (by simp)
   ·
    rw [if_neg c2] at H
    have c2b0 : decide (x8_1 < (l0.length : Int)) = false := decide_eq_false c2
    clear c2
    simp only [Option.some.injEq, Prod.mk.injEq] at H
    obtain ⟨rfl, rfl⟩ := H
    go_wp2
    go_ret2
    exact ⟨_, by first | rfl | (simp [errW_none, errW_some] <;> rfl) | (simp [*, errW_none, errW_some] <;> rfl), by (with_reducible repeat (first | apply rrA | apply rrN | apply rrD)); exact HO_2.out, by repeat (first | (with_reducible first | exact HB.out | apply zzA | apply zzN | apply zzD) | exact HB.out)⟩

theorem vec_SumP.loop (x0 : List (List Int)) (hv : ∀ v ∈ x0, V64 v) (hb : x0.length ≤ 9223372036854775807) : ∀ (d i : Nat) (acc : List Int), 0 < i → d + i = x0.length → V64 acc →
    vec_SumP.l0 (d + 1) acc x0 (x0.length : Int) (i : Int) = some (sumFrom (x0.drop i) acc) := by
  intro d
  induction d with
  | zero =>
    intro i acc h0 hd ha
    rw [vec_SumP.l0, if_neg (by omega), List.drop_eq_nil_of_le (by omega)]; rfl
  | succ d ih =>
    intro i acc h0 hd ha
    have hi : i < x0.length := by omega
    have e : rd_L1 x0 (i : Int) = x0[i] := by simp [rd_L1, List.getD_eq_getElem?_getD, List.getElem?_eq_getElem hi]
    rw [vec_SumP.l0, if_pos (by omega), if_pos (by omega), if_pos (by omega), if_neg (by omega), e, vec_Add.of _ _ ⟨ha, hv _ (List.getElem_mem hi)⟩, List.drop_eq_getElem_cons hi]
    simp only [Option.bind_some, sumFrom]
    by_cases c : (addV acc x0[i]).2 = 0
    · rw [if_pos c, if_pos c, wrap64_of (by unfold I64; omega), show (i : Int) + 1 = ((i + 1 : Nat) : Int) by omega]
      exact ih (i + 1) _ (by omega) (by omega) (addV_v64 _ _)
    · rw [if_neg c, if_neg c]
def vec_Sum.f (l0 : List (List Int)) : Option (List Int × Int) := if (∀ v ∈ l0, V64 v) ∧ fewV l0 = true then some (sumsV l0) else none
theorem vec_Sum.calls (A0 : Option Addr) (c0 : Nat) (l0 : List (List Int)) (r1 : List Int) (r2 : Int) (w : World) (hr0 : Kd.C (Kd.slice 2 (Kd.int .i64)) w A0 l0.length l0) (hc0 : l0.length ≤ c0) (h : vec_Sum.f l0 = some (r1, r2)) :
    Calls Try.prog 123 #[.slice A0 l0.length c0] w fun e w' => ∃ v0_ : Value, e = .returned (.tuple #[v0_, .int .i64 r2]) ∧ Kd.R (Kd.int .i64) 2 w' w.heap.size (fun _ => True) v0_ r1 ∧ Below w.heap.size w w' := by
  unfold vec_Sum.f at h
  split at h
  case isFalse => cases h
  rename_i hv
  obtain ⟨hv, hf⟩ := hv
  have hm := Kd.C_max hr0
  refine vec_SumP.calls (l0.length + 1) A0 c0 l0 r1 r2 w hr0 hc0 (Eq.trans ?_ h)
  unfold vec_SumP.f
  cases l0 with
  | nil => rw [vec_SumP.l0, if_neg (by simp)]; rfl
  | cons v l =>
    have e : rd_L1 (v :: l) 0 = v := rfl
    have hl : ((v :: l).length : Int) = (l.length : Int) + 1 := by simp
    have hv0 : v.length ≤ 5000 := by simp only [fewV, List.all_cons, Bool.and_eq_true, decide_eq_true_eq] at hf; exact hf.1
    rw [vec_SumP.l0, if_pos (by omega), if_pos (by omega), if_pos (by omega), if_pos rfl, e, slices_Clone_int64_int64.of _ (by omega), vec_Check.of]
    show _ = some (if checkE v = 0 then sumFrom l v else ([], checkE v))
    simp only [Option.bind_some]
    by_cases c : checkE v = 0
    · rw [if_pos c, if_pos c, wrap64_of (by unfold I64; omega)]
      exact vec_SumP.loop (v :: l) hv hm l.length 1 v (by omega) (by simp) (hv v (by simp))
    · rw [if_neg c, if_neg c]


/-! ### fix_sizeP: function 156 -/
def fix_sizeP.f (a0 : Int) : Option (Int) := if a0 < 0 then (some (IntKind.u64.wrap (-(IntKind.u64.wrap (a0))))) else (some (IntKind.u64.wrap (a0)))
set_option maxHeartbeats 8000000 in
set_option maxRecDepth 100000 in
theorem fix_sizeP.calls (a0 : Int) (r : Int) (w : World) (h : fix_sizeP.f a0 = some r) :
  Calls Try.prog 156 #[.int .i64 a0] w fun e w' => e = .returned (.int .u64 r) ∧ Drawn0 w w' := by
 have H : (if a0 < 0 then (some (IntKind.u64.wrap (-(IntKind.u64.wrap (a0))))) else (some (IntKind.u64.wrap (a0)))) = some r := h
 clear h
 by_cases c2 : a0 < 0
 ·
  rw [if_pos c2] at H
  have c2b0 : decide (a0 < 0) = true := decide_eq_true c2
  clear c2
  obtain rfl := Option.some.inj H
  go_enter Try.func156, Try.ntmps156
  go_wp2
  go_ret
  exact ⟨by first | rfl | (simp; done) | (simp [*]; done), by repeat (first | exact ddR _ | apply ddS)⟩
 ·
  rw [if_neg c2] at H
  have c2b0 : decide (a0 < 0) = false := decide_eq_false c2
  clear c2
  obtain rfl := Option.some.inj H
  go_enter Try.func156, Try.ntmps156
  go_wp2
  go_ret
  exact ⟨by first | rfl | (simp; done) | (simp [*]; done), by repeat (first | exact ddR _ | apply ddS)⟩

def fix_size.f (a0 : Int) : Option Int := if I64 a0 then some (a0.natAbs : Int) else none
theorem fix_size.of (a0 : Int)  (h_ : I64 a0) : fix_size.f a0 = some (a0.natAbs : Int) := if_pos h_
theorem fix_size.calls (a0 : Int) (r : Int) (w : World) (h : fix_size.f a0 = some r) :
    Calls Try.prog 156 #[.int .i64 a0] w fun e w' => e = .returned (.int .u64 r) ∧ Drawn0 w w' := by
  unfold fix_size.f at h
  split at h
  · rename_i hu
    refine fix_sizeP.calls a0 r w (Eq.trans ?_ h)
    unfold fix_sizeP.f; unfold I64 at hu; simp only [wu]
    split <;> simp only [Option.some.injEq] <;> omega
  · cases h


end Go.Proofs.Ytfbdalnjijdknaa.HL
