/- The walks' tactics that come often, each told once: a theorem whose hypothesis is proved, where it is used, by the tactics told here. -/
import Derived.Test.YtihgcjagokippaaLinear
import Derived.Test.YtihgcjagokippaaWLast
import Derived.Test.YtihgcjagokippaaWMore
namespace Go.Proofs.Ytihgcjagokippaa.Sp
open Go.RowKit Go.Proofs.YtihgcjagokippaaW.PrintWords Go.Proofs.YtihgcjagokippaaW.PrintLast Go.Proofs.YtihgcjagokippaaW.PrintMore
set_option linter.unusedVariables false
theorem Zt : (∀ {α : Type} (l : List α) (i : Nat) (a : α), l.toArray.setIfInBounds i a = (l.set i a).toArray) ∧ (∀ {α : Type} {a b : α} {l : List α}, (a :: l).set 0 b = b :: l) ∧ (∀ {α : Type} {a b : α} {l : List α} {i : Nat}, (a :: l).set (i + 1) b = a :: l.set i b) := ⟨fun l i a => List.setIfInBounds_toArray l i a, List.set_cons_zero, List.set_cons_succ⟩
theorem Zs : (∀ {α : Type} (l : List α) (i : Nat) (a : α), l.toArray.setIfInBounds i a = (l.set i a).toArray) ∧ (∀ {α : Type} {a b : α} {l : List α}, (a :: l).set 0 b = b :: l) ∧ (∀ {α : Type} {a b : α} {l : List α} {i : Nat}, (a :: l).set (i + 1) b = a :: l.set i b) ∧ (∀ n : Int, IntKind.i64.wrap n = Go.RowKit.wrap64 n) ∧ (∀ n : Int, IntKind.i32.wrap n = Go.RowKit.wrap32 n) := ⟨fun l i a => List.setIfInBounds_toArray l i a, List.set_cons_zero, List.set_cons_succ, i64_w, i32_w⟩
theorem ZM {p : Prop} (h : p) : Aside0 p := ⟨h⟩
theorem Y2f {w : World} {g : Nat} {t : TypeId} {a0 a1 : Value} (h : Aside0 (w.heap[g]? = some (.cells #[a0, a1] t (0, 0)))) : w.cell? ⟨g, 0, none⟩ = some a0 ∧ w.cell? ⟨g, 1, none⟩ = some a1 ∧ w.frozen? ⟨g, 0, none⟩ = false ∧ w.frozen? ⟨g, 1, none⟩ = false := ⟨(blk_cell h.out 0).trans rfl, (blk_cell h.out 1).trans rfl, blk_frozen h.out 0, blk_frozen h.out 1⟩
theorem Zk {p q : Prop} (a : Aside0 p) (t : p → q := by intro h_; (with_reducible repeat (first | refine kkN ?_ _ | refine kkD ?_ | refine kkA ?_ _)); exact h_) : q := t a.out
theorem Zr {p q : Prop} (a : Aside0 p) (t : p → q := by intro h_; (with_reducible repeat (first | apply rrA | apply rrN | apply rrD)); exact h_) : q := t a.out
theorem Z1 {p : Prop} (h : p := by repeat (first | (with_reducible first | exact HB.out | apply zzA | apply zzN | apply zzD) | exact HB.out)) : p := h
theorem Z2 {p : Prop} (h : p := by (try simp only [List.map_toArray, List.map_cons, List.map_nil]); first | done | rfl | (simp only [List.length_drop, List.length_take]; rfl)) : p := h
theorem Z3 {p : Prop} (h : p := by first | (with_reducible assumption) | assumption) : p := h
theorem Z4 {p : Prop} (h : p := by repeat (first | (with_reducible first | exact HB.out | apply zzA | apply zzN | apply zzD | refine below_set ?_ GE370.out) | exact HB.out)) : p := h
theorem Z5 {p : Prop} (h : p := by first | rfl | (simp; done) | (simp [*]; done)) : p := h
theorem Z6 {p : Prop} (h : p := by repeat (first | exact HR1.out | (with_reducible refine ccA ?_ _) | (with_reducible refine ccN ?_ _) | (with_reducible refine ccD ?_))) : p := h
theorem Z7 {p : Prop} (h : p := by (with_reducible repeat (first | apply Kd.V_alloc | apply Kd.V_drewN | apply Kd.V_drew)); exact HO3_0.out) : p := h
theorem Z8 {p : Prop} (h : p := by repeat (first | exact (Kd.C_below HR2.out HB.out) | (with_reducible refine ccA ?_ _) | (with_reducible refine ccN ?_ _) | (with_reducible refine ccD ?_))) : p := h
theorem Z9 {p : Prop} (h : p := by repeat (first | (with_reducible first | exact HB.out | apply zzA | apply zzN | apply zzD | refine below_set ?_ GE204.out) | exact HB.out)) : p := h
theorem Z10 {p : Prop} (h : p := by first | (go_simp; done) | (go_simp; rfl)) : p := h
theorem Z11 {p : Prop} (h : p := by (with_reducible repeat (first | apply Kd.V_alloc | apply Kd.V_drewN | apply Kd.V_drew)); exact HO1.out) : p := h
theorem Z12 {p : Prop} (h : p := by (with_reducible repeat (first | apply Kd.N_alloc | apply Kd.N_drewN | apply Kd.N_drew)); exact HO374.out) : p := h
theorem Z13 {p : Prop} (h : p := by (try simp only [List.map_toArray, List.map_cons, List.map_nil]); first | done | (rw [show (l0.take ((l1.length : Int) : Int).toNat).length = (l1.length : Int).toNat from (by rw [List.length_take]; have h_ : ((l1.length : Int) : Int) ≤ (l0.length : Int) := of_decide_eq_true Z3; omega)] <;> rfl) | rfl | (simp only [List.length_drop, List.length_take]; rfl)) : p := h
theorem Z14 {p : Prop} (h : p := by repeat (first | exact HR0.out | (with_reducible refine ccA ?_ _) | (with_reducible refine ccN ?_ _) | (with_reducible refine ccD ?_))) : p := h
theorem Z15 {p : Prop} (h : p := by repeat (first | (with_reducible first | exact HB.out | apply zzA | apply zzN | apply zzD | refine below_set ?_ GE354.out) | exact HB.out)) : p := h
theorem Z16 {p : Prop} (h : p := by repeat (first | (with_reducible first | exact HB.out | apply zzA | apply zzN | apply zzD | refine below_set ?_ GE175.out) | exact HB.out)) : p := h
theorem Z17 {p : Prop} (h : p := by repeat (first | exact HR2.out | (with_reducible refine ccA ?_ _) | (with_reducible refine ccN ?_ _) | (with_reducible refine ccD ?_))) : p := h
theorem Z18 {p : Prop} (h : p := by repeat (first | exact (Kd.C_below HR0.out HB.out) | (with_reducible refine ccA ?_ _) | (with_reducible refine ccN ?_ _) | (with_reducible refine ccD ?_))) : p := h
theorem Z19 {p : Prop} (h : p := by (with_reducible repeat (first | refine kkN ?_ _ | refine kkD ?_ | refine kkA ?_ _)); refine blk_put (cs := #[.slice A203_0 ((rd_T24 l3 x22_1).f0).length c203_0, .int .i64 0]) ?_ 1 _ rfl; (with_reducible repeat (first | refine kkN ?_ _ | refine kkD ?_ | refine kkA ?_ _)); refine blk_put (cs := #[.slice none 0 0, .int .i64 0]) ?_ 0 _ rfl; (with_reducible repeat (first | refine kkN ?_ _ | refine kkD ?_ | refine kkA ?_ _)); exact BK204.out) : p := h
theorem Z20 {p : Prop} (h : p := by (with_reducible repeat (first | apply Kd.N_alloc | apply Kd.N_drewN | apply Kd.N_drew)); exact HO413.out) : p := h
theorem Z21 {p : Prop} (h : p := by repeat (first | exact (Kd.C_below HR187_0.out HB.out) | (with_reducible refine ccA ?_ _) | (with_reducible refine ccN ?_ _) | (with_reducible refine ccD ?_))) : p := h
theorem Z22 {p : Prop} (h : p := by repeat (first | exact (Kd.C_below HR1.out HB.out) | (with_reducible refine ccA ?_ _) | (with_reducible refine ccN ?_ _) | (with_reducible refine ccD ?_))) : p := h
theorem Z23 {p : Prop} (h : p := by repeat (first | exact (Kd.V_reads' HO3_0.out).2.2 | (with_reducible refine ccA ?_ _) | (with_reducible refine ccN ?_ _) | (with_reducible refine ccD ?_))) : p := h
theorem Z24 {p : Prop} (h : p := by repeat (first | exact HR361_0.out | (with_reducible refine ccA ?_ _) | (with_reducible refine ccN ?_ _) | (with_reducible refine ccD ?_))) : p := h
theorem Z25 {p : Prop} (h : p := by repeat (first | exact HR362_0.out | (with_reducible refine ccA ?_ _) | (with_reducible refine ccN ?_ _) | (with_reducible refine ccD ?_))) : p := h
theorem Z26 {p : Prop} (h : p := by (with_reducible repeat (first | apply Kd.N_alloc | apply Kd.N_drewN | apply Kd.N_drew)); exact HO417.out) : p := h
theorem Z27 {p : Prop} (h : p := by (with_reducible repeat (first | apply Kd.S_alloc | apply Kd.S_drewN | apply Kd.S_drew)); exact HO_11.out) : p := h
theorem Z28 {p : Prop} (h : p := by repeat (first | exact (Kd.C_below HR2_0.out HB.out) | (with_reducible refine ccA ?_ _) | (with_reducible refine ccN ?_ _) | (with_reducible refine ccD ?_))) : p := h
theorem Z29 {p : Prop} (h : p := by repeat (first | (with_reducible exact HR294_0.out) | (with_reducible refine ccA ?_ _) | (with_reducible refine ccN ?_ _) | (with_reducible refine ccD ?_) | exact HR294_0.out)) : p := h
theorem Z30 {p : Prop} (h : p := by repeat (first | (with_reducible exact HR125_0.out) | (with_reducible refine ccA ?_ _) | (with_reducible refine ccN ?_ _) | (with_reducible refine ccD ?_) | exact HR125_0.out)) : p := h
theorem Z31 {p : Prop} (h : p := by repeat (first | exact (Kd.V_reads' HO1.out).2.2 | (with_reducible refine ccA ?_ _) | (with_reducible refine ccN ?_ _) | (with_reducible refine ccD ?_))) : p := h
theorem Z32 {p : Prop} (h : p := by (with_reducible repeat (first | apply Kd.N_alloc | apply Kd.N_drewN | apply Kd.N_drew)); exact HO109.out) : p := h
theorem Z33 {p : Prop} (h : p := by (with_reducible repeat (first | apply Kd.S_alloc | apply Kd.S_drewN | apply Kd.S_drew)); exact (Kd.S_mono (Kd.S_far (p := ⟨gb204, 1, none⟩) (Kd.S_far (p := ⟨gb204, 0, none⟩) (Kd.S_types HO_11.out BK204.out (by decide)) (fun _ hk => hk.2) (.slice A203_0 ((rd_T24 l3 x22_1).f0).length c203_0)) (fun _ hk => hk.2) (.int .i64 ((rd_T24 l3 x22_1).f1))) (fun _ h_ => h_.1))) : p := h
theorem Z34 {p : Prop} (h : p := by repeat (first | exact (Kd.N_reads' HO281.out).2.2 | (with_reducible refine ccA ?_ _) | (with_reducible refine ccN ?_ _) | (with_reducible refine ccD ?_))) : p := h
theorem Z35 {p : Prop} (h : p := by repeat (first | exact (Kd.N_reads' HO413.out).2.2 | (with_reducible refine ccA ?_ _) | (with_reducible refine ccN ?_ _) | (with_reducible refine ccD ?_))) : p := h
theorem Z36 {p : Prop} (h : p := by repeat (first | exact (Kd.N_reads' HO109.out).2.2 | (with_reducible refine ccA ?_ _) | (with_reducible refine ccN ?_ _) | (with_reducible refine ccD ?_))) : p := h
theorem Z37 {p : Prop} (h : p := by first | exact q121 | exact of_decide_eq_true Z3 | (have e_ := (Kd.S_reads' HO120.out).1; omega)) : p := h
theorem Z38 {p : Prop} (h : p := by obtain ⟨_, _, he, hb, _⟩ := Kd.R_form HO.out (by have := HKL.out; have := HLT.out; rw [List.length_append, List.length_drop]; omega); injection he with h1 _ _; injection h1 with h1; injection h1 with h1 _ _; show w.heap.size ≤ g; rw [h1]; exact hb) : p := h
theorem Z39 {p : Prop} (h : p := by simp only [Int.reducePow]; omega) : p := h
theorem Z40 {p : Prop} (h : p := by rw [HR_.out]; decide) : p := h
theorem Z41 {p : Prop} (h : p := by rw [List.length_append, List.length_singleton]; omega) : p := h
theorem Z42 {p : Prop} (h : p := by (with_reducible repeat (first | apply Kd.N_alloc | apply Kd.N_drewN | apply Kd.N_drew)); exact HO281.out) : p := h
theorem Z43 {p : Prop} (h : p := by (with_reducible repeat (first | apply Kd.N_alloc | apply Kd.N_drewN | apply Kd.N_drew)); exact HO240.out) : p := h
theorem Z44 {p : Prop} (h : p := by first | rfl | (simp; done) | (simp only [← hji10] <;> (first | rfl | simp)) | (simp [*]; done)) : p := h
theorem Z45 {p : Prop} (h : p := by repeat (first | exact (Kd.C_below HR283.out HB.out) | (with_reducible refine ccA ?_ _) | (with_reducible refine ccN ?_ _) | (with_reducible refine ccD ?_))) : p := h
theorem Z46 {p : Prop} (h : p := by repeat (first | exact (Kd.C_below HR111.out HB.out) | (with_reducible refine ccA ?_ _) | (with_reducible refine ccN ?_ _) | (with_reducible refine ccD ?_))) : p := h
theorem Z47 {p : Prop} (h : p := by repeat (first | exact (Kd.C_below HR0_0.out HB.out) | (with_reducible refine ccA ?_ _) | (with_reducible refine ccN ?_ _) | (with_reducible refine ccD ?_))) : p := h
theorem Z48 {p : Prop} (h : p := by repeat (first | exact (Kd.N_reads' HO374.out).2.2 | (with_reducible refine ccA ?_ _) | (with_reducible refine ccN ?_ _) | (with_reducible refine ccD ?_))) : p := h
theorem Z49 {p : Prop} (h : p := by repeat (first | exact (Kd.R_reads' HO_2.out).2.2 | (with_reducible refine ccA ?_ _) | (with_reducible refine ccN ?_ _) | (with_reducible refine ccD ?_))) : p := h
theorem Z50 {p : Prop} (h : p := by (with_reducible repeat (first | apply Kd.S_alloc | apply Kd.S_drewN | apply Kd.S_drew)); exact Kd.S_mono HO_43.out (fun _ hk => ⟨trivial, hk⟩)) : p := h
theorem Z51 {p : Prop} (h : p := by repeat (first | (with_reducible first | exact HB.out | apply zzA | apply zzN | apply zzD | refine below_set ?_ GE156.out) | exact HB.out)) : p := h
theorem Z52 {p : Prop} (h : p := by repeat (first | exact Z29 | (with_reducible refine ccA ?_ _) | (with_reducible refine ccN ?_ _) | (with_reducible refine ccD ?_))) : p := h
theorem Z53 {p : Prop} (h : p := by repeat (first | exact Z30 | (with_reducible refine ccA ?_ _) | (with_reducible refine ccN ?_ _) | (with_reducible refine ccD ?_))) : p := h
theorem Z54 {p : Prop} (h : p := by first | rfl | (simp; done) | (simp only [← hji10, ← hji12, ← hji15, ← hji17] <;> (first | rfl | simp)) | (simp [*]; done)) : p := h
theorem Z55 {p : Prop} (h : p := by (with_reducible repeat (first | apply rrA | apply rrN | apply rrD)); exact Kd.R_mono HL125_0.out (fun _ hk => ⟨hk.2, hk.1⟩)) : p := h
theorem Z56 {p : Prop} (h : p := by first | rfl | (simp; done) | (simp only [← hji10, ← hji12, ← hji15] <;> (first | rfl | simp)) | (simp [*]; done)) : p := h
end Go.Proofs.Ytihgcjagokippaa.Sp
