/- A range over the pieces of a list, and what a round may do to rows. -/
import Derived.Test.YtbnfejaeekljcaaProg
import Derived.Test.YtbnfejaeekljcaaLinear
import Derived.Test.YtbnfejaeekljcaaWWords
import Derived.Test.YtbnfejaeekljcaaWApart
import Derived.RangeFuncBox
import Derived.RangeFuncLeaves
import Derived.RangeFuncNested
import Derived.RangeFuncCalls
import Derived.Shelf.RegionOpen
import Derived.Shelf.Abstract
import Derived.WalkKit
import Derived.OwnWalkIn
import Derived.TacticsInMore
import Derived.LoopNIn
import Derived.LoopIn
import Derived.Maps.AppendAt
namespace Go.Proofs.Ytbnfejaeekljcaa.Sp
open Go.RowKit Go.Shelf Go.Proofs.YtbnfejaeekljcaaW.PrintWords
attribute [local go_sem] Oper.semAt_some
theorem fin_take {k j : Nat} (h : j < k) : (List.finRange k).take (j + 1) = (List.finRange k).take j ++ [⟨j, h⟩] := by
  rw [List.take_add_one, List.getElem?_eq_getElem (by simpa using h)]
  simp
/-- The two boxes of an iterator lie as they lay. -/
def K2 (B1 B2 : Nat) (W W' : World) : Prop := W'.cell? ⟨B1, 0, none⟩ = W.cell? ⟨B1, 0, none⟩ ∧ W'.cell? ⟨B2, 0, none⟩ = W.cell? ⟨B2, 0, none⟩
theorem K2.refl (B1 B2 : Nat) (W : World) : K2 B1 B2 W W := ⟨rfl, rfl⟩
theorem K2.trans {B1 B2 : Nat} {A B C : World} (h : K2 B1 B2 A B) (h' : K2 B1 B2 B C) : K2 B1 B2 A C := ⟨h'.1.trans h.1, h'.2.trans h.2⟩
theorem K2.drew {B1 B2 : Nat} {A B : World} (h : K2 B1 B2 A B) : K2 B1 B2 A B.drew := h
theorem K2.of {B1 B2 : Nat} {A B : World} (h1 : B.heap[B1]? = A.heap[B1]?) (h2 : B.heap[B2]? = A.heap[B2]?) : K2 B1 B2 A B := ⟨by simp only [World.cell?, h1], by simp only [World.cell?, h2]⟩
set_option maxRecDepth 100000 in
set_option maxHeartbeats 2000000 in
theorem chunk1_in (F : Fence) (n : Nat) (h7 : F.fn 91) (hro : F.round = none) (hn : 1 ≤ n) (l B1 B2 : Nat) (ad : Addr) (m k L cap : Nat) (hm : 1 ≤ m) (hL : k * m = L) (hk : L ≤ cap) (hbig : L ≤ 17592186044416)
    (J Jx : List (Fin k) → World → Prop) (hJd : ∀ s W, J s W → J s W.drew)
    (hY : ∀ pre (x : Fin k) W, J pre W → pre.length < k → YieldAt F (n - 1) Try.prog l #[.slice (some (ad.add (x.1 * m))) m m] W fun e W' =>
      (e = .returned (.bool true) ∧ J (pre ++ [x]) W' ∧ K2 B1 B2 W W') ∨ (e = .returned (.bool false) ∧ Jx (pre ++ [x]) W'))
    (W : World) (hB1 : W.cell? ⟨B1, 0, none⟩ = some (.slice (some ad) L cap)) (hB2 : W.cell? ⟨B2, 0, none⟩ = some (.int .i64 m)) (h0 : J [] W) :
    CallsIn F n Try.prog 91 #[.func (.yield l) #[] #[], .pointer (some ⟨B1, 0, none⟩), .pointer (some ⟨B2, 0, none⟩)] W fun e W' => (∃ v, e = .returned v) ∧
      ((∃ ys, ys = List.finRange k ∧ J ys W') ∨ (∃ pre, (∃ j, j ≤ k ∧ pre = (List.finRange k).take j) ∧ Jx pre W')) := by
  refine callsIn_of_wp Try.func91 rfl h7 ?_ hro
  simp only [Try.ntmps91, List.size_toArray, List.length_cons, List.length_nil, Nat.reduceAdd, Nat.reduceSub, Array.replicate_succ, Array.replicate_zero, List.push_toArray, List.append_toArray, List.nil_append, List.cons_append]
  gi_wp2
  gi_loopw [4] (fun i wr => ∃ j p : Nat, j ≤ k ∧ j * m = p ∧ i = .int .i64 p ∧ J ((List.finRange k).take j) wr ∧ K2 B1 B2 W wr)
    (fun i _ => L - (intOf i).toNat)
  case atStart => exact ⟨0, 0, Nat.zero_le _, by simp, rfl, by simpa using h0, K2.refl _ _ _⟩
  case round =>
    obtain ⟨j, p, hj, hp, rfl, hJs, hnx⟩ := hrel
    have hc1 : wr.cell? ⟨B1, 0, none⟩ = some (.slice (some ad) L cap) := hnx.1.trans hB1
    have hc2 : wr.cell? ⟨B2, 0, none⟩ = some (.int .i64 m) := hnx.2.trans hB2
    by_cases hlt : j < k
    · have hpm : p + m ≤ L := by rw [← hp, ← hL]; have := Nat.mul_le_mul_right m (show j + 1 ≤ k from hlt); rw [Nat.add_mul, Nat.one_mul] at this; exact this
      obtain ⟨fn, tmps, assign, body, hy, hR⟩ := hY _ ⟨j, hlt⟩ wr.drew (hJd _ _ hJs) (by simp; omega)
      simp only [hp] at hy
      gi_wp2
      gi_region
      all_goals gi_wp2
      all_goals refine hR.mono ?_
      all_goals rintro e W3 (⟨rfl, hJ3, hk3⟩ | ⟨rfl, hJx3⟩)
      all_goals (try have hd2 : W3.cell? ⟨B2, 0, none⟩ = some (.int .i64 m) := hk3.2.trans hc2)
      all_goals gi_wp2
      all_goals first
        | (refine bodyPost_ret (results_none rfl _ _ _) rfl ?_; exact ⟨⟨_, rfl⟩, .inr ⟨_, ⟨j + 1, hlt, (fin_take hlt).symm⟩, hJx3⟩⟩)
        | skip
      all_goals exact ⟨⟨j + 1, p + m, hlt, by rw [Nat.add_mul, Nat.one_mul, hp], by push_cast; rfl, by rw [fin_take hlt]; exact hJ3, (hnx.drew).trans hk3⟩, by simp [intOf]; omega⟩
    · obtain rfl : j = k := by omega
      obtain rfl : p = L := by omega
      gi_wp2
      go_end0
      exact ⟨⟨_, rfl⟩, .inl ⟨_, rfl, by rw [List.take_of_length_le (by simp)] at hJs; exact hJs⟩⟩
set_option maxHeartbeats 1000000 in
theorem chunk_in (F : Fence) (n : Nat) (h5 : F.fn 64) (hro : F.round = none) (A : Option Addr) (L c m : Nat) (hm : 1 ≤ m) (w : World) :
    CallsIn F n Try.prog 64 #[.slice A L c, .int .i64 m] w fun e w' => e = .returned (.func (.func 91) #[] #[.pointer (some ⟨w.heap.size, 0, none⟩), .pointer (some ⟨w.heap.size + 1, 0, none⟩)]) ∧ w' = (w.alloc (.cells #[.slice A L c] 26)).alloc (.cells #[.int .i64 m] 3) := by
  have h1 : ¬ (m : Int) < 1 := by omega
  have hu := Try.underlying22
  refine callsIn_of_wp Try.func64 rfl h5 ?_ hro
  simp only [Try.ntmps64, List.size_toArray, List.length_cons, List.length_nil, Nat.reduceAdd, Nat.reduceSub, Array.replicate_succ, Array.replicate_zero, List.push_toArray, List.append_toArray, List.nil_append, List.cons_append]
  gi_wp2
  go_ret
  exact ⟨rfl, rfl⟩
theorem chunk_stops (F : Fence) (n : Nat) (h7 : F.fn 91) (hro : F.round = none) (hn : 1 ≤ n) (B1 B2 : Nat) (ad : Addr) (m k L cap : Nat) (hm : 1 ≤ m) (hL : k * m = L) (hk : L ≤ cap) (hbig : L ≤ 17592186044416) (w : World) (hb1 : B1 < w.heap.size) (hb2 : B2 < w.heap.size)
    (hB1 : w.cell? ⟨B1, 0, none⟩ = some (.slice (some ad) L cap)) (hB2 : w.cell? ⟨B2, 0, none⟩ = some (.int .i64 m)) :
    SeqStopsK F n Try.prog 91 #[.pointer (some ⟨B1, 0, none⟩), .pointer (some ⟨B2, 0, none⟩)] (fun x : Fin k => #[.slice (some (ad.add (x.1 * m))) m m]) (K2 B1 B2) (fun ys => ys = List.finRange k) (fun pre => ∃ j, j ≤ k ∧ pre = (List.finRange k).take j) k w :=
  fun l J Jx W hW hJ _ hY h0 => chunk1_in F n h7 hro hn l B1 B2 ad m k L cap hm hL hk hbig J Jx (fun s W' hs => hJ s W' W'.drew none hs ⟨rfl, rfl, rfl, Nat.le_refl _, fun _ _ _ => rfl⟩ (fun _ e => by cases e)) hY W
    ((hW.cell (p := ⟨B1, 0, none⟩) hb1).trans hB1) ((hW.cell (p := ⟨B2, 0, none⟩) hb2).trans hB2) h0
section
open Kd
variable {F : Fence} {n : Nat} {P : Program} {o : Oper} {a : Act} {next : Act → World → Prop} {Q : Exit → Act → World → Prop}
theorem append_in {w0 W : World} (base : Nat) (s x : Operand) (t e : TypeId) (z : Value) (size bytes : Nat)
    (ho : o.op = .call { callee := .builtin .append, args := #[s, x], argTypes := #[t, t] })
    (ht : P.underlying t = some (.slice e)) (hinfo : (P.info? e).map (fun i => (i.zero, i.size, i.bytes)) = some (some z, size, bytes)) (hz : z.cells.size = size) (hs0 : 0 < size) (hb0 : 0 < bytes)
    (v : Value) (m : Nat) (xs ys : List Value) (hs : a.eval s = v) (hx : a.eval x = .slice (some ⟨W.heap.size, 0, none⟩) 1 1) (hys : ys.length = size) (h1 : ∀ u ∈ ys, u.oneCell' = true)
    (HO : W.ownsRow base e size v m xs) (HB : Below base w0 W) (hbase : base ≤ W.heap.size) (hl : (m + 1) * bytes ≤ 140737488355328)
    (h : ∀ v1 w1, w1.ownsRow base e size v1 (m + 1) (xs ++ ys) → Below base w0 w1 → W.grownBy w1 v.ownBlock → (v1.ownBlock = v.ownBlock ∨ ∃ b, v1.ownBlock = some b ∧ W.heap.size ≤ b) → next (a.put o.dst v1) w1) :
    o.wpIn F n P a (W.alloc (.cells ys.toArray e)) next Q := by
  obtain ⟨i0, hi, hzz⟩ := Option.map_eq_some_iff.1 hinfo
  simp only [Prod.mk.injEq] at hzz
  obtain ⟨hz0, hz1, hz2⟩ := hzz
  have hlen : m + 1 ≤ 140737488355328 := Nat.le_trans (Nat.le_mul_of_pos_right _ hb0) hl
  obtain ⟨v1, w1, hr, hown, hg, _, hat⟩ := run_append_own_at (P := P) (W.alloc (.cells ys.toArray e)) base t o.type e i0 z size bytes ht hi hz0 hz1 hz2 hz hs0 v m xs (HO.alloc _) ⟨W.heap.size, 0, none⟩ 1 1 ys (by rw [hys]; simp)
    (by simpa using World.news_of_block (cs := ys.toArray) (t := e) (fr := (0, 0)) (heap_alloc_new W (.cells ys.toArray e))) h1 (by simp only [maxLen]; omega) hl (by simp; omega)
  refine ⟨fun f hf => ?_, ?_⟩
  · rw [Oper.about, ho] at hf
    simp [resolve, Target.leads, Sem.run_pure] at hf
  · rw [Oper.semAt_plain F _ _ (by rw [ho]; intro c hc'; cases hc')]
    unfold execOp
    simp only [ho, resolve, invoke, builtin, Sem.run_bind, Sem.run_pure, Result.andThen_ok, List.map_toArray, List.map_cons, List.map_nil, hs, hx, hr]
    refine h v1 w1 hown ((HB.alloc hbase _).grown hg (by simp; omega) (own_base HO)) (World.grownBy.trans (World.grownBy_alloc W _ _) hg) ?_
    rcases hat with hat | hat
    · exact .inl hat
    · exact .inr ⟨_, hat, by simp⟩
theorem R_append_in {α : Type} (d : Kd α) {w0 W : World} (base : Nat) (s x : Operand) (t e : TypeId) (z : Value) (bytes : Nat)
    (ho : o.op = .call { callee := .builtin .append, args := #[s, x], argTypes := #[t, t] })
    (ht : P.underlying t = some (.slice e)) (hinfo : (P.info? e).map (fun i => (i.zero, i.size, i.bytes)) = some (some z, d.sz, bytes)) (hz : z.cells.size = d.sz) (hs0 : 0 < d.sz) (hb0 : 0 < bytes)
    (v : Value) (xs : List α) (p : α) (cs : List Value) (ok okp : Nat → Prop) (hs : a.eval s = v) (hx : a.eval x = .slice (some ⟨W.heap.size, 0, none⟩) 1 1) (hp : d.M W base okp p cs) (hokp : ∀ k, okp k → ok k ∧ some k ≠ v.ownBlock) (hfresh : ∀ k, W.heap.size ≤ k → ok k)
    (HO : d.R e W base ok v xs) (HB : Below base w0 W) (hbase : base ≤ W.heap.size) (hl : (xs.length + 1) * bytes ≤ 140737488355328)
    (h : ∀ v1 w1, d.R e w1 base ok v1 (xs ++ [p]) → Below base w0 w1 → W.grownBy w1 v.ownBlock → (v1.ownBlock = v.ownBlock ∨ ∃ b, v1.ownBlock = some b ∧ W.heap.size ≤ b) → next (a.put o.dst v1) w1) :
    o.wpIn F n P a (W.alloc (.cells cs.toArray e)) next Q := by
  obtain ⟨h0, inner, hown, hr⟩ := HO
  refine append_in base s x t e z d.sz bytes ho ht hinfo hz hs0 hb0 v xs.length inner cs hs hx (d.K_len (d.K_of_M hp)) (d.K_one (d.K_of_M hp)) hown HB hbase hl ?_
  intro v1 w1 hown1 hb1 hg1 hat1
  exact h v1 w1 (R_appended h0 hr hp hokp hfresh hown1 hg1 hat1) hb1 hg1 hat1
theorem S_append_in {α : Type} (d : Kd α) {w0 W : World} (base : Nat) (s x : Operand) (t e : TypeId) (z : Value) (bytes : Nat)
    (ho : o.op = .call { callee := .builtin .append, args := #[s, x], argTypes := #[t, t] })
    (ht : P.underlying t = some (.slice e)) (hinfo : (P.info? e).map (fun i => (i.zero, i.size, i.bytes)) = some (some z, d.sz, bytes)) (hz : z.cells.size = d.sz) (hs0 : 0 < d.sz) (hb0 : 0 < bytes)
    (v : Value) (xs : List α) (p : α) (cs : List Value) (ok okp : Nat → Prop) (hs : a.eval s = v) (hx : a.eval x = .slice (some ⟨W.heap.size, 0, none⟩) 1 1) (hp : d.M W base okp p cs) (hokp : ∀ k, okp k → ok k ∧ some k ≠ v.ownBlock) (hfresh : ∀ k, W.heap.size ≤ k → ok k)
    (HO : S d e W base (fun k => ok k ∧ ¬ okp k) v xs) (HB : Below base w0 W) (hbase : base ≤ W.heap.size) (hl : (xs.length + 1) * bytes ≤ 140737488355328)
    (h : ∀ v1 w1, S d e w1 base ok v1 (xs ++ [p]) → Below base w0 w1 → W.grownBy w1 v.ownBlock → (v1.ownBlock = v.ownBlock ∨ ∃ b, v1.ownBlock = some b ∧ W.heap.size ≤ b) → next (a.put o.dst v1) w1) :
    o.wpIn F n P a (W.alloc (.cells cs.toArray e)) next Q := by
  obtain ⟨f, hf, hR⟩ := S_tag HO xs.length okp (fun _ hk h2 => h2.2 hk)
  refine R_append_in (tag f d) base s x t e z bytes ho ht hinfo hz hs0 hb0 v xs.zipIdx (p, xs.length) cs ok okp hs hx (d.M_mono (fun k hk => ⟨hk, hf k hk⟩) hp) hokp hfresh (R_mono hR (fun _ hk => hk.1)) HB hbase (by rw [List.length_zipIdx]; exact hl) ?_
  intro v1 w1 h1 h2 h3 h4
  exact h v1 w1 ⟨f, by rw [← zip_snoc] at h1; exact h1⟩ h2 h3 h4
/-- A row that was made by itself is laid behind the rows. -/
theorem push_in {w0 W : World} (base : Nat) (s x : Operand) (ho : o.op = .call { callee := .builtin .append, args := #[s, x], argTypes := #[63, 63] }) (hP : P = Try.prog)
    (v : Value) (xs : List (List Int)) (Ao : Option Addr) (co nr : Nat) (row : List Int) (hnr : row.length = nr) (hs : a.eval s = v) (hx : a.eval x = .slice (some ⟨W.heap.size, 0, none⟩) 1 1)
    (HR : Kd.R (Kd.int .i64) 2 W base (fun _ => True) (.slice Ao nr co) row) (HS : Kd.S (Kd.slice 2 (Kd.int .i64)) 26 W base (fun k => True ∧ some k ≠ (Value.slice Ao nr co).ownBlock) v xs) (HB : Below base w0 W) (hbase : base ≤ W.heap.size) (hl : xs.length ≤ 64)
    (h : ∀ v1 w1, Kd.S (Kd.slice 2 (Kd.int .i64)) 26 w1 base (fun _ => True) v1 (xs ++ [row]) → Below base w0 w1 → W.grownBy w1 v.ownBlock → next (a.put o.dst v1) w1) :
    o.wpIn F n P a (W.alloc (.cells #[.slice Ao nr co] 26)) next Q := by
  subst hP
  subst hnr
  have hap : Kd.R (Kd.int .i64) 2 W base (fun k_ => True ∧ some k_ ≠ v.ownBlock) (.slice Ao row.length co) row := Kd.R_mono (Kd.R_apart' HR (Kd.S_typed HS) (by decide)) (fun k_ hk => ⟨trivial, hk.2⟩)
  refine S_append_in (Kd.slice 2 (Kd.int .i64)) base s x 63 26 (.slice none 0 0) 24 ho Try.underlying63 (by kernel_rfl) rfl (by decide) (by omega) v xs row [.slice Ao row.length co] (fun _ => True) (fun k_ => some k_ = (.slice Ao row.length co : Value).ownBlock) hs hx
    (Kd.M_row (Kd.R_mono (Kd.R_tight rfl hap) (fun _ h_ => h_))) (fun k_ hk_ => hap.1 k_ hk_.symm) (fun _ _ => trivial) (Kd.S_mono HS (fun k_ hk => ⟨trivial, fun e_ => hk.2 e_⟩)) HB hbase (by omega) (fun v1 w1 h1 h2 h3 _ => h v1 w1 h1 h2 h3)
end

theorem own_S (n0 t0 : Nat) {α β : Type} (d : Kd α) (e B b : Nat) (ok : Nat → Prop) (f : β → List α) : OwnFrom B (fun (s : β) W => ∃ v, Boxed W b t0 v ∧ Kd.S d e W n0 ok v (f s)) := by
  rintro s W W' row ⟨v, hb, hS⟩ hg hr
  refine ⟨v, hb.kept hg (fun e => ?_), Kd.S_mono (Kd.S_grown (Kd.S_bound hS) hg (fun k hk he => ?_)) (fun _ hk => hk.1)⟩
  · obtain ⟨_, o, ho, hc⟩ := hr _ e.symm
    rw [show W.heap[b]? = _ from hb] at ho
    cases ho
    simp [Obj.isCells] at hc
  · obtain ⟨_, _, _, q, _, cells, hcl⟩ := hk
    obtain ⟨_, o, ho, hc⟩ := hr _ he.symm
    rw [hcl] at ho
    cases ho
    simp [Obj.isCells] at hc
def rowAt (m : Nat) (l : List Int) (i : Nat) : List Int := (l.drop (i * m)).take m
end Go.Proofs.Ytbnfejaeekljcaa.Sp
