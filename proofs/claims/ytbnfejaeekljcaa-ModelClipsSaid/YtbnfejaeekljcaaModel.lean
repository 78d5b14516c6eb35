/- Layer 17 (model): a kind of models as a value, a map that is laid in the function, and what the functions tell, plainly. -/
import Derived.Test.YtbnfejaeekljcaaMlp
import Derived.Test.YtbnfejaeekljcaaBend
import Derived.Test.YtbnfejaeekljcaaSoft
import Derived.Maps.Own
namespace Go.Proofs.Ytbnfejaeekljcaa.Sp
open Go.RowKit Go.Proofs.YtbnfejaeekljcaaW.PrintWords Go.ChangeMaps
set_option linter.unusedVariables false
/-- A kind's value: nothing, or a model under one of the three types. -/
inductive KN where
  | nil
  | of (t : Nat) (k i o h f : Int)
def mdl (k i o h f : Int) : Value := .agg #[.int .i64 k, .int .i64 i, .int .i64 o, .int .i64 h, .int .i64 f]
def knW : KN → Value
  | .nil => .nilIface
  | .of t k i o h f => .iface t (.agg #[.int .i64 k, .int .i64 i, .int .i64 o, .int .i64 h, .int .i64 f])
theorem gate_ins {P : Program} {ops : Array Oper} {rest : List Oper} {o : Oper} {a : Act} {Q : Exit → Act → World → Prop} {W : World} {t : TypeId} {m x v : Operand} (_ho : o.op = Op.insert t m x v) (h : wpList P ops Q (o :: rest) a W) : wpList P ops Q (o :: rest) a W := h
theorem gate_look {P : Program} {ops : Array Oper} {rest : List Oper} {o : Oper} {a : Act} {Q : Exit → Act → World → Prop} {W : World} {t : TypeId} {m x : Operand} {c : Bool} (_ho : o.op = Op.lookup t m x c) (h : wpList P ops Q (o :: rest) a W) : wpList P ops Q (o :: rest) a W := h
/-- An entry is laid into a map that has no such key. -/
theorem ins_lit {P : Program} {w : World} {ops : Array Oper} {rest : List Oper} {o : Oper} {a : Act} {Q : Exit → Act → World → Prop} (hg : o.guard = none) (m x v : Operand) (t : TypeId) (hop : o.op = Op.insert t m x v)
    (k e : TypeId) (ht : P.underlying t = some (.map k e)) (hk : P.underlying k = some (.int .i64)) (b : Nat) (es : Array MapEntry) (clock : Nat) (hm : a.eval m = .map (some b)) (hb : w.heap[b]? = some (.map es clock)) (n : Int) (hx : a.eval x = .int .i64 n)
    (val : Value) (hv : a.eval v = val) (hnew : Instr.findNow (.int .i64) (.int .i64 n) es.toList 0 = some none)
    (hK : ∀ w', w'.heap[b]? = some (.map (es.push { key := .int .i64 n, val := val, born := clock }) (clock + 1)) → w.grownBy w' (some b) → wpList P ops Q rest (a.put o.dst undef) w') : wpList P ops Q (o :: rest) a w := by
  refine wpList_plain hg fun K' hK' => ?_
  have hck : (Instr.checkKey false 10000 k (.int .i64 n)).run P w = .ok () w := by
    unfold Instr.checkKey
    simp [run_underlying hk]
  have hfk : (Instr.findKey k (.int .i64 n) es.toList).run P w = .ok none w := by
    unfold Instr.findKey
    simp [run_underlying hk, hnew]
  have hrun : (Instr.mapUpdate t (.map (some b)) (.int .i64 n) val).run P w = .ok () (setBlock w b (.map (es.push { key := .int .i64 n, val := val, born := clock }) (clock + 1))) := by
    simp [Instr.mapUpdate, run_underlying ht, MapKept.run_getObj_map hb, hck, hfk, MapKept.run_setObj_map _ hb, Result.andThen, setBlock]
  unfold Oper.wp
  simp [execOp, hop, hm, hx, hv, hrun, Result.andThen]
  exact hK' _ _ (hK _ (heap_setBlock_same hb _) ⟨rfl, rfl, rfl, by simp [setBlock], fun i _ hi => heap_setBlock_other hb _ (fun e => hi (by rw [e]))⟩)
/-- What stands under a key, and whether it is there. -/
theorem look_lit {P : Program} {w : World} {ops : Array Oper} {rest : List Oper} {o : Oper} {a : Act} {Q : Exit → Act → World → Prop} (hg : o.guard = none) (m x : Operand) (t : TypeId) (hop : o.op = Op.lookup t m x true)
    (k e : TypeId) (ht : P.underlying t = some (.map k e)) (hk : P.underlying k = some (.int .i64)) (hz : ∀ w, (zeroValue e).run P w = .ok .nilIface w) (b : Nat) (es : Array MapEntry) (clock : Nat) (hm : a.eval m = .map (some b)) (hb : w.heap[b]? = some (.map es clock)) (n : Int) (hx : a.eval x = .int .i64 n)
    (r : Option (Nat × Value)) (hfind : Instr.findNow (.int .i64) (.int .i64 n) es.toList 0 = some r)
    (hK : wpList P ops Q rest (a.put o.dst (.tuple #[(r.map (·.2)).getD .nilIface, .bool r.isSome])) w) : wpList P ops Q (o :: rest) a w := by
  refine wpList_plain hg fun K' hK' => ?_
  have hck : (Instr.checkKey es.isEmpty 10000 k (.int .i64 n)).run P w = .ok () w := by
    unfold Instr.checkKey
    simp [run_underlying hk]
  have hfk : (Instr.findKey k (.int .i64 n) es.toList).run P w = .ok r w := by
    unfold Instr.findKey
    simp [run_underlying hk, hfind]
  have hrun : (Instr.lookup t (.map (some b)) (.int .i64 n) true).run P w = .ok (.tuple #[(r.map (·.2)).getD .nilIface, .bool r.isSome]) w := by
    cases r with
    | none => simp [Instr.lookup, run_underlying ht, MapKept.run_getObj_map hb, hck, hfk, hz, Result.andThen]
    | some p => obtain ⟨i, v⟩ := p; simp [Instr.lookup, run_underlying ht, MapKept.run_getObj_map hb, hck, hfk, Result.andThen]
  unfold Oper.wp
  simp [execOp, hop, hm, hx, hrun, Result.andThen]
  exact hK' _ _ hK
/-- A model may not be, by what stands beside its size. -/
def offK (k o h f : Int) : Prop := (k ≠ 0 ∧ k ≠ 1 ∧ k ≠ 2) ∨ f < 0 ∨ f > 30 ∨ (k ≠ 1 ∧ o ≠ 0) ∨ (k ≠ 2 ∧ h ≠ 0)
instance (k o h f : Int) : Decidable (offK k o h f) := by unfold offK; infer_instance
def ofK (k i o h f : Int) : KN × Int × Int := if offK k o h f then (.nil, 0, 1) else if k = 0 then (.of 86 k i o h f, dimL i) else if k = 1 then (.of 87 k i o h f, dimS i o) else (.of 88 k i o h f, dimM i h)
theorem ofK_off {k i o h f : Int} (c : offK k o h f) : ofK k i o h f = (.nil, 0, 1) := if_pos c
def fitsK (k i o h f : Int) (w : List Int) (l : List (List Int × Int)) : Int := if (ofK k i o h f).2.2 ≠ 0 then (ofK k i o h f).2.2 else if k = 0 then checkL i w l else if k = 1 then checkS i o w l else checkM i h w l
theorem ofK_good {k i o h f : Int} (c : (ofK k i o h f).2.2 = 0) : ¬ offK k o h f ∧ ((k = 0 ∧ ofK k i o h f = (.of 86 k i o h f, dimL i) ∧ (dimL i).2 = 0) ∨ (k = 1 ∧ ofK k i o h f = (.of 87 k i o h f, dimS i o) ∧ (dimS i o).2 = 0) ∨ (k = 2 ∧ ofK k i o h f = (.of 88 k i o h f, dimM i h) ∧ (dimM i h).2 = 0)) := by
  by_cases d : offK k o h f
  · rw [ofK_off d] at c; cases c
  · refine ⟨d, ?_⟩
    have hk : k = 0 ∨ k = 1 ∨ k = 2 := by unfold offK at d; omega
    unfold ofK at c ⊢
    rw [if_neg d] at c ⊢
    rcases hk with rfl | rfl | rfl
    · rw [if_pos rfl] at c ⊢; exact .inl ⟨rfl, rfl, c⟩
    · rw [if_neg (by decide), if_pos rfl] at c ⊢; exact .inr (.inl ⟨rfl, rfl, c⟩)
    · rw [if_neg (by decide), if_neg (by decide)] at c ⊢; exact .inr (.inr ⟨rfl, rfl, c⟩)
def gradK (k i o h f : Int) (w : List Int) (l : List (List Int × Int)) : List Int × Int := if fitsK k i o h f w l ≠ 0 then ([], fitsK k i o h f w l) else if k = 0 then gradL w f l else if k = 1 then gradS o w f l else gradM h w f l
def oneK (p : Int × Int) : List Int × Int := if p.2 = 0 then ([p.1], 0) else ([], p.2)
def tellK (k i o h f : Int) (w x : List Int) : List Int × Int := if (ofK k i o h f).2.2 ≠ 0 then ([], (ofK k i o h f).2.2) else if (w.length : Int) ≠ (ofK k i o h f).2.1 then ([], 4) else if k = 0 then oneK (tellL w x f) else if k = 1 then tellS o w x f else oneK (tellM h w x f)
end Go.Proofs.Ytbnfejaeekljcaa.Sp
