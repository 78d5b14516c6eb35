/- Layer 17 (model): a kind of models as a value, a map that is laid in the function, and what the functions tell, plainly. -/
import Derived.Test.YtbnfejaeekljcaaMlp
import Derived.Maps.Own
namespace Go.Proofs.Ytbnfejaeekljcaa.Sp
open Go.RowKit Go.Proofs.YtbnfejaeekljcaaW.PrintWords Go.ChangeMaps
set_option linter.unusedVariables false
/-- A kind's value: nothing, or a model under one of the three types. -/
inductive KN where
  | nil
  | of (t : Nat) (k i o h f : Int)
def mdl (k i o h f : Int) : Value := .agg #[.int .i64 k, .int .i64 i, .int .i64 o, .int .i64 h, .int .i64 f]
def knW : KN → Value
  | .nil => .nilIface
  | .of t k i o h f => .iface t (.agg #[.int .i64 k, .int .i64 i, .int .i64 o, .int .i64 h, .int .i64 f])
theorem gate_ins {P : Program} {ops : Array Oper} {rest : List Oper} {o : Oper} {a : Act} {Q : Exit → Act → World → Prop} {W : World} {t : TypeId} {m x v : Operand} (_ho : o.op = Op.insert t m x v) (h : wpList P ops Q (o :: rest) a W) : wpList P ops Q (o :: rest) a W := h
theorem gate_look {P : Program} {ops : Array Oper} {rest : List Oper} {o : Oper} {a : Act} {Q : Exit → Act → World → Prop} {W : World} {t : TypeId} {m x : Operand} {c : Bool} (_ho : o.op = Op.lookup t m x c) (h : wpList P ops Q (o :: rest) a W) : wpList P ops Q (o :: rest) a W := h
/-- An entry is laid into a map that has no such key. -/
theorem ins_lit {P : Program} {w : World} {ops : Array Oper} {rest : List Oper} {o : Oper} {a : Act} {Q : Exit → Act → World → Prop} (hg : o.guard = none) (m x v : Operand) (t : TypeId) (hop : o.op = Op.insert t m x v)
    (k e : TypeId) (ht : P.underlying t = some (.map k e)) (hk : P.underlying k = some (.int .i64)) (b : Nat) (es : Array MapEntry) (clock : Nat) (hm : a.eval m = .map (some b)) (hb : w.heap[b]? = some (.map es clock)) (n : Int) (hx : a.eval x = .int .i64 n)
    (val : Value) (hv : a.eval v = val) (hnew : Instr.findNow (.int .i64) (.int .i64 n) es.toList 0 = some none)
    (hK : ∀ w', w'.heap[b]? = some (.map (es.push { key := .int .i64 n, val := val, born := clock }) (clock + 1)) → w.grownBy w' (some b) → wpList P ops Q rest (a.put o.dst undef) w') : wpList P ops Q (o :: rest) a w := by
  refine wpList_plain hg fun K' hK' => ?_
  have hck : (Instr.checkKey false 10000 k (.int .i64 n)).run P w = .ok () w := by
    unfold Instr.checkKey
    simp [run_underlying hk]
  have hfk : (Instr.findKey k (.int .i64 n) es.toList).run P w = .ok none w := by
    unfold Instr.findKey
    simp [run_underlying hk, hnew]
  have hrun : (Instr.mapUpdate t (.map (some b)) (.int .i64 n) val).run P w = .ok () (setBlock w b (.map (es.push { key := .int .i64 n, val := val, born := clock }) (clock + 1))) := by
    simp [Instr.mapUpdate, run_underlying ht, MapKept.run_getObj_map hb, hck, hfk, MapKept.run_setObj_map _ hb, Result.andThen, setBlock]
  unfold Oper.wp
  simp [execOp, hop, hm, hx, hv, hrun, Result.andThen]
  exact hK' _ _ (hK _ (heap_setBlock_same hb _) ⟨rfl, rfl, rfl, by simp [setBlock], fun i _ hi => heap_setBlock_other hb _ (fun e => hi (by rw [e]))⟩)
/-- What stands under a key, and whether it is there. -/
theorem look_lit {P : Program} {w : World} {ops : Array Oper} {rest : List Oper} {o : Oper} {a : Act} {Q : Exit → Act → World → Prop} (hg : o.guard = none) (m x : Operand) (t : TypeId) (hop : o.op = Op.lookup t m x true)
    (k e : TypeId) (ht : P.underlying t = some (.map k e)) (hk : P.underlying k = some (.int .i64)) (hz : ∀ w, (zeroValue e).run P w = .ok .nilIface w) (b : Nat) (es : Array MapEntry) (clock : Nat) (hm : a.eval m = .map (some b)) (hb : w.heap[b]? = some (.map es clock)) (n : Int) (hx : a.eval x = .int .i64 n)
    (r : Option (Nat × Value)) (hfind : Instr.findNow (.int .i64) (.int .i64 n) es.toList 0 = some r)
    (hK : wpList P ops Q rest (a.put o.dst (.tuple #[(r.map (·.2)).getD .nilIface, .bool r.isSome])) w) : wpList P ops Q (o :: rest) a w := by
  refine wpList_plain hg fun K' hK' => ?_
  have hck : (Instr.checkKey es.isEmpty 10000 k (.int .i64 n)).run P w = .ok () w := by
    unfold Instr.checkKey
    simp [run_underlying hk]
  have hfk : (Instr.findKey k (.int .i64 n) es.toList).run P w = .ok r w := by
    unfold Instr.findKey
    simp [run_underlying hk, hfind]
  have hrun : (Instr.lookup t (.map (some b)) (.int .i64 n) true).run P w = .ok (.tuple #[(r.map (·.2)).getD .nilIface, .bool r.isSome]) w := by
    cases r with
    | none => simp [Instr.lookup, run_underlying ht, MapKept.run_getObj_map hb, hck, hfk, hz, Result.andThen]
    | some p => obtain ⟨i, v⟩ := p; simp [Instr.lookup, run_underlying ht, MapKept.run_getObj_map hb, hck, hfk, Result.andThen]
  unfold Oper.wp
  simp [execOp, hop, hm, hx, hrun, Result.andThen]
  exact hK' _ _ hK
end Go.Proofs.Ytbnfejaeekljcaa.Sp
