/-
  bytes.Clone, key.Next and the document's Next, walked.
-/
import Derived.Test.YtbmdnifkjcimcaaKc
import Derived.Test.YtbmdnifkjcimcaaOwn
import Derived.Lib.SliceRun
namespace Go.Proofs.Ytbmdnifkjcimcaa
set_option linter.unusedVariables false
set_option linter.unusedSimpArgs false
open Go.RowKit

section
variable {P : Program}
theorem wpList_append_run (w : World) {ops : Array Oper} {rest : List Oper} {o : Oper} {a : Act} {Q : Exit → Act → World → Prop} (hgd : o.guard = none) (d s : Operand) (t t' : TypeId)
    (ho : o.op = .call { callee := .builtin .append, args := #[d, s], argTypes := #[t, t'] }) (v u : Value) (hd : a.eval d = v) (hs : a.eval s = u) {v' : Value} {w' : World}
    (hr : (Builtin.append_ #[t, t'] o.type #[v, u]).run P w = .ok v' w') (h : wpList P ops Q rest (a.put o.dst v') w') : wpList P ops Q (o :: rest) a w :=
  wpList_plain hgd fun K hK => by
    unfold Oper.wp execOp
    simp only [ho, resolve, invoke, builtin, Sem.run_bind, Sem.run_pure, Result.andThen_ok, List.map_toArray, List.map_cons, List.map_nil, hd, hs, hr]
    exact hK _ _ h
theorem run_append_zero (W : World) (t ty e : TypeId) (hi5 : (P.info? e).map (fun i => (i.zero, i.size, i.bytes)) = some (some (Value.int IntKind.u8 0), 1, 1)) (ht : P.underlying t = some (.slice e)) (b0 : Addr) (p : Option Addr) (c : Nat) :
    (Builtin.append_ #[t, t] ty #[.slice (some b0) 0 0, .slice p 0 c]).run P W = .ok (.slice (some b0) 0 0) W := by
  obtain ⟨i, hi, _⟩ := Option.map_eq_some_iff.1 hi5
  cases p <;> simp [Builtin.append_, run_underlying ht, sizeOf, typeInfo, hi, Builtin.lenOf, Builtin.firstCells, loadCells, loadCellsFrom, storeCells]
end
theorem eqnil_u8 : ∀ (w : World) (a : Option Addr) (n c n' c' : Nat), (binOp .eql 29 (.slice a n c) (.slice none n' c')).run Try.prog w = .ok (.bool a.isNone) w := fun w a n c n' c' => Lib.run_eql_slice_nil w _ _ a n c n' c' Try.underlying29

end Go.Proofs.Ytbmdnifkjcimcaa
