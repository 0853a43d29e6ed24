/-
  A great struct as a result.
-/
import Derived.Test.YtpbnakoimlmhnaaBk
namespace Go.Proofs.Ytpbnakoimlmhnaa
set_option linter.unusedVariables false
set_option linter.unusedSimpArgs false
open Go.RowKit

/-- one of two values -/
def ite2 (c : Bool) (a b : Value) : Value := bif c then a else b
theorem results_ct {P : Program} {fn : Func} {a u : Tmp} {t : TypeId} {tmps : Array Value} {w : World} {ad : Addr} {v : Value} (h : fn.results = #[.cell a t, .tmp u]) (ha : tmps.getD a undef = .pointer (some ad)) (hl : (loadVar t ad).run P w = .ok v w) : (results fn tmps).run P w = .ok (.tuple #[v, tmps.getD u undef]) w := by
  simp at ha
  simp [results, h, ha, hl, asAddr, Sem.run_bind]
theorem results_c {P : Program} {fn : Func} {a : Tmp} {t : TypeId} {tmps : Array Value} {w : World} {ad : Addr} {v : Value} (h : fn.results = #[.cell a t]) (ha : tmps.getD a undef = .pointer (some ad)) (hl : (loadVar t ad).run P w = .ok v w) : (results fn tmps).run P w = .ok v w := by
  simp at ha
  simp [results, h, ha, hl, asAddr, Sem.run_bind]
theorem loadVar_blk {P : Program} {ty t : TypeId} {d : TypeDesc} {n : Nat} {w : World} {g : Nat} {cs : Array Value} (hu : P.underlying ty = some d) (hd : (match d with | .struct _ | .array _ _ => true | _ => false) = true) (hi : (P.info? ty).map (·.size) = some n) (h : Blk w g t cs) (hn : cs.size = n) :
    (loadVar ty ⟨g, 0, none⟩).run P w = .ok (.agg cs) w := by
  have e := run_loadAt_row hu hd hi w (.pointer (some ⟨g, 0, none⟩))
  rw [loadV_blk h hn] at e
  simpa [Instr.loadAt, Instr.sureAddr, Sem.run_bind] using e
end Go.Proofs.Ytpbnakoimlmhnaa
