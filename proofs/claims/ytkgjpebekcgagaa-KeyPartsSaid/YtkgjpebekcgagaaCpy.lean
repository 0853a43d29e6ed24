/-
  'copy' into a row of the call's own; a new row of whatever bytes.
-/
import Derived.Test.YtkgjpebekcgagaaKd
import Derived.Lib.MakeNoZero
namespace Go.Proofs.Ytkgjpebekcgagaa
set_option linter.unusedVariables false
set_option linter.unusedSimpArgs false
open Go.RowKit

theorem bel_setRw {B g : Nat} {w0 w : World} (hb : Below B w0 w) (hBg : B ≤ g) (cs : Array Value) : Below B w0 (w.setRow g cs) :=
  ⟨hb.os, hb.tape, hb.output, by unfold World.setRow; simpa using hb.size, fun k hk => by
    unfold World.setRow
    rw [← hb.block k hk]
    simp only [Array.getElem?_modify]
    rw [if_neg (by omega)]⟩
section
variable {P : Program}
theorem wp_copy_run (w : World) {o : Oper} {a : Act} {K : Act → World → Prop} {Q : Exit → Act → World → Prop} (d s : Operand) (t t' : TypeId)
    (ho : o.op = .call { callee := .builtin .copy, args := #[d, s], argTypes := #[t, t'] }) (v u : Value) (hd : a.eval d = v) (hs : a.eval s = u) {v' : Value} {w' : World}
    (hr : (Builtin.copy_ #[t, t'] o.type #[v, u]).run P w = .ok v' w') (h : K (a.put o.dst v') w') : o.wp P a w K Q := by
  unfold Oper.wp execOp
  simp only [ho, resolve, invoke, builtin, Sem.run_bind, Sem.run_pure, Result.andThen_ok, List.map_toArray, List.map_cons, List.map_nil, hd, hs, hr]
  exact h
theorem wpList_copy_run (w : World) {ops : Array Oper} {rest : List Oper} {o : Oper} {a : Act} {Q : Exit → Act → World → Prop} (hgd : o.guard = none) (d s : Operand) (t t' : TypeId)
    (ho : o.op = .call { callee := .builtin .copy, args := #[d, s], argTypes := #[t, t'] }) (v u : Value) (hd : a.eval d = v) (hs : a.eval s = u) {v' : Value} {w' : World}
    (hr : (Builtin.copy_ #[t, t'] o.type #[v, u]).run P w = .ok v' w') (h : wpList P ops Q rest (a.put o.dst v') w') : wpList P ops Q (o :: rest) a w :=
  wpList_plain hgd fun _ hK => wp_copy_run w d s t t' ho v u hd hs hr (hK _ _ h)
/-- 'copy(dst, src)', dst in a row of the call's own -/
theorem run_copy_is {w : World} (dT sT ty elem : TypeId) {g o dLen dCap n m : Nat} {t : TypeId} {f h : Nat → Value} {b p sLen sCap : Nat}
    (hu : P.underlying dT = some (.slice elem)) (hs : (P.info? elem).map (·.size) = some 1) (hr : w.rowIs g t n f) (hm : m = Nat.min sLen dLen) (hfit : o + m ≤ n)
    (hsrc : ∀ j, j < m → w.cell? ⟨b, p + j, none⟩ = some (h j)) (h1 : ∀ j, (h j).oneCell' = true) :
    ∃ w', (Builtin.copy_ #[dT, sT] ty #[.slice (some ⟨g, o, none⟩) dLen dCap, .slice (some ⟨b, p, none⟩) sLen sCap]).run P w = .ok (.int .i64 m) w' ∧
      w'.rowIs g t n (fun j => if o ≤ j ∧ j < o + m then h (j - o) else f j) ∧ ∀ B w0, Below B w0 w → B ≤ g → Below B w0 w' := by
  obtain ⟨cur, hh, hc1, hc2⟩ := hr
  have hlen : ((List.range m).map h).length = m := by simp
  have hrun := run_copy_row P w dT sT ty elem g o dLen dCap ⟨b, p, none⟩ sLen sCap cur t ((List.range m).map h) hu hs hh (by rw [hlen, hm]) (fun j v hj => by
    have hjm : j < m := by have := (List.getElem?_eq_some_iff.1 hj).1; simpa using this
    have e : (⟨b, p, none⟩ : Addr).add j = ⟨b, p + j, none⟩ := by unfold Addr.add; split <;> simp_all
    rw [e, hsrc j hjm]
    simp [hjm] at hj
    rw [← hj]) (by rw [hlen]; omega) (fun v hv => by
    simp at hv
    obtain ⟨j, _, rfl⟩ := hv
    exact h1 j)
  rw [hlen] at hrun
  refine ⟨_, hrun, ⟨_, setRow_heap w g cur _ t _ hh, ?_, fun i hi => ?_⟩, fun B w0 hb hB => bel_setRw hb hB _⟩
  · simp
    omega
  · rw [List.getElem?_toArray, List.append_assoc, List.getElem?_append]
    simp only [List.length_take, Array.length_toList]
    have hmin : min o cur.size = o := by omega
    rw [hmin]
    by_cases a : i < o
    · rw [if_pos a, List.getElem?_take, if_pos a, Array.getElem?_toList, hc2 i hi, if_neg (by omega)]
    · rw [if_neg a, List.getElem?_append, hlen]
      by_cases c : i - o < m
      · rw [if_pos c, if_pos (by omega), List.getElem?_map, List.getElem?_range c]; rfl
      · rw [if_neg c, if_neg (by omega), List.getElem?_drop, Array.getElem?_toList, ← hc2 i hi]
        congr 1; omega
/-- .. of nothing -/
theorem run_copy_zero {w : World} (dT sT ty elem : TypeId) {A B : Option Addr} {dLen dCap sLen sCap : Nat} (hu : P.underlying dT = some (.slice elem)) (hs : (P.info? elem).map (·.size) = some 1) (hm : Nat.min sLen dLen = 0) :
    (Builtin.copy_ #[dT, sT] ty #[.slice A dLen dCap, .slice B sLen sCap]).run P w = .ok (.int .i64 0) w := by
  obtain ⟨i, hi, hi1⟩ := Option.map_eq_some_iff.1 hs
  cases A <;> cases B <;> simp [Builtin.copy_, run_underlying hu, sizeOf, typeInfo, hi, Builtin.lenOf, Builtin.firstCells, hm, loadCells, loadCellsFrom, storeCells, goInt]
end

/-- bytealg.MakeNoZero -/
theorem mkno_run (w : World) (n : Nat) (hn : n ≤ 1000000) : ∃ cap f, (callFunc 42 #[.int .i64 (n : Int)]).run Try.prog w = .ok (.value (.slice (some ⟨w.heap.size, 0, none⟩) n cap)) ((w.alloc (.cells f 5)).drewN 2) ∧ f.size = cap ∧ n ≤ cap ∧ cap ≤ maxLen := by
  obtain ⟨cs, hrun, hle, hmax⟩ := Lib.run_makeNoZero (P := Try.prog) w #[3] 22 5 Try.underlying22 n (by omega)
  refine ⟨cs.size, cs, ?_, rfl, hle, hmax (by simp [maxLen]; omega)⟩
  rw [run_callFunc_extern Try.func42 (by kernel_rfl) (by kernel_rfl) (by kernel_rfl) (e := Extern.BytealgMakeNoZero.makeNoZero #[3] #[22]) (by kernel_rfl), hrun]
  rfl
theorem rowIs_any {w : World} {c : Array Value} {t : TypeId} : (w.alloc (.cells c t)).rowIs w.heap.size t c.size (fun i => c[i]?.getD (.int .u8 0)) :=
  rowIs_of rfl rfl (fun i hi => by simp [hi])
end Go.Proofs.Ytkgjpebekcgagaa
