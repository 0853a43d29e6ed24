/-
  A region that draws its order, met by hand: reads are taken first (while a condition S on the world holds), what makes memory comes up one at a time, the tail goes in its one order.
-/
import Derived.Test.YtbmdnifkjcimcaaLate
namespace Go.Proofs.Ytbmdnifkjcimcaa
set_option linter.unusedVariables false
set_option linter.unusedSimpArgs false
open Go.RowKit

section
variable {P : Program} {ops : Array Oper} {md : Region.Mode} {S : World → Prop} {Q : Exit → Act → World → Prop}

def closedB (md : Region.Mode) (ops : Array Oper) (listed : Array Bool) : Bool :=
  (List.range ops.size).all fun j => !(listed.getD j false) || (match ops[j]? with | some oj => oj.after.all fun e => !(Region.binds md e) || listed.getD e.on false | none => true)
theorem closedB_spec {listed : Array Bool} (h : closedB md ops listed = true) : ClosedL md ops listed := by
  intro j oj hj hl e he hb
  have h1 := List.all_eq_true.1 h j (List.mem_range.2 (Array.getElem?_eq_some_iff.1 hj).1)
  simp only [hl, hj, Bool.not_true, Bool.false_or] at h1
  rw [Array.all_eq_true'] at h1
  have h2 := h1 e he
  simpa [hb] using h2
def lateFor (md : Region.Mode) (ops : Array Oper) (F n i : Nat) : Bool := (List.range ops.size).all fun j => decide (j ≤ n) || reachB md ops i F j
theorem wpAnyT_take (F i : Nat) {n fuel : Nat} {oi : Oper} {v : Value} {listed : Array Bool} {a : Act} {w : World} (hi : ops[i]? = some oi) (hs : Region.noSelect ops = true) (hf : Region.free md ops listed i = true) (hr : (Region.ready md ops listed).contains i = true)
    (hl : lateFor md ops F n i = true) (hc : closedB md ops listed = true) (hQ : ∀ c a d v w, Q (.panic c) (a.put (some d) v) w → Q (.panic c) a w) (hw : Region.wanted oi (yielded ops a.tmps) = true) (hy : ∀ w, S w → (execOp a.eval oi).run P w = .ok (.value v) w) (hS : S w)
    (h : wpAnyT P md ops Q S n fuel (listed.setIfInBounds i true) (a.put oi.dst v) w) : wpAnyT P md ops Q S n (fuel + 1) listed a w :=
  wpAnyT_first (F := F) hi (Region.noSelect_spec hs) (fun c a w hp => (by
      cases hd : oi.dst with
      | none => rw [hd] at hp; exact hp
      | some d => rw [hd] at hp; exact hQ c a d v w hp)) (fun j h1 h2 => by
    have h3 := List.all_eq_true.1 hl j (List.mem_range.2 h2)
    rw [Bool.or_eq_true, decide_eq_true_eq] at h3
    rcases h3 with h3 | h3
    · omega
    · exact h3) fuel listed a w (closedB_spec hc) (Region.free_spec hi hf) (by simpa using hr) (Or.inl ⟨hw, hy⟩) hS h
/-- what stands behind an operation that comes up -/
def Behind (P : Program) (md : Region.Mode) (ops : Array Oper) (Q : Exit → Act → World → Prop) (S : World → Prop) (n fuel i : Nat) (listed : Array Bool) (K : Act → World → Prop) : Prop :=
  ∀ a' w', (i ≤ n → S w') → wpAnyT P md ops Q S n fuel (listed.setIfInBounds i true) a' w' → K a' w'
theorem wpAnyT_op {n fuel i : Nat} {o : Oper} {listed : Array Bool} {a : Act} {w : World} (ho : ops[i]? = some o) (hw : Region.wanted o (yielded ops a.tmps) = true) (h : ∀ K : Act → World → Prop, Hid (Behind P md ops Q S n fuel i listed K) → Oper.wp P o a w K Q) :
    wpOp P ops Q i (fun a' w' => (i ≤ n → S w') ∧ wpAnyT P md ops Q S n fuel (listed.setIfInBounds i true) a' w') a w := by
  unfold wpOp
  simp only [ho, hw, if_true]
  exact Or.inl (h _ (Lib.hid (fun a' w' h1 h2 => ⟨h1, h2⟩)))
theorem wpAnyT_one (i : Nat) {n fuel : Nat} {o : Oper} {listed : Array Bool} {a : Act} {w : World} (hr : Region.ready md ops listed = [i]) (ho : ops[i]? = some o) (hw : Region.wanted o (yielded ops a.tmps) = true)
    (h : ∀ K : Act → World → Prop, Hid (Behind P md ops Q S n fuel i listed K) → Oper.wp P o a w K Q) : wpAnyT P md ops Q S n (fuel + 1) listed a w :=
  ⟨fun e => (by rw [hr] at e; cases e), fun j hj => by
    rw [hr] at hj
    obtain rfl : j = i := by simpa using hj
    exact wpAnyT_op ho hw h⟩
theorem wpAnyT_two (i k : Nat) {n fuel : Nat} {o p : Oper} {listed : Array Bool} {a : Act} {w : World} (hr : Region.ready md ops listed = [i, k]) (ho : ops[i]? = some o) (hp : ops[k]? = some p) (hw : Region.wanted o (yielded ops a.tmps) = true) (hx : Region.wanted p (yielded ops a.tmps) = true)
    (h : ∀ K : Act → World → Prop, Hid (Behind P md ops Q S n fuel i listed K) → Oper.wp P o a w K Q) (h2 : ∀ K : Act → World → Prop, Hid (Behind P md ops Q S n fuel k listed K) → Oper.wp P p a w K Q) : wpAnyT P md ops Q S n (fuel + 1) listed a w :=
  ⟨fun e => (by rw [hr] at e; cases e), fun j hj => by
    rw [hr] at hj
    have hj' : j = i ∨ j = k := by simpa using hj
    rcases hj' with rfl | rfl
    · exact wpAnyT_op ho hw h
    · exact wpAnyT_op hp hx h2⟩
theorem wpAnyT_tail (k : Nat) {n fuel : Nat} {l : List Oper} {listed : Array Bool} {a : Act} {w : World} (hf : fuel = l.length - k) (hd : ((List.range (n + 1)).all fun i => listed.getD i true) = true) (hB : Region.seqB md l.toArray fuel k listed = true) (h : wpList P l.toArray Q (l.drop k) a w) : wpAnyT P md l.toArray Q S n fuel listed a w := by
  subst hf
  refine wpAnyT_of _ _ _ _ (fun i hi => List.all_eq_true.1 hd i (List.mem_range.2 (by omega))) ?_
  have hdl : (l.drop k).length = l.length - k := by simp
  have := wpAny_of_seq (md := md) (P := P) (Q' := Q) (l.drop k) k listed a w (fun j => by simp [List.getElem?_drop]) (by rw [hdl]; exact hB) h
  rwa [hdl] at this
theorem wp_region_T {id : Nat} {a : Act} {w : World} {l : List Oper} (n : Nat) (hm : P.follows .mixedOrders = true) (h : wpAnyT P .any l.toArray Q S n l.toArray.size (Array.replicate l.toArray.size false) a w.drew) : (Code.region id l.toArray true).wp P Q a w :=
  wp_region_any hm (wpAny_of_T _ _ _ _ h)
end
/-- what a value's operation leaves -/
theorem wp_value {P : Program} {o : Oper} {a : Act} {w w' : World} {K : Act → World → Prop} {Q : Exit → Act → World → Prop} {v : Value} (h : (execOp a.eval o).run P w = .ok (.value v) w') (hk : K (a.put o.dst v) w') : Oper.wp P o a w K Q := by
  unfold Oper.wp
  rw [h]
  exact hk
end Go.Proofs.Ytbmdnifkjcimcaa
