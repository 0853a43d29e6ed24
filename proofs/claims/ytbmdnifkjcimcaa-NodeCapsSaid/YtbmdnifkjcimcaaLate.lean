/-
  A region that draws its order: its head only reads; then comes one operation that makes memory and may be drawn ahead of reads that it does not wait for; behind it a tail in one order, all of which waits for the whole head. One walk in the text's order serves, from any grown world on.
-/
import Derived.Test.YtbmdnifkjcimcaaTail
namespace Go.Proofs.Ytbmdnifkjcimcaa
set_option linter.unusedVariables false
set_option linter.unusedSimpArgs false
open Go.RowKit

section
variable {P : Program} {ops : Array Oper} {md : Region.Mode} {S : World → Prop} {Q : Exit → Act → World → Prop}

/-- j waits for i, directly or through others (f: how far it is looked) -/
def reachB (md : Region.Mode) (ops : Array Oper) (i : Nat) : Nat → Nat → Bool
  | 0, _ => false
  | f + 1, j => Region.waitsFor md ops j i || (List.range ops.size).any fun k => Region.waitsFor md ops j k && reachB md ops i f k
def ClosedL (md : Region.Mode) (ops : Array Oper) (listed : Array Bool) : Prop :=
  ∀ j oj, ops[j]? = some oj → listed.getD j false = true → ∀ e ∈ oj.after, Region.binds md e = true → listed.getD e.on false = true
theorem reach_listed {i : Nat} {listed : Array Bool} (hc : ClosedL md ops listed) : ∀ (f j : Nat) (oj : Oper), ops[j]? = some oj → (∀ e ∈ oj.after, Region.binds md e = true → listed.getD e.on false = true) →
    reachB md ops i f j = true → listed.getD i false = true := by
  intro f
  induction f with
  | zero => intro j oj _ _ h; cases h
  | succ f ih =>
    intro j oj hj hd h
    unfold reachB at h
    rw [Bool.or_eq_true] at h
    rcases h with h | h
    · obtain ⟨o', ho', e, he, hb, hon⟩ := Region.waitsFor_spec h
      obtain rfl : o' = oj := Option.some.inj (ho'.symm.trans hj)
      rw [← hon]; exact hd e he hb
    · obtain ⟨k, hk, h⟩ := List.any_eq_true.1 h
      rw [Bool.and_eq_true] at h
      obtain ⟨o', ho', e, he, hb, hon⟩ := Region.waitsFor_spec h.1
      obtain rfl : o' = oj := Option.some.inj (ho'.symm.trans hj)
      have hk := hd e he hb
      rw [hon] at hk
      cases hok : ops[k]? with
      | none =>
        exfalso
        have h2 := h.2
        cases f with
        | zero => cases h2
        | succ f => simp [reachB, Region.waitsFor, hok] at h2
      | some ok => exact ih k ok hok (hc k ok hok hk) h.2
theorem ClosedL.set {i : Nat} {listed : Array Bool} (inv : ClosedL md ops listed) (hi : i ∈ Region.ready md ops listed) : ClosedL md ops (listed.setIfInBounds i true) := by
  obtain ⟨_, oi, hoi, hall⟩ := mem_ready.1 hi
  intro j oj hj hl e he hb
  by_cases hij : i = j
  · subst hij
    obtain rfl : oj = oi := Option.some.inj (hj.symm.trans hoi)
    exact getD_set_true (hall e he hb)
  · rw [getD_set_ne false hij] at hl
    exact getD_set_true (inv j oj hj hl e he hb)

/-- whatever order is picked; S holds behind each operation that is not late -/
def wpAnyT (P : Program) (md : Region.Mode) (ops : Array Oper) (Q : Exit → Act → World → Prop) (S : World → Prop) (n : Nat) : Nat → Array Bool → Act → World → Prop
  | 0, listed, a, w => Region.ready md ops listed = [] ∧ Q .normal a w
  | fuel + 1, listed, a, w =>
    (Region.ready md ops listed = [] → Q .normal a w) ∧
    ∀ i ∈ Region.ready md ops listed, wpOp P ops Q i (fun a' w' => (i ≤ n → S w') ∧ wpAnyT P md ops Q S n fuel (listed.setIfInBounds i true) a' w') a w
theorem wpAny_of_T {n : Nat} : ∀ (fuel : Nat) (listed : Array Bool) (a : Act) (w : World), wpAnyT P md ops Q S n fuel listed a w → wpAny P md ops Q fuel listed a w
  | 0, _, _, _, h => h
  | fuel + 1, _, _, _, h => ⟨h.1, fun i hi => wpOp_mono (fun a' w' h' => wpAny_of_T fuel _ a' w' h'.2) (h.2 i hi)⟩
theorem wpAnyT_of {n : Nat} : ∀ (fuel : Nat) (listed : Array Bool) (a : Act) (w : World), (∀ i, i ≤ n → listed.getD i true = true) → wpAny P md ops Q fuel listed a w → wpAnyT P md ops Q S n fuel listed a w
  | 0, _, _, _, _, h => h
  | fuel + 1, listed, _, _, hl, h => ⟨h.1, fun i hi => wpOp_mono (fun a' w' h' => ⟨fun hin => (by
      have := (mem_ready.1 hi).1
      rw [hl i hin] at this
      exact absurd this (by simp)), wpAnyT_of fuel _ a' w' (fun k hk => by
        by_cases e : i = k
        · subst e
          have := (mem_ready.1 hi).1
          rw [hl i hk] at this
          cases this
        · rw [getD_set_ne true e]; exact hl k hk) h'⟩) (h.2 i hi)⟩

theorem wpAnyT_first {n F i : Nat} {oi : Oper} {v : Value} (hi : ops[i]? = some oi) (hsel : ∀ (j : Nat) (o : Oper) cs b, ops[j]? = some o → o.op ≠ .select cs b)
    (hQ : ∀ c a w, Q (.panic c) (a.put oi.dst v) w → Q (.panic c) a w) (hlate : ∀ j, n < j → j < ops.size → reachB md ops i F j = true) :
    ∀ (fuel : Nat) (listed : Array Bool) (a : Act) (w : World), ClosedL md ops listed →
      (∀ j oj, ops[j]? = some oj → j ≠ i → listed.getD j true = false → (∀ e ∈ oj.after, Region.binds md e = true → e.on ≠ i) → oi.apart ops oj = true) →
      i ∈ Region.ready md ops listed → YieldsIf P ops S oi v a → S w →
      wpAnyT P md ops Q S n fuel (listed.setIfInBounds i true) (a.put oi.dst v) w → wpAnyT P md ops Q S n (fuel + 1) listed a w := by
  intro fuel
  induction fuel with
  | zero =>
    intro listed a w _ _ hr hy hS H
    refine ⟨fun h => (by rw [h] at hr; cases hr), fun j hj => ?_⟩
    by_cases hji : j = i
    · subst hji; exact hy.wpOp hi hS ⟨fun _ => hS, H⟩
    · have := ready_mono hj hji
      rw [H.1] at this
      cases this
  | succ fuel ih =>
    intro listed a w hcl hfree hr hy hS H
    refine ⟨fun h => (by rw [h] at hr; cases hr), fun j hj => ?_⟩
    by_cases hji : j = i
    · subst hji; exact hy.wpOp hi hS ⟨fun _ => hS, H⟩
    · have h1 := H.2 j (ready_mono hj hji)
      obtain ⟨hjun, oj, hoj, hall⟩ := mem_ready.1 hj
      have hjn : j ≤ n := Nat.le_of_not_lt fun hlt => by
        have h3 := reach_listed hcl F j oj hoj hall (hlate j hlt (Array.getElem?_eq_some_iff.1 hoj).1)
        rw [getD_both (mem_ready.1 hr).1] at h3
        cases h3
      have hnot : ∀ e ∈ oj.after, Region.binds md e = true → e.on ≠ i := fun e he hb heq => by
        have h1 := hall e he hb
        rw [heq, getD_both (mem_ready.1 hr).1] at h1
        cases h1
      have h2 := wpOp_putIf hoj (hfree j oj hoj hji hjun hnot) (fun cs b => hsel i oi cs b hi) (fun cs b => hsel j oj cs b hoj) hQ hy h1
      have hfree' : ∀ k ok, ops[k]? = some ok → k ≠ i → (listed.setIfInBounds j true).getD k true = false →
          (∀ e ∈ ok.after, Region.binds md e = true → e.on ≠ i) → oi.apart ops ok = true := fun k ok hk hki hun hno => by
        refine hfree k ok hk hki ?_ hno
        by_cases hjk : j = k
        · subst hjk; exact hjun
        · rw [getD_set_ne true hjk] at hun; exact hun
      refine wpOp_mono (fun a' w' h3 => ⟨h3.2.1, ih (listed.setIfInBounds j true) a' w' (hcl.set hj) hfree' (ready_mono hr (Ne.symm hji)) h3.1 (h3.2.1 hjn) ?_⟩) h2
      rw [Array.setIfInBounds_comm _ _ hji]
      exact h3.2.2

/-- the head, in the text's order -/
def wpHead (P : Program) (ops : Array Oper) (S : World → Prop) (L : Act → Prop) : List Oper → Act → Prop
  | [], a => L a
  | o :: rest, a => ∃ v, YieldsIf P ops S o v a ∧ wpHead P ops S L rest (a.put o.dst v)
theorem wpHead_nil {L : Act → Prop} {a : Act} (h : L a) : wpHead P ops S L [] a := h
theorem wpHead_step {L : Act → Prop} {o : Oper} {rest : List Oper} {a : Act} {v : Value} (hw : Region.wanted o (yielded ops a.tmps) = true) (h : ∀ w, S w → (execOp a.eval o).run P w = .ok (.value v) w) (hk : wpHead P ops S L rest (a.put o.dst v)) : wpHead P ops S L (o :: rest) a :=
  ⟨v, Or.inl ⟨hw, h⟩, hk⟩
theorem wpHead_skip {L : Act → Prop} {o : Oper} {rest : List Oper} {a : Act} (hw : Region.wanted o (yielded ops a.tmps) = false) (hk : wpHead P ops S L rest (a.put o.dst undef)) : wpHead P ops S L (o :: rest) a :=
  ⟨undef, Or.inr ⟨hw, rfl⟩, hk⟩

def lateB (md : Region.Mode) (ops : Array Oper) (F n : Nat) : Bool :=
  Region.noSelect ops && decide (n < ops.size) && ((List.range ops.size).all fun j => decide (j ≤ n) || (List.range n).all fun i => reachB md ops i F j) && Region.lexHead md ops (ops.size - n) n 0 (Array.replicate ops.size false)

theorem wpAnyT_lex {F n g : Nat} {L : Act → Prop} (hsel : Region.noSelect ops = true) (hn : n < ops.size) (hQ : ∀ c a d v w, Q (.panic c) (a.put (some d) v) w → Q (.panic c) a w) (hlate : ∀ j, n < j → j < ops.size → ∀ i, i < n → reachB md ops i F j = true)
    (hL : ∀ done a w, ClosedL md ops done → S w → Region.seqB md ops g n done = true → (∀ i, i < n → done.getD i true = true) → L a → wpAnyT P md ops Q S n g done a w) :
    ∀ (l : List Oper) (k : Nat) (listed : Array Bool) (a : Act) (w : World), (∀ j, j < l.length → l[j]? = ops[k + j]?) → k + l.length = n → ClosedL md ops listed → (∀ i, i < k → listed.getD i true = true) → S w →
    Region.lexHead md ops g l.length k listed = true → wpHead P ops S L l a → wpAnyT P md ops Q S n (l.length + g) listed a w := by
  intro l
  induction l with
  | nil =>
    intro k listed a w _ hk hc hd hS hB h
    obtain rfl : k = n := by simpa using hk
    rw [List.length_nil, Nat.zero_add]
    exact hL _ _ _ hc hS (by simpa [Region.lexHead] using hB) hd h
  | cons o l ih =>
    intro k listed a w hl hk hc hd hS hB h
    have h0 : ops[k]? = some o := by simpa using (hl 0 (by simp)).symm
    simp only [List.length_cons, Region.lexHead, Bool.and_eq_true] at hB
    have hkn : k < n := by simp only [List.length_cons] at hk; omega
    have hr : k ∈ Region.ready md ops listed := by simpa using hB.1.1
    obtain ⟨v, hy, hK⟩ := h
    rw [List.length_cons, Nat.succ_add]
    refine wpAnyT_first (F := F) h0 (Region.noSelect_spec hsel) (fun c a w hp => (by
      cases hd : o.dst with
      | none => rw [hd] at hp; exact hp
      | some d => rw [hd] at hp; exact hQ c a d v w hp)) (fun j h1 h2 => hlate j h1 h2 k hkn) (l.length + g) listed a w hc (Region.free_spec h0 hB.1.2) hr hy hS
      (ih (k + 1) _ _ w (fun j hj => ?_) ?_ (hc.set hr) (fun i hi => ?_) hS hB.2 hK)
    · have := hl (j + 1) (by simp; omega)
      simpa [Nat.add_assoc, Nat.add_comm 1 j] using this
    · simp only [List.length_cons] at hk; omega
    · by_cases e : i = k
      · subst e
        rw [Array.getD_eq_getD_getElem?, Array.getElem?_setIfInBounds]
        simp
        split <;> rfl
      · rw [getD_set_ne true (Ne.symm e)]; exact hd i (by omega)

/-- the region's law -/
theorem wp_region_late {id : Nat} {a : Act} {w : World} {l : List Oper} (F n : Nat) (hm : P.follows .mixedOrders = true) (hB : lateB .any l.toArray F n = true) (hQ : ∀ c a d v w, Q (.panic c) (a.put (some d) v) w → Q (.panic c) a w) (hS : S w.drew)
    (hE : ∀ o, l[n]? = some o → ∀ (a : Act) (w : World) x w', S w → (execOp a.eval o).run P w = .ok x w' → (∃ u, x = .value u) ∧ S w')
    (h : wpHead P l.toArray S (fun a' => ∀ w', S w' → wpList P l.toArray Q (l.drop n) a' w') (l.take n) a) : (Code.region id l.toArray true).wp P Q a w := by
  simp only [lateB, Bool.and_eq_true, decide_eq_true_eq] at hB
  obtain ⟨⟨⟨hsel, hn⟩, hlt⟩, hlex⟩ := hB
  have hn' : n < l.length := by simpa using hn
  have htl : (l.take n).length = n := by simp; omega
  have hdl : (l.drop n).length = l.toArray.size - n := by simp
  refine wp_region_any hm (wpAny_of_T (S := S) (n := n) _ _ _ _ ?_)
  have H := wpAnyT_lex (md := .any) (P := P) (Q := Q) (S := S) (F := F) (n := n) (g := l.toArray.size - n) hsel hn hQ (fun j h1 h2 i hi => by
      have h3 := List.all_eq_true.1 hlt j (List.mem_range.2 h2)
      rw [Bool.or_eq_true, decide_eq_true_eq] at h3
      rcases h3 with h3 | h3
      · omega
      · exact List.all_eq_true.1 h3 i (List.mem_range.2 hi))
    (L := fun a' => ∀ w', S w' → wpList P l.toArray Q (l.drop n) a' w') (fun done a' w' hc hSw hseq hd hL => ?_)
    (l.take n) 0 (Array.replicate l.toArray.size false) a w.drew (fun j hj => by rw [htl] at hj; simp [hj]) (by simpa using htl) (fun j oj _ hl => by rw [getD_replicate_false] at hl; cases hl) (fun i hi => by omega) hS (by rw [htl]; exact hlex) h
  · rw [htl, show n + (l.toArray.size - n) = l.toArray.size by omega] at H
    exact H
  · have hany := wpAny_of_seq (md := .any) (Q' := Q) (l.drop n) n done a' w' (fun j => by simp [List.getElem?_drop]) (by rw [hdl]; exact hseq) (hL w' hSw)
    rw [hdl] at hany
    obtain ⟨g, hg⟩ : ∃ g, l.toArray.size - n = g + 1 := ⟨l.toArray.size - n - 1, by omega⟩
    rw [hg] at hany hseq ⊢
    simp only [Region.seqB, Bool.and_eq_true, decide_eq_true_eq] at hseq
    refine ⟨hany.1, fun i hi => ?_⟩
    have h1 := hany.2 i hi
    have hin : i = n := by rw [hseq.1] at hi; simpa using hi
    subst hin
    have ho : l[i]? = some l[i] := List.getElem?_eq_getElem hn'
    have ho' : l.toArray[i]? = some l[i] := by simp
    have hdone : ∀ k, k ≤ i → (done.setIfInBounds i true).getD k true = true := fun k hk => by
      by_cases e : k = i
      · subst e
        rw [Array.getD_eq_getD_getElem?, Array.getElem?_setIfInBounds]
        simp
        split <;> rfl
      · rw [getD_set_ne true (Ne.symm e)]; exact hd k (by omega)
    unfold wpOp at h1 ⊢
    simp only [ho'] at h1 ⊢
    split
    · rename_i hw
      simp only [hw, if_true] at h1
      refine h1.imp (fun h1 => ?_) (fun h => h)
      unfold Oper.wp at h1 ⊢
      have hE' := hE _ ho a' w'
      generalize (execOp a'.eval l[i]).run P w' = r at *
      cases r with
      | ok x w'' =>
        obtain ⟨⟨u, rfl⟩, hS'⟩ := hE' x w'' hSw rfl
        simp only [Oper.upon] at h1 ⊢
        exact ⟨fun _ => hS', wpAnyT_of _ _ _ _ hdone h1⟩
      | halt x w'' => cases x <;> simp only [Oper.upon] at h1 ⊢ <;> exact h1
    · rename_i hw
      simp only [hw] at h1
      exact ⟨fun _ => hSw, wpAnyT_of _ _ _ _ hdone h1⟩
end

/-- the same, from the grown worlds on -/
theorem rlate {P : Program} {id : Nat} {Q : Exit → Act → World → Prop} {a : Act} {w : World} {l : List Oper} (F n : Nat) (hm : P.follows .mixedOrders = true) (hB : lateB .any l.toArray F n = true) (hQ : ∀ c a d v w, Q (.panic c) (a.put (some d) v) w → Q (.panic c) a w)
    (hE : ∀ o, l[n]? = some o → ∀ (a : Act) (w : World) x w', (execOp a.eval o).run P w = .ok x w' → (∃ u, x = .value u) ∧ Below w.heap.size w w')
    (h : wpHead P l.toArray (fun w' => ∃ d, w' = Grow w d) (fun a' => ∀ d, wpList P l.toArray Q (l.drop n) a' (Grow w d)) (l.take n) a) : (Code.region id l.toArray true).wp P Q a w := by
  refine wp_region_late (S := fun w' => ∃ d, w' = Grow w d) F n hm hB hQ ⟨w.drew, grow_of (Below.refl _ _).drew⟩ (fun o ho a w1 x w' hS hr => ?_) ?_
  · obtain ⟨h1, h2⟩ := hE o ho a w1 x w' hr
    obtain ⟨d, rfl⟩ := hS
    exact ⟨h1, w', grow_of ((grow_below w d).trans (h2.mono (grow_size w d)))⟩
  · have e : (fun a' => ∀ w', (∃ d, w' = Grow w d) → wpList P l.toArray Q (l.drop n) a' w') = (fun a' => ∀ d, wpList P l.toArray Q (l.drop n) a' (Grow w d)) := by
      funext a'; exact propext ⟨fun h d => h _ ⟨d, rfl⟩, fun h w' ⟨d, hd⟩ => hd ▸ h d⟩
    rw [e]; exact h
end Go.Proofs.Ytbmdnifkjcimcaa
