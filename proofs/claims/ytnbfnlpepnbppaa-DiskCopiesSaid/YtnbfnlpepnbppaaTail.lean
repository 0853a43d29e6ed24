/-
  A region that draws its order: its head reads, and calls what only makes memory; its tail comes in one order. One walk in the text's order serves: the head in the class of grown worlds, the tail from any of them on.
-/
import Derived.Test.YtnbfnlpepnbppaaBase
namespace Go.Proofs.Ytnbfnlpepnbppaa
set_option linter.unusedVariables false
set_option linter.unusedSimpArgs false
open Go.RowKit

section
variable {P : Program} {ops : Array Oper} {md : Region.Mode} {C : World → Prop}

/-- f operations of the head are still to come, whatever order is drawn; then L -/
def HeadRun (P : Program) (md : Region.Mode) (ops : Array Oper) (C : World → Prop) (n : Nat) (L : Array Bool → Act → Prop) : Nat → Array Bool → Act → Prop
  | 0, done, a => L done a
  | f + 1, done, a => Region.ready md ops done ≠ [] ∧ ∀ i ∈ Region.ready md ops done, i < n ∧ qOp P ops C i (HeadRun P md ops C n L f (done.setIfInBounds i true)) a

theorem HeadRun.any {n g : Nat} {L : Array Bool → Act → Prop} {R : Exit → Act → World → Prop} (hL : ∀ done a w, C w → L done a → wpAny P md ops R g done a w) :
    ∀ (f : Nat) (done : Array Bool) (a : Act) (w : World), C w → HeadRun P md ops C n L f done a → wpAny P md ops R (f + g) done a w := by
  intro f
  induction f with
  | zero => intro done a w hw h; rw [Nat.zero_add]; exact hL _ _ _ hw h
  | succ f ih =>
    intro done a w hw h
    rw [Nat.succ_add]
    exact ⟨fun e => absurd e h.1, fun i hi => wpOp_of_qOp hw (fun a' w' hw' h' => ih _ a' w' hw' h') (h.2 i hi).2⟩

/-- an operation of the head that is quiet may be taken first -/
theorem HeadRun.first {n i : Nat} {o : Oper} {v : Value} {L : Array Bool → Act → Prop} (ho : ops[i]? = some o) (hsel : Region.noSelect ops = true)
    (hs : Region.sinkB md ops n = true) (hc : Region.chainB md ops n = true) (hn : n < ops.size) (hin : i < n)
    (hL : ∀ done a, L done a → ∀ j ∈ Region.ready md ops done, n ≤ j) :
    ∀ (f : Nat) (done : Array Bool) (a : Act), HeadInv md ops n done →
      (∀ j oj, ops[j]? = some oj → j ≠ i → done.getD j true = false → (∀ e ∈ oj.after, Region.binds md e = true → e.on ≠ i) → o.apart ops oj = true) →
      i ∈ Region.ready md ops done → YieldsIn P ops C o v a →
      HeadRun P md ops C n L f (done.setIfInBounds i true) (a.put o.dst v) → HeadRun P md ops C n L (f + 1) done a := by
  intro f
  induction f with
  | zero =>
    intro done a inv _ hr hy H
    refine ⟨List.ne_nil_of_mem hr, fun j hj => ?_⟩
    have hjn : j < n := Nat.lt_of_not_le fun h => tail_waits hs hc hn inv _ i rfl hin (mem_ready.1 hr).1 j h hj
    by_cases e : j = i
    · exact ⟨hjn, by rw [e]; exact hy.qOp ho H⟩
    · have := hL _ _ H j (ready_mono hj e)
      omega
  | succ f ih =>
    intro done a inv hfree hr hy H
    refine ⟨List.ne_nil_of_mem hr, fun j hj => ?_⟩
    have hjn : j < n := Nat.lt_of_not_le fun h => tail_waits hs hc hn inv _ i rfl hin (mem_ready.1 hr).1 j h hj
    by_cases e : j = i
    · exact ⟨hjn, by rw [e]; exact hy.qOp ho H⟩
    · refine ⟨hjn, ?_⟩
      obtain ⟨hjun, oj, hoj, hall⟩ := mem_ready.1 hj
      have hno : ∀ x ∈ oj.after, Region.binds md x = true → x.on ≠ i := fun x hx hb hxi => by
        have h1 := hall x hx hb
        rw [hxi, getD_both (mem_ready.1 hr).1] at h1
        cases h1
      have step := qOp_put hoj (hfree j oj hoj e hjun hno) (fun cs b => Region.noSelect_spec hsel i o cs b ho) (fun cs b => Region.noSelect_spec hsel j oj cs b hoj) hy (H.2 j (ready_mono hj e)).2
      refine qOp_mono (fun a' h3 => ih _ a' (inv.set hj hjn) (fun k ok hk hki hun hno' => hfree k ok hk hki ?_ hno') (ready_mono hr (Ne.symm e)) h3.1 ?_) step
      · by_cases hjk : j = k
        · rw [← hjk]; exact hjun
        · rwa [getD_set_ne true hjk] at hun
      · rw [Array.setIfInBounds_comm _ _ e]
        exact h3.2

theorem HeadRun.lex {n g : Nat} {L : Act → Prop} (hsel : Region.noSelect ops = true) (hs : Region.sinkB md ops n = true) (hc : Region.chainB md ops n = true) (hn : n < ops.size) :
    ∀ (l : List Oper) (k : Nat) (done : Array Bool) (a : Act), (∀ j, j < l.length → l[j]? = ops[k + j]?) → k + l.length = n → HeadInv md ops n done →
    Region.lexHead md ops g l.length k done = true → wpQuiet P ops C L l a →
    HeadRun P md ops C n (fun done' a' => Region.seqB md ops g n done' = true ∧ L a') l.length done a := by
  intro l
  induction l with
  | nil =>
    intro k done a _ hk _ hB h
    obtain rfl : k = n := by simpa using hk
    exact ⟨by simpa [Region.lexHead] using hB, h⟩
  | cons o l ih =>
    intro k done a hl hk inv hB h
    have h0 : ops[k]? = some o := by simpa using (hl 0 (by simp)).symm
    simp only [List.length_cons, Region.lexHead, Bool.and_eq_true] at hB
    have hkn : k < n := by simp only [List.length_cons] at hk; omega
    have hr : k ∈ Region.ready md ops done := by simpa using hB.1.1
    have hq : qOp P ops C k (wpQuiet P ops C L l) a := by unfold qOp; simp only [h0]; exact h
    obtain ⟨v, hy, hK⟩ := yieldsIn_of_qOp h0 hq
    refine HeadRun.first h0 hsel hs hc hn hkn (fun d' a' hL => seqB_ready hL.1) l.length done a inv (Region.free_spec h0 hB.1.2) hr hy (ih (k + 1) _ _ (fun j hj => ?_) ?_ (inv.set hr hkn) hB.2 hK)
    · have := hl (j + 1) (by simp; omega)
      simpa [Nat.add_assoc, Nat.add_comm 1 j] using this
    · simp only [List.length_cons] at hk; omega

theorem wp_region_head {id : Nat} {Q : Exit → Act → World → Prop} {a : Act} {w : World} {l : List Oper} (n : Nat) (hm : P.follows .mixedOrders = true) (hB : Region.lexTailB .any l.toArray n = true) (hC : C w.drew)
    (h : wpQuiet P l.toArray C (fun a' => ∀ w', C w' → wpList P l.toArray Q (l.drop n) a' w') (l.take n) a) : (Code.region id l.toArray true).wp P Q a w := by
  simp only [Region.lexTailB, Bool.and_eq_true, decide_eq_true_eq] at hB
  obtain ⟨⟨⟨⟨hsel, hn⟩, hs⟩, hc⟩, hlex⟩ := hB
  have hn' : n < l.length := by simpa using hn
  have htl : (l.take n).length = n := by simp; omega
  have hdl : (l.drop n).length = l.toArray.size - n := by simp
  have inv0 : HeadInv .any l.toArray n (Array.replicate l.toArray.size false) :=
    ⟨by simp, fun j oj _ hl => (by rw [getD_replicate_false] at hl; cases hl), fun t _ ht => getD_in (by simpa using ht) (getD_replicate_false _ _)⟩
  have H := HeadRun.lex (md := .any) (g := l.toArray.size - n) hsel hs hc hn (l.take n) 0 _ a
    (fun j hj => by rw [htl] at hj; simp [hj]) (by simpa using htl) inv0 (by rw [htl]; exact hlex) h
  refine wp_region_any hm ?_
  have := HeadRun.any (R := Q) (g := l.toArray.size - n) (fun done a' w' hw' hL => by
    have := wpAny_of_seq (md := .any) (Q' := Q) (l.drop n) n done a' w' (fun j => by simp [List.getElem?_drop]) (by rw [hdl]; exact hL.1) (hL.2 w' hw')
    rwa [hdl] at this) _ _ _ _ hC H
  rw [htl, show n + (l.toArray.size - n) = l.toArray.size by omega] at this
  exact this

/-- the head in the class of the grown worlds; the tail from each of them on -/
theorem rtail {id : Nat} {Q : Exit → Act → World → Prop} {a : Act} {w : World} {l : List Oper} (n : Nat) (hm : P.follows .mixedOrders = true) (hB : Region.lexTailB .any l.toArray n = true)
    (h : wpQuiet P l.toArray (fun w' => ∃ d, w' = Grow w d) (fun a' => ∀ d, wpList P l.toArray Q (l.drop n) a' (Grow w d)) (l.take n) a) : (Code.region id l.toArray true).wp P Q a w := by
  refine wp_region_head (C := fun w' => ∃ d, w' = Grow w d) n hm hB ⟨w.drew, grow_of (Below.refl _ _).drew⟩ ?_
  have e : (fun a' => ∀ w', (∃ d, w' = Grow w d) → wpList P l.toArray Q (l.drop n) a' w') = (fun a' => ∀ d, wpList P l.toArray Q (l.drop n) a' (Grow w d)) := by
    funext a'; exact propext ⟨fun h d => h _ ⟨d, rfl⟩, fun h w' ⟨d, hd⟩ => hd ▸ h d⟩
  rw [e]; exact h
theorem rtail2 {id : Nat} {Q : Exit → Act → World → Prop} {a : Act} {w m : World} {l : List Oper} (n : Nat) (hm : P.follows .mixedOrders = true) (hB : Region.lexTailB .any l.toArray n = true)
    (h : wpQuiet P l.toArray (fun w' => ∃ d, w' = Grow w d) (fun a' => ∀ d, wpList P l.toArray Q (l.drop n) a' (Grow w d)) (l.take n) a) : (Code.region id l.toArray true).wp P Q a (Grow w m) := by
  refine wp_region_head (C := fun w' => ∃ d, w' = Grow w d) n hm hB ⟨(Grow w m).drew, grow_of (grow_below w m).drew⟩ ?_
  have e : (fun a' => ∀ w', (∃ d, w' = Grow w d) → wpList P l.toArray Q (l.drop n) a' w') = (fun a' => ∀ d, wpList P l.toArray Q (l.drop n) a' (Grow w d)) := by
    funext a'; exact propext ⟨fun h d => h _ ⟨d, rfl⟩, fun h w' ⟨d, hd⟩ => hd ▸ h d⟩
  rw [e]; exact h
end
end Go.Proofs.Ytnbfnlpepnbppaa
