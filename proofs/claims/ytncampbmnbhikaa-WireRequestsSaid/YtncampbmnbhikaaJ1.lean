/-
  Joined: Base Tail Row.
-/
import Derived.Test.YtncampbmnbhikaaRows
import Derived.WalkKit
import Derived.WalkSpells
import Derived.WalkLawsBesides
import Derived.BigQuiet
import Derived.StillTailTactics
import Derived.Deep.QuietTactic
import Derived.Deep.RegionHeld3
import Derived.Lib.Hide
import Derived.Deep.OwnRows
-- Base
namespace Go.Proofs.Ytncampbmnbhikaa
set_option linter.unusedVariables false
set_option linter.unusedSimpArgs false
open Go.RowKit

theorem bcell {W w1 : World} (hb : Below W.heap.size W w1) : (∀ b o, b < W.heap.size → w1.cell? ⟨b, o, none⟩ = W.cell? ⟨b, o, none⟩) ∧ (∀ b o, b < W.heap.size → w1.frozen? ⟨b, o, none⟩ = W.frozen? ⟨b, o, none⟩) :=
  ⟨fun b o h => hb.cell (p := ⟨b, o, none⟩) h, fun b o h => hb.frozen (p := ⟨b, o, none⟩) h⟩

theorem bel_alloc {W w1 : World} (h : Below W.heap.size W w1) (o : Obj) : Below W.heap.size W (w1.alloc o) := h.alloc h.size o
theorem bel_set {W w1 : World} (h : Below W.heap.size W w1) {p : Addr} (hp : W.heap.size ≤ p.block) (u : Value) : Below W.heap.size W (w1.setCell p u) := h.setCell hp u
theorem bel_trans {W w1 w2 : World} (h : Below W.heap.size W w1) (k : Below w1.heap.size w1 w2) : Below W.heap.size W w2 := h.trans (k.mono h.size)

open Classical in
/-- W grown to d, if d is W grown; else W itself -/
noncomputable def Grow (W d : World) : World := if Below W.heap.size W d then d else W
theorem grow_below (W d : World) : Below W.heap.size W (Grow W d) := by
  unfold Grow; split
  · assumption
  · exact Below.refl _ _
theorem grow_of {W d : World} (h : Below W.heap.size W d) : d = Grow W d := by unfold Grow; rw [if_pos h]
theorem grow_cell (W d : World) (b o : Nat) (h : b < W.heap.size) : (Grow W d).cell? ⟨b, o, none⟩ = W.cell? ⟨b, o, none⟩ := (grow_below W d).cell (p := ⟨b, o, none⟩) h
theorem grow_frozen (W d : World) (b o : Nat) (h : b < W.heap.size) : (Grow W d).frozen? ⟨b, o, none⟩ = W.frozen? ⟨b, o, none⟩ := (grow_below W d).frozen (p := ⟨b, o, none⟩) h
theorem grow_size (W d : World) : W.heap.size ≤ (Grow W d).heap.size := (grow_below W d).size
theorem grow_lt (W d : World) (b : Nat) (h : b < W.heap.size) : b < (Grow W d).heap.size := Nat.lt_of_lt_of_le h (grow_size W d)
theorem grow_lt' (W d : World) (b n : Nat) (h : b < W.heap.size) : b < (Grow W d).heap.size + n := by have := grow_lt W d b h; omega
theorem grow_ne (W d : World) (b : Nat) (h : b < W.heap.size) : (b = (Grow W d).heap.size) = False := by have := grow_lt W d b h; simp; omega
theorem grow_ne' (W d : World) (b : Nat) (h : b < W.heap.size) : ((Grow W d).heap.size = b) = False := by have := grow_lt W d b h; simp; omega
attribute [go_sem] grow_cell grow_frozen grow_lt grow_lt' grow_ne grow_ne'
theorem grow_lt_p2 (W d : World) (b : Nat) (h : b < W.heap.size) : b < (Grow W d).heap.size + 1 + 1 := by have := grow_lt W d b h; omega
theorem grow_lt_p3 (W d : World) (b : Nat) (h : b < W.heap.size) : b < (Grow W d).heap.size + 1 + 1 + 1 := by have := grow_lt W d b h; omega
theorem grow_lt_p4 (W d : World) (b : Nat) (h : b < W.heap.size) : b < (Grow W d).heap.size + 1 + 1 + 1 + 1 := by have := grow_lt W d b h; omega
theorem grow_lt_p5 (W d : World) (b : Nat) (h : b < W.heap.size) : b < (Grow W d).heap.size + 1 + 1 + 1 + 1 + 1 := by have := grow_lt W d b h; omega
theorem grow_lt_p6 (W d : World) (b : Nat) (h : b < W.heap.size) : b < (Grow W d).heap.size + 1 + 1 + 1 + 1 + 1 + 1 := by have := grow_lt W d b h; omega
attribute [go_sem] grow_lt_p2 grow_lt_p3 grow_lt_p4 grow_lt_p5 grow_lt_p6
theorem grow_cell_d (W d : World) (b o : Nat) (h : b < W.heap.size) : (Grow W.drew d).cell? ⟨b, o, none⟩ = W.cell? ⟨b, o, none⟩ := grow_cell W.drew d b o h
theorem grow_frozen_d (W d : World) (b o : Nat) (h : b < W.heap.size) : (Grow W.drew d).frozen? ⟨b, o, none⟩ = W.frozen? ⟨b, o, none⟩ := grow_frozen W.drew d b o h
theorem grow_lt_d (W d : World) (b : Nat) (h : b < W.heap.size) : b < (Grow W.drew d).heap.size := grow_lt W.drew d b h
theorem grow_lt'_d (W d : World) (b n : Nat) (h : b < W.heap.size) : b < (Grow W.drew d).heap.size + n := grow_lt' W.drew d b n h
theorem grow_ne_d (W d : World) (b : Nat) (h : b < W.heap.size) : (b = (Grow W.drew d).heap.size) = False := grow_ne W.drew d b h
theorem grow_ne'_d (W d : World) (b : Nat) (h : b < W.heap.size) : ((Grow W.drew d).heap.size = b) = False := grow_ne' W.drew d b h
attribute [go_sem] grow_cell_d grow_frozen_d grow_lt_d grow_lt'_d grow_ne_d grow_ne'_d
theorem lt_2 (a : Nat) : (a < a + 1 + 1) = True := by simp; omega
theorem lt_3 (a : Nat) : (a < a + 1 + 1 + 1) = True := by simp; omega
theorem lt_4 (a : Nat) : (a < a + 1 + 1 + 1 + 1) = True := by simp; omega
theorem lt_5 (a : Nat) : (a < a + 1 + 1 + 1 + 1 + 1) = True := by simp; omega
attribute [go_sem] lt_2 lt_3 lt_4 lt_5
theorem bel_grow {W w1 : World} (h : Below W.heap.size W w1) (d : World) : Below W.heap.size W (Grow w1 d) := bel_trans h (grow_below w1 d)

theorem setCell_drewN (w : World) (a : Addr) (v : Value) (n : Nat) : (w.drewN n).setCell a v = (w.setCell a v).drewN n := rfl
attribute [go_sem] setCell_drewN

theorem grow_alloc (w d : World) (o : Obj) : (Grow w d).alloc o = Grow w ((Grow w d).alloc o) := grow_of (bel_alloc (grow_below w d) o)
theorem grow_self (w : World) : w = Grow w w := grow_of (Below.refl _ _)

section
variable {P : Program}
/-- a region that draws its order, all of whose operations read or call what only makes memory: one walk, in the text's order -/
theorem wp_region_grow {id : Nat} {Q : Exit → Act → World → Prop} {a : Act} {w : World} {l : List Oper} (hm : P.follows .mixedOrders = true) (hB : Region.lexB .any l.toArray = true)
    (h : wpQuiet P l.toArray (fun w' => ∃ d, w' = Grow w d) (fun a' => ∀ w', Below w.heap.size w w' → Q .normal a' w') l a) : (Code.region id l.toArray true).wp P Q a w := by
  refine wp_region_quiet (C := fun w' => ∃ d, w' = Grow w d) hm hB ⟨w.drew, grow_of (Below.refl _ _).drew⟩ ?_
  have e : (fun a' => ∀ w', (∃ d, w' = Grow w d) → Q .normal a' w') = (fun a' => ∀ w', Below w.heap.size w w' → Q .normal a' w') := by
    funext a'; exact propext ⟨fun h w' hb => h w' ⟨w', grow_of hb⟩, fun h w' ⟨d, hd⟩ => h w' (hd ▸ grow_below w d)⟩
  rw [e]; simpa using h

/-- the same, on to the grown world -/
theorem rgrow {id : Nat} {Q : Exit → Act → World → Prop} {a : Act} {w : World} {l : List Oper} (hm : P.follows .mixedOrders = true) (hB : Region.lexB .any l.toArray = true)
    (h : wpQuiet P l.toArray (fun w' => ∃ d, w' = Grow w d) (fun a' => ∀ d, Q .normal a' (Grow w d)) l a) : (Code.region id l.toArray true).wp P Q a w := by
  refine wp_region_quiet (C := fun w' => ∃ d, w' = Grow w d) hm hB ⟨w.drew, grow_of (Below.refl _ _).drew⟩ ?_
  have e : (fun a' => ∀ w', (∃ d, w' = Grow w d) → Q .normal a' w') = (fun a' => ∀ d, Q .normal a' (Grow w d)) := by
    funext a'; exact propext ⟨fun h d => h _ ⟨d, rfl⟩, fun h w' ⟨d, hd⟩ => hd ▸ h d⟩
  rw [e]; simpa using h
theorem rgrow2 {id : Nat} {Q : Exit → Act → World → Prop} {a : Act} {w n : World} {l : List Oper} (hm : P.follows .mixedOrders = true) (hB : Region.lexB .any l.toArray = true)
    (h : wpQuiet P l.toArray (fun w' => ∃ d, w' = Grow w d) (fun a' => ∀ d, Q .normal a' (Grow w d)) l a) : (Code.region id l.toArray true).wp P Q a (Grow w n) := by
  refine wp_region_quiet (C := fun w' => ∃ d, w' = Grow w d) hm hB ⟨(Grow w n).drew, grow_of (grow_below w n).drew⟩ ?_
  have e : (fun a' => ∀ w', (∃ d, w' = Grow w d) → Q .normal a' w') = (fun a' => ∀ d, Q .normal a' (Grow w d)) := by
    funext a'; exact propext ⟨fun h d => h _ ⟨d, rfl⟩, fun h w' ⟨d, hd⟩ => hd ▸ h d⟩
  rw [e]; simpa using h

theorem grow_call {f : FuncId} {args : Array Value} {W n : World} {v : Value}
    (h : Calls P f args (Grow W n) fun e w' => e = .returned v ∧ Below (Grow W n).heap.size (Grow W n) w') : Calls P f args (Grow W n) fun e w'' => e = .returned v ∧ ∃ d, w'' = Grow W d :=
  h.mono fun _ w' ⟨he, hb⟩ => ⟨he, w', grow_of ((grow_below W n).trans (hb.mono (grow_size W n)))⟩

theorem gro {f : FuncId} {args : Array Value} {w : World} {v : Value} (h : Calls P f args w fun e w' => e = .returned v ∧ Below w.heap.size w w') :
    Calls P f args w fun e w' => e = .returned v ∧ ∃ d, w' = Grow w d := h.mono fun _ w' ⟨he, hb⟩ => ⟨he, w', grow_of hb⟩

theorem gro_d {f : FuncId} {args : Array Value} {W : World} {v : Value} (h : Calls P f args W.drew fun e w' => e = .returned v ∧ Below W.drew.heap.size W.drew w') :
    Calls P f args W.drew fun e w' => e = .returned v ∧ ∃ d, w' = Grow W d := h.mono fun _ w' ⟨he, hb⟩ => ⟨he, w', grow_of ((Below.refl _ _).drew.trans hb)⟩
theorem grow_call_d {f : FuncId} {args : Array Value} {W n : World} {v : Value} (h : Calls P f args (Grow W n).drew fun e w' => e = .returned v ∧ Below (Grow W n).drew.heap.size (Grow W n).drew w') :
    Calls P f args (Grow W n).drew fun e w' => e = .returned v ∧ ∃ d, w' = Grow W d := h.mono fun _ w' ⟨he, hb⟩ => ⟨he, w', grow_of ((grow_below W n).drew.trans (hb.mono (grow_size W n)))⟩
/-- .. seen from an elder world -/
theorem gro_to {f : FuncId} {args : Array Value} {W X : World} {v : Value} (hW : Below W.heap.size W X) (h : Calls P f args X fun e w' => e = .returned v ∧ Below X.heap.size X w') :
    Calls P f args X fun e w' => e = .returned v ∧ ∃ d, w' = Grow W d := h.mono fun _ w' ⟨he, hb⟩ => ⟨he, w', grow_of (hW.trans (hb.mono hW.size))⟩
theorem collapse {Q : World → Prop} {W X : World} (hb : Below W.heap.size W X) (h : ∀ d, Q (Grow W d)) : Q X := (grow_of hb) ▸ h X

theorem wp_region_tail {id : Nat} {Q : Exit → Act → World → Prop} {a : Act} {w : World} {l : List Oper} (n : Nat) (hm : P.follows .mixedOrders = true) (hB : Region.lexTailB .any l.toArray n = true)
    (h : wpStill P l.toArray w.drew (fun a' => wpList P l.toArray Q (l.drop n) a' w.drew) (l.take n) a) : (Code.region id l.toArray true).wp P Q a w :=
  wp_region_still_tail n hm hB h
end
end Go.Proofs.Ytncampbmnbhikaa
-- Tail
namespace Go.Proofs.Ytncampbmnbhikaa
set_option linter.unusedVariables false
set_option linter.unusedSimpArgs false
open Go.RowKit

section
variable {P : Program} {ops : Array Oper} {md : Region.Mode} {C : World → Prop}

/-- f operations of the head are still to come, whatever order is drawn; then L -/
def HeadRun (P : Program) (md : Region.Mode) (ops : Array Oper) (C : World → Prop) (n : Nat) (L : Array Bool → Act → Prop) : Nat → Array Bool → Act → Prop
  | 0, done, a => L done a
  | f + 1, done, a => Region.ready md ops done ≠ [] ∧ ∀ i ∈ Region.ready md ops done, i < n ∧ qOp P ops C i (HeadRun P md ops C n L f (done.setIfInBounds i true)) a

theorem HeadRun.any {n g : Nat} {L : Array Bool → Act → Prop} {R : Exit → Act → World → Prop} (hL : ∀ done a w, C w → L done a → wpAny P md ops R g done a w) :
    ∀ (f : Nat) (done : Array Bool) (a : Act) (w : World), C w → HeadRun P md ops C n L f done a → wpAny P md ops R (f + g) done a w := by
  intro f
  induction f with
  | zero => intro done a w hw h; rw [Nat.zero_add]; exact hL _ _ _ hw h
  | succ f ih =>
    intro done a w hw h
    rw [Nat.succ_add]
    exact ⟨fun e => absurd e h.1, fun i hi => wpOp_of_qOp hw (fun a' w' hw' h' => ih _ a' w' hw' h') (h.2 i hi).2⟩

/-- an operation of the head that is quiet may be taken first -/
theorem HeadRun.first {n i : Nat} {o : Oper} {v : Value} {L : Array Bool → Act → Prop} (ho : ops[i]? = some o) (hsel : Region.noSelect ops = true)
    (hs : Region.sinkB md ops n = true) (hc : Region.chainB md ops n = true) (hn : n < ops.size) (hin : i < n)
    (hL : ∀ done a, L done a → ∀ j ∈ Region.ready md ops done, n ≤ j) :
    ∀ (f : Nat) (done : Array Bool) (a : Act), HeadInv md ops n done →
      (∀ j oj, ops[j]? = some oj → j ≠ i → done.getD j true = false → (∀ e ∈ oj.after, Region.binds md e = true → e.on ≠ i) → o.apart ops oj = true) →
      i ∈ Region.ready md ops done → YieldsIn P ops C o v a →
      HeadRun P md ops C n L f (done.setIfInBounds i true) (a.put o.dst v) → HeadRun P md ops C n L (f + 1) done a := by
  intro f
  induction f with
  | zero =>
    intro done a inv _ hr hy H
    refine ⟨List.ne_nil_of_mem hr, fun j hj => ?_⟩
    have hjn : j < n := Nat.lt_of_not_le fun h => tail_waits hs hc hn inv _ i rfl hin (mem_ready.1 hr).1 j h hj
    by_cases e : j = i
    · exact ⟨hjn, by rw [e]; exact hy.qOp ho H⟩
    · have := hL _ _ H j (ready_mono hj e)
      omega
  | succ f ih =>
    intro done a inv hfree hr hy H
    refine ⟨List.ne_nil_of_mem hr, fun j hj => ?_⟩
    have hjn : j < n := Nat.lt_of_not_le fun h => tail_waits hs hc hn inv _ i rfl hin (mem_ready.1 hr).1 j h hj
    by_cases e : j = i
    · exact ⟨hjn, by rw [e]; exact hy.qOp ho H⟩
    · refine ⟨hjn, ?_⟩
      obtain ⟨hjun, oj, hoj, hall⟩ := mem_ready.1 hj
      have hno : ∀ x ∈ oj.after, Region.binds md x = true → x.on ≠ i := fun x hx hb hxi => by
        have h1 := hall x hx hb
        rw [hxi, getD_both (mem_ready.1 hr).1] at h1
        cases h1
      have step := qOp_put hoj (hfree j oj hoj e hjun hno) (fun cs b => Region.noSelect_spec hsel i o cs b ho) (fun cs b => Region.noSelect_spec hsel j oj cs b hoj) hy (H.2 j (ready_mono hj e)).2
      refine qOp_mono (fun a' h3 => ih _ a' (inv.set hj hjn) (fun k ok hk hki hun hno' => hfree k ok hk hki ?_ hno') (ready_mono hr (Ne.symm e)) h3.1 ?_) step
      · by_cases hjk : j = k
        · rw [← hjk]; exact hjun
        · rwa [getD_set_ne true hjk] at hun
      · rw [Array.setIfInBounds_comm _ _ e]
        exact h3.2

theorem HeadRun.lex {n g : Nat} {L : Act → Prop} (hsel : Region.noSelect ops = true) (hs : Region.sinkB md ops n = true) (hc : Region.chainB md ops n = true) (hn : n < ops.size) :
    ∀ (l : List Oper) (k : Nat) (done : Array Bool) (a : Act), (∀ j, j < l.length → l[j]? = ops[k + j]?) → k + l.length = n → HeadInv md ops n done →
    Region.lexHead md ops g l.length k done = true → wpQuiet P ops C L l a →
    HeadRun P md ops C n (fun done' a' => Region.seqB md ops g n done' = true ∧ L a') l.length done a := by
  intro l
  induction l with
  | nil =>
    intro k done a _ hk _ hB h
    obtain rfl : k = n := by simpa using hk
    exact ⟨by simpa [Region.lexHead] using hB, h⟩
  | cons o l ih =>
    intro k done a hl hk inv hB h
    have h0 : ops[k]? = some o := by simpa using (hl 0 (by simp)).symm
    simp only [List.length_cons, Region.lexHead, Bool.and_eq_true] at hB
    have hkn : k < n := by simp only [List.length_cons] at hk; omega
    have hr : k ∈ Region.ready md ops done := by simpa using hB.1.1
    have hq : qOp P ops C k (wpQuiet P ops C L l) a := by unfold qOp; simp only [h0]; exact h
    obtain ⟨v, hy, hK⟩ := yieldsIn_of_qOp h0 hq
    refine HeadRun.first h0 hsel hs hc hn hkn (fun d' a' hL => seqB_ready hL.1) l.length done a inv (Region.free_spec h0 hB.1.2) hr hy (ih (k + 1) _ _ (fun j hj => ?_) ?_ (inv.set hr hkn) hB.2 hK)
    · have := hl (j + 1) (by simp; omega)
      simpa [Nat.add_assoc, Nat.add_comm 1 j] using this
    · simp only [List.length_cons] at hk; omega

theorem wp_region_head {id : Nat} {Q : Exit → Act → World → Prop} {a : Act} {w : World} {l : List Oper} (n : Nat) (hm : P.follows .mixedOrders = true) (hB : Region.lexTailB .any l.toArray n = true) (hC : C w.drew)
    (h : wpQuiet P l.toArray C (fun a' => ∀ w', C w' → wpList P l.toArray Q (l.drop n) a' w') (l.take n) a) : (Code.region id l.toArray true).wp P Q a w := by
  simp only [Region.lexTailB, Bool.and_eq_true, decide_eq_true_eq] at hB
  obtain ⟨⟨⟨⟨hsel, hn⟩, hs⟩, hc⟩, hlex⟩ := hB
  have hn' : n < l.length := by simpa using hn
  have htl : (l.take n).length = n := by simp; omega
  have hdl : (l.drop n).length = l.toArray.size - n := by simp
  have inv0 : HeadInv .any l.toArray n (Array.replicate l.toArray.size false) :=
    ⟨by simp, fun j oj _ hl => (by rw [getD_replicate_false] at hl; cases hl), fun t _ ht => getD_in (by simpa using ht) (getD_replicate_false _ _)⟩
  have H := HeadRun.lex (md := .any) (g := l.toArray.size - n) hsel hs hc hn (l.take n) 0 _ a
    (fun j hj => by rw [htl] at hj; simp [hj]) (by simpa using htl) inv0 (by rw [htl]; exact hlex) h
  refine wp_region_any hm ?_
  have := HeadRun.any (R := Q) (g := l.toArray.size - n) (fun done a' w' hw' hL => by
    have := wpAny_of_seq (md := .any) (Q' := Q) (l.drop n) n done a' w' (fun j => by simp [List.getElem?_drop]) (by rw [hdl]; exact hL.1) (hL.2 w' hw')
    rwa [hdl] at this) _ _ _ _ hC H
  rw [htl, show n + (l.toArray.size - n) = l.toArray.size by omega] at this
  exact this

/-- the head in the class of the grown worlds; the tail from each of them on -/
theorem rtail {id : Nat} {Q : Exit → Act → World → Prop} {a : Act} {w : World} {l : List Oper} (n : Nat) (hm : P.follows .mixedOrders = true) (hB : Region.lexTailB .any l.toArray n = true)
    (h : wpQuiet P l.toArray (fun w' => ∃ d, w' = Grow w d) (fun a' => ∀ d, wpList P l.toArray Q (l.drop n) a' (Grow w d)) (l.take n) a) : (Code.region id l.toArray true).wp P Q a w := by
  refine wp_region_head (C := fun w' => ∃ d, w' = Grow w d) n hm hB ⟨w.drew, grow_of (Below.refl _ _).drew⟩ ?_
  have e : (fun a' => ∀ w', (∃ d, w' = Grow w d) → wpList P l.toArray Q (l.drop n) a' w') = (fun a' => ∀ d, wpList P l.toArray Q (l.drop n) a' (Grow w d)) := by
    funext a'; exact propext ⟨fun h d => h _ ⟨d, rfl⟩, fun h w' ⟨d, hd⟩ => hd ▸ h d⟩
  rw [e]; exact h
theorem rtail2 {id : Nat} {Q : Exit → Act → World → Prop} {a : Act} {w m : World} {l : List Oper} (n : Nat) (hm : P.follows .mixedOrders = true) (hB : Region.lexTailB .any l.toArray n = true)
    (h : wpQuiet P l.toArray (fun w' => ∃ d, w' = Grow w d) (fun a' => ∀ d, wpList P l.toArray Q (l.drop n) a' (Grow w d)) (l.take n) a) : (Code.region id l.toArray true).wp P Q a (Grow w m) := by
  refine wp_region_head (C := fun w' => ∃ d, w' = Grow w d) n hm hB ⟨(Grow w m).drew, grow_of (grow_below w m).drew⟩ ?_
  have e : (fun a' => ∀ w', (∃ d, w' = Grow w d) → wpList P l.toArray Q (l.drop n) a' w') = (fun a' => ∀ d, wpList P l.toArray Q (l.drop n) a' (Grow w d)) := by
    funext a'; exact propext ⟨fun h d => h _ ⟨d, rfl⟩, fun h w' ⟨d, hd⟩ => hd ▸ h d⟩
  rw [e]; exact h
end
end Go.Proofs.Ytncampbmnbhikaa
-- Row
namespace Go.Proofs.Ytncampbmnbhikaa
set_option linter.unusedVariables false
set_option linter.unusedSimpArgs false
open Go.RowKit

theorem rowIs_drewN {w : World} {b : Nat} {t : TypeId} {n : Nat} {f : Nat → Value} (h : w.rowIs b t n f) (k : Nat) : (w.drewN k).rowIs b t n f := h
theorem rowIs_of {w : World} {c : Array Value} {t : TypeId} {f : Nat → Value} {b n : Nat} (hb : b = w.heap.size) (hn : c.size = n) (hc : ∀ i, i < n → c[i]? = some (f i)) : (w.alloc (.cells c t)).rowIs b t n f := by
  subst hb; subst hn; exact World.rowIs_alloc w c t f hc
theorem rowIs_zero {w : World} {c : Array Value} {t : TypeId} {b n : Nat} (z : Value) (hb : b = w.heap.size) (hc : c = Array.replicate n z) : (w.alloc (.cells c t)).rowIs b t n (fun _ => z) := by
  subst hc
  exact rowIs_of hb (by simp) (fun i hi => by simp [hi])
theorem rowIs_list {w : World} {l : List Value} {t : TypeId} {b n : Nat} {f : Nat → Value} (hb : b = w.heap.size) (hn : l.length = n) (hc : ∀ i, i < n → l[i]? = some (f i)) : (w.alloc (.cells l.toArray t)).rowIs b t n f :=
  rowIs_of hb (by simpa using hn) (fun i hi => by simpa using hc i hi)
theorem rowIs_below {w w' : World} {B b : Nat} {t : TypeId} {n : Nat} {f : Nat → Value} (h : w.rowIs b t n f) (hb : Below B w w') (hB : b < B) : w'.rowIs b t n f := h.of_block (hb.block b hB)
theorem rowIs_grow {w d : World} {b : Nat} {t : TypeId} {n : Nat} {f : Nat → Value} (h : w.rowIs b t n f) : (Grow w d).rowIs b t n f := h.of_block ((grow_below w d).block b h.lt)
theorem rowIs_cellB {w w' : World} {b : Nat} {t : TypeId} {n : Nat} {f : Nat → Value} (h : w.rowIs b t n f) (hb : Below w.heap.size w w') {i : Nat} (hi : i < n) : w'.cell? ⟨b, i, none⟩ = some (f i) := (rowIs_below h hb h.lt).cell hi

theorem Below.drewN {B : Nat} {a w : World} (h : Below B a w) (n : Nat) : Below B a (w.drewN n) := ⟨h.os, h.tape, h.output, h.size, h.block⟩
theorem rowIs_two {w : World} {b : Nat} {t : TypeId} {f g : Nat → Value} {v0 v1 : Value} (h : w.rowIs b t 2 f) (h0 : g 0 = v0) (h1 : g 1 = v1) : ((w.setCell ⟨b, 0, none⟩ v0).setCell ⟨b, 1, none⟩ v1).rowIs b t 2 g := by
  subst h0; subst h1
  refine ((h.set 0 _).set 1 _).congr (fun i hi => ?_)
  rcases (by omega : i = 0 ∨ i = 1) with rfl | rfl <;> rfl
/-- a known cell is kept where memory is only made -/
theorem keepc {W w1 : World} (hb : Below W.heap.size W w1) {p : Addr} {v : Value} (h : W.cell? p = some v) : w1.cell? p = some v := by
  rw [hb.cell (World.block_lt_of_cell? W p h)]; exact h

theorem keeps {W : World} {p q : Addr} {v u : Value} (hp : p.block ≠ q.block) (h : W.cell? p = some v) : (W.setCell q u).cell? p = some v := by
  rw [World.cell?_setCell_other W q p u (fun e => hp (by rw [e]))]; exact h

theorem keepa {W : World} {p : Addr} {v : Value} {o o' : Obj} (hp : p.block < W.heap.size) (h : (W.alloc o).cell? p = some v) : (W.alloc o').cell? p = some v := by
  rw [World.cell?_alloc_lt W o p hp] at h
  rw [World.cell?_alloc_lt W o' p hp]; exact h

/-- a word of 64 bits -/
def Wd (x : Int) : Prop := 0 ≤ x ∧ x < 18446744073709551616
/-- a list of bytes' values -/
def bV (l : List UInt8) (i : Nat) : Value := .int .u8 ((l.getD i 0).toNat : Int)
/-- integers' values -/
def iV (d : Nat → Int) (j : Nat) : Value := .int .i64 (d j)
theorem fcongr {f g : Nat → Value} (n : Nat) {w : World} {b : Nat} {t : TypeId} (h : w.rowIs b t n f) (e : ∀ i, i < n → f i = g i) : w.rowIs b t n g := h.congr e
end Go.Proofs.Ytncampbmnbhikaa
