/-
  Base laws for the walks of this seat: a world that has grown ('Grow'), regions that draw their order while their calls make memory, and small helpers.
-/
import Derived.Test.YtnbfnlpepnbppaaRows
import Derived.WalkKit
import Derived.WalkSpells
import Derived.WalkLawsBesides
import Derived.BigQuiet
import Derived.StillTailTactics
import Derived.Deep.QuietTactic
import Derived.Deep.RegionHeld3
import Derived.Lib.Hide
namespace Go.Proofs.Ytnbfnlpepnbppaa
set_option linter.unusedVariables false
set_option linter.unusedSimpArgs false
open Go.RowKit

theorem bcell {W w1 : World} (hb : Below W.heap.size W w1) : (∀ b o, b < W.heap.size → w1.cell? ⟨b, o, none⟩ = W.cell? ⟨b, o, none⟩) ∧ (∀ b o, b < W.heap.size → w1.frozen? ⟨b, o, none⟩ = W.frozen? ⟨b, o, none⟩) :=
  ⟨fun b o h => hb.cell (p := ⟨b, o, none⟩) h, fun b o h => hb.frozen (p := ⟨b, o, none⟩) h⟩

theorem bel_alloc {W w1 : World} (h : Below W.heap.size W w1) (o : Obj) : Below W.heap.size W (w1.alloc o) := h.alloc h.size o
theorem bel_set {W w1 : World} (h : Below W.heap.size W w1) {p : Addr} (hp : W.heap.size ≤ p.block) (u : Value) : Below W.heap.size W (w1.setCell p u) := h.setCell hp u
theorem bel_trans {W w1 w2 : World} (h : Below W.heap.size W w1) (k : Below w1.heap.size w1 w2) : Below W.heap.size W w2 := h.trans (k.mono h.size)

open Classical in
/-- W grown to d, if d is W grown; else W itself -/
noncomputable def Grow (W d : World) : World := if Below W.heap.size W d then d else W
theorem grow_below (W d : World) : Below W.heap.size W (Grow W d) := by
  unfold Grow; split
  · assumption
  · exact Below.refl _ _
theorem grow_of {W d : World} (h : Below W.heap.size W d) : d = Grow W d := by unfold Grow; rw [if_pos h]
theorem grow_cell (W d : World) (b o : Nat) (h : b < W.heap.size) : (Grow W d).cell? ⟨b, o, none⟩ = W.cell? ⟨b, o, none⟩ := (grow_below W d).cell (p := ⟨b, o, none⟩) h
theorem grow_frozen (W d : World) (b o : Nat) (h : b < W.heap.size) : (Grow W d).frozen? ⟨b, o, none⟩ = W.frozen? ⟨b, o, none⟩ := (grow_below W d).frozen (p := ⟨b, o, none⟩) h
theorem grow_size (W d : World) : W.heap.size ≤ (Grow W d).heap.size := (grow_below W d).size
theorem grow_lt (W d : World) (b : Nat) (h : b < W.heap.size) : b < (Grow W d).heap.size := Nat.lt_of_lt_of_le h (grow_size W d)
theorem grow_lt' (W d : World) (b n : Nat) (h : b < W.heap.size) : b < (Grow W d).heap.size + n := by have := grow_lt W d b h; omega
theorem grow_ne (W d : World) (b : Nat) (h : b < W.heap.size) : (b = (Grow W d).heap.size) = False := by have := grow_lt W d b h; simp; omega
theorem grow_ne' (W d : World) (b : Nat) (h : b < W.heap.size) : ((Grow W d).heap.size = b) = False := by have := grow_lt W d b h; simp; omega
attribute [go_sem] grow_cell grow_frozen grow_lt grow_lt' grow_ne grow_ne'
theorem grow_lt_p2 (W d : World) (b : Nat) (h : b < W.heap.size) : b < (Grow W d).heap.size + 1 + 1 := by have := grow_lt W d b h; omega
theorem grow_lt_p3 (W d : World) (b : Nat) (h : b < W.heap.size) : b < (Grow W d).heap.size + 1 + 1 + 1 := by have := grow_lt W d b h; omega
theorem grow_lt_p4 (W d : World) (b : Nat) (h : b < W.heap.size) : b < (Grow W d).heap.size + 1 + 1 + 1 + 1 := by have := grow_lt W d b h; omega
theorem grow_lt_p5 (W d : World) (b : Nat) (h : b < W.heap.size) : b < (Grow W d).heap.size + 1 + 1 + 1 + 1 + 1 := by have := grow_lt W d b h; omega
theorem grow_lt_p6 (W d : World) (b : Nat) (h : b < W.heap.size) : b < (Grow W d).heap.size + 1 + 1 + 1 + 1 + 1 + 1 := by have := grow_lt W d b h; omega
attribute [go_sem] grow_lt_p2 grow_lt_p3 grow_lt_p4 grow_lt_p5 grow_lt_p6
theorem grow_cell_d (W d : World) (b o : Nat) (h : b < W.heap.size) : (Grow W.drew d).cell? ⟨b, o, none⟩ = W.cell? ⟨b, o, none⟩ := grow_cell W.drew d b o h
theorem grow_frozen_d (W d : World) (b o : Nat) (h : b < W.heap.size) : (Grow W.drew d).frozen? ⟨b, o, none⟩ = W.frozen? ⟨b, o, none⟩ := grow_frozen W.drew d b o h
theorem grow_lt_d (W d : World) (b : Nat) (h : b < W.heap.size) : b < (Grow W.drew d).heap.size := grow_lt W.drew d b h
theorem grow_lt'_d (W d : World) (b n : Nat) (h : b < W.heap.size) : b < (Grow W.drew d).heap.size + n := grow_lt' W.drew d b n h
theorem grow_ne_d (W d : World) (b : Nat) (h : b < W.heap.size) : (b = (Grow W.drew d).heap.size) = False := grow_ne W.drew d b h
theorem grow_ne'_d (W d : World) (b : Nat) (h : b < W.heap.size) : ((Grow W.drew d).heap.size = b) = False := grow_ne' W.drew d b h
attribute [go_sem] grow_cell_d grow_frozen_d grow_lt_d grow_lt'_d grow_ne_d grow_ne'_d
theorem lt_2 (a : Nat) : (a < a + 1 + 1) = True := by simp; omega
theorem lt_3 (a : Nat) : (a < a + 1 + 1 + 1) = True := by simp; omega
theorem lt_4 (a : Nat) : (a < a + 1 + 1 + 1 + 1) = True := by simp; omega
theorem lt_5 (a : Nat) : (a < a + 1 + 1 + 1 + 1 + 1) = True := by simp; omega
attribute [go_sem] lt_2 lt_3 lt_4 lt_5
theorem bel_grow {W w1 : World} (h : Below W.heap.size W w1) (d : World) : Below W.heap.size W (Grow w1 d) := bel_trans h (grow_below w1 d)

theorem setCell_drewN (w : World) (a : Addr) (v : Value) (n : Nat) : (w.drewN n).setCell a v = (w.setCell a v).drewN n := rfl
attribute [go_sem] setCell_drewN

theorem grow_alloc (w d : World) (o : Obj) : (Grow w d).alloc o = Grow w ((Grow w d).alloc o) := grow_of (bel_alloc (grow_below w d) o)
theorem grow_self (w : World) : w = Grow w w := grow_of (Below.refl _ _)

section
variable {P : Program}
/-- a region that draws its order, all of whose operations read or call what only makes memory: one walk, in the text's order -/
theorem wp_region_grow {id : Nat} {Q : Exit → Act → World → Prop} {a : Act} {w : World} {l : List Oper} (hm : P.follows .mixedOrders = true) (hB : Region.lexB .any l.toArray = true)
    (h : wpQuiet P l.toArray (fun w' => ∃ d, w' = Grow w d) (fun a' => ∀ w', Below w.heap.size w w' → Q .normal a' w') l a) : (Code.region id l.toArray true).wp P Q a w := by
  refine wp_region_quiet (C := fun w' => ∃ d, w' = Grow w d) hm hB ⟨w.drew, grow_of (Below.refl _ _).drew⟩ ?_
  have e : (fun a' => ∀ w', (∃ d, w' = Grow w d) → Q .normal a' w') = (fun a' => ∀ w', Below w.heap.size w w' → Q .normal a' w') := by
    funext a'; exact propext ⟨fun h w' hb => h w' ⟨w', grow_of hb⟩, fun h w' ⟨d, hd⟩ => h w' (hd ▸ grow_below w d)⟩
  rw [e]; simpa using h

/-- the same, on to the grown world -/
theorem rgrow {id : Nat} {Q : Exit → Act → World → Prop} {a : Act} {w : World} {l : List Oper} (hm : P.follows .mixedOrders = true) (hB : Region.lexB .any l.toArray = true)
    (h : wpQuiet P l.toArray (fun w' => ∃ d, w' = Grow w d) (fun a' => ∀ d, Q .normal a' (Grow w d)) l a) : (Code.region id l.toArray true).wp P Q a w := by
  refine wp_region_quiet (C := fun w' => ∃ d, w' = Grow w d) hm hB ⟨w.drew, grow_of (Below.refl _ _).drew⟩ ?_
  have e : (fun a' => ∀ w', (∃ d, w' = Grow w d) → Q .normal a' w') = (fun a' => ∀ d, Q .normal a' (Grow w d)) := by
    funext a'; exact propext ⟨fun h d => h _ ⟨d, rfl⟩, fun h w' ⟨d, hd⟩ => hd ▸ h d⟩
  rw [e]; simpa using h
theorem rgrow2 {id : Nat} {Q : Exit → Act → World → Prop} {a : Act} {w n : World} {l : List Oper} (hm : P.follows .mixedOrders = true) (hB : Region.lexB .any l.toArray = true)
    (h : wpQuiet P l.toArray (fun w' => ∃ d, w' = Grow w d) (fun a' => ∀ d, Q .normal a' (Grow w d)) l a) : (Code.region id l.toArray true).wp P Q a (Grow w n) := by
  refine wp_region_quiet (C := fun w' => ∃ d, w' = Grow w d) hm hB ⟨(Grow w n).drew, grow_of (grow_below w n).drew⟩ ?_
  have e : (fun a' => ∀ w', (∃ d, w' = Grow w d) → Q .normal a' w') = (fun a' => ∀ d, Q .normal a' (Grow w d)) := by
    funext a'; exact propext ⟨fun h d => h _ ⟨d, rfl⟩, fun h w' ⟨d, hd⟩ => hd ▸ h d⟩
  rw [e]; simpa using h

theorem grow_call {f : FuncId} {args : Array Value} {W n : World} {v : Value}
    (h : Calls P f args (Grow W n) fun e w' => e = .returned v ∧ Below (Grow W n).heap.size (Grow W n) w') : Calls P f args (Grow W n) fun e w'' => e = .returned v ∧ ∃ d, w'' = Grow W d :=
  h.mono fun _ w' ⟨he, hb⟩ => ⟨he, w', grow_of ((grow_below W n).trans (hb.mono (grow_size W n)))⟩

theorem gro {f : FuncId} {args : Array Value} {w : World} {v : Value} (h : Calls P f args w fun e w' => e = .returned v ∧ Below w.heap.size w w') :
    Calls P f args w fun e w' => e = .returned v ∧ ∃ d, w' = Grow w d := h.mono fun _ w' ⟨he, hb⟩ => ⟨he, w', grow_of hb⟩

theorem gro_d {f : FuncId} {args : Array Value} {W : World} {v : Value} (h : Calls P f args W.drew fun e w' => e = .returned v ∧ Below W.drew.heap.size W.drew w') :
    Calls P f args W.drew fun e w' => e = .returned v ∧ ∃ d, w' = Grow W d := h.mono fun _ w' ⟨he, hb⟩ => ⟨he, w', grow_of ((Below.refl _ _).drew.trans hb)⟩
theorem grow_call_d {f : FuncId} {args : Array Value} {W n : World} {v : Value} (h : Calls P f args (Grow W n).drew fun e w' => e = .returned v ∧ Below (Grow W n).drew.heap.size (Grow W n).drew w') :
    Calls P f args (Grow W n).drew fun e w' => e = .returned v ∧ ∃ d, w' = Grow W d := h.mono fun _ w' ⟨he, hb⟩ => ⟨he, w', grow_of ((grow_below W n).drew.trans (hb.mono (grow_size W n)))⟩
/-- .. seen from an elder world -/
theorem gro_to {f : FuncId} {args : Array Value} {W X : World} {v : Value} (hW : Below W.heap.size W X) (h : Calls P f args X fun e w' => e = .returned v ∧ Below X.heap.size X w') :
    Calls P f args X fun e w' => e = .returned v ∧ ∃ d, w' = Grow W d := h.mono fun _ w' ⟨he, hb⟩ => ⟨he, w', grow_of (hW.trans (hb.mono hW.size))⟩
theorem collapse {Q : World → Prop} {W X : World} (hb : Below W.heap.size W X) (h : ∀ d, Q (Grow W d)) : Q X := (grow_of hb) ▸ h X

theorem wp_region_tail {id : Nat} {Q : Exit → Act → World → Prop} {a : Act} {w : World} {l : List Oper} (n : Nat) (hm : P.follows .mixedOrders = true) (hB : Region.lexTailB .any l.toArray n = true)
    (h : wpStill P l.toArray w.drew (fun a' => wpList P l.toArray Q (l.drop n) a' w.drew) (l.take n) a) : (Code.region id l.toArray true).wp P Q a w :=
  wp_region_still_tail n hm hB h
end
end Go.Proofs.Ytnbfnlpepnbppaa
