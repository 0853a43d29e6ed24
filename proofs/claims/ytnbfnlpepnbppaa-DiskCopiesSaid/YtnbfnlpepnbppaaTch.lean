/-
  What a piece of code may turn; rows of structs as functions.
-/
import Derived.Test.YtnbfnlpepnbppaaRet
namespace Go.Proofs.Ytnbfnlpepnbppaa
set_option linter.unusedVariables false
set_option linter.unusedSimpArgs false
open Go.RowKit

/-- of what lay, only blocks of S may have turned -/
structure Tch (S : Nat → Prop) (w w' : World) : Prop where
  os : w'.os = w.os
  tape : w'.tape = w.tape
  output : w'.output = w.output
  size : w.heap.size ≤ w'.heap.size
  block : ∀ k, k < w.heap.size → ¬ S k → w'.heap[k]? = w.heap[k]?
section
variable {S S' : Nat → Prop} {a b c : World}
theorem Tch.refl (S : Nat → Prop) (w : World) : Tch S w w := ⟨rfl, rfl, rfl, Nat.le_refl _, fun _ _ _ => rfl⟩
theorem Tch.trans (h : Tch S a b) (k : Tch S b c) : Tch S a c :=
  ⟨k.os.trans h.os, k.tape.trans h.tape, k.output.trans h.output, Nat.le_trans h.size k.size, fun i hi hs => (k.block i (Nat.lt_of_lt_of_le hi h.size) hs).trans (h.block i hi hs)⟩
theorem Tch.mono (h : Tch S a b) (hs : ∀ k, k < a.heap.size → S k → S' k) : Tch S' a b := ⟨h.os, h.tape, h.output, h.size, fun k hk hn => h.block k hk (fun e => hn (hs k hk e))⟩
theorem tch_of (h : Below a.heap.size a b) (S : Nat → Prop) : Tch S a b := ⟨h.os, h.tape, h.output, h.size, fun k hk _ => h.block k hk⟩
theorem Tch.below {B : Nat} (h : Tch S a b) (hB : B ≤ a.heap.size) (hs : ∀ k, k < B → ¬ S k) : Below B a b := ⟨h.os, h.tape, h.output, h.size, fun k hk => h.block k (Nat.lt_of_lt_of_le hk hB) (hs k hk)⟩
/-- what lies beyond where it began is of no account -/
theorem Tch.trans2 (h : Tch S a b) (k : Tch S' b c) (hs : ∀ k, k < a.heap.size → S' k → S k) : Tch S a c :=
  ⟨k.os.trans h.os, k.tape.trans h.tape, k.output.trans h.output, Nat.le_trans h.size k.size, fun i hi hn => (k.block i (Nat.lt_of_lt_of_le hi h.size) (fun e => hn (hs i hi e))).trans (h.block i hi hn)⟩
theorem Tch.set (h : Tch S a b) {p : Addr} (hp : p.block < a.heap.size → S p.block) (u : Value) : Tch S a (b.setCell p u) := by
  refine ⟨h.os, h.tape, h.output, ?_, fun k hk hn => ?_⟩
  · have : (b.setCell p u).heap.size = b.heap.size := by unfold World.setCell; simp
    rw [this]; exact h.size
  · rw [Below.heap_setCell b p u k (fun e => hn (by rw [e]; exact hp (by rw [← e]; exact hk)))]; exact h.block k hk hn
theorem Tch.setRow (h : Tch S a b) {g : Nat} (hp : g < a.heap.size → S g) (cs : Array Value) : Tch S a (b.setRow g cs) := by
  refine ⟨h.os, h.tape, h.output, ?_, fun k hk hn => ?_⟩
  · have : (b.setRow g cs).heap.size = b.heap.size := by unfold World.setRow; simp
    rw [this]; exact h.size
  · rw [setRow_other b g k cs (fun e => hn (by rw [e]; exact hp (by rw [← e]; exact hk)))]; exact h.block k hk hn
theorem Tch.alloc (h : Tch S a b) (o : Obj) : Tch S a (b.alloc o) := h.trans (tch_of (bel_alloc (Below.refl _ _) o) S)
theorem Tch.drew (h : Tch S a b) : Tch S a b.drew := h.trans (tch_of (Below.drew (Below.refl _ _)) S)
theorem Tch.bel (h : Tch S a b) (k : Below b.heap.size b c) : Tch S a c := h.trans (tch_of k S)
theorem Tch.cell (h : Tch S a b) {p : Addr} (hp : p.block < a.heap.size) (hs : ¬ S p.block) : b.cell? p = a.cell? p := World.cell?_of_block (h.block _ hp hs)
theorem Tch.frozen (h : Tch S a b) {p : Addr} (hp : p.block < a.heap.size) (hs : ¬ S p.block) : b.frozen? p = a.frozen? p := World.frozen?_of_block (h.block _ hp hs)
theorem Blk.tch {g : Nat} {t : TypeId} {cs : Array Value} (h : Blk a g t cs) (k : Tch S a b) (hs : ¬ S g) : Blk b g t cs := (k.block g h.lt hs).trans h
end

/-- n structs of k cells each, in one list -/
def rowC (n : Nat) (f : Nat → List Value) : List Value := (List.range n).flatMap f
def updL (f : Nat → List Value) (i : Nat) (l : List Value) : Nat → List Value := fun m => if m = i then l else f m
theorem updL_len {f : Nat → List Value} {k i : Nat} {l : List Value} (hf : ∀ m, (f m).length = k) (hl : l.length = k) (m : Nat) : (updL f i l m).length = k := by
  unfold updL; split
  · exact hl
  · exact hf m
theorem rowC_len {f : Nat → List Value} {k : Nat} (hf : ∀ i, (f i).length = k) (n : Nat) : (rowC n f).length = n * k := fm_len hf n
theorem rowC_at {f : Nat → List Value} {k : Nat} (hf : ∀ i, (f i).length = k) {i j n : Nat} (hj : j < k) (hi : i < n) : (rowC n f)[i * k + j]? = (f i)[j]? := fm_at hf hj hi
theorem rowC_split {f : Nat → List Value} {n i : Nat} (hi : i < n) : rowC n f = rowC i f ++ f i ++ (List.range (n - i - 1)).flatMap (fun j => f (i + 1 + j)) := by
  unfold rowC
  have e : List.range n = List.range i ++ [i] ++ (List.range (n - i - 1)).map (fun j => i + 1 + j) := by
    have h : n = (i + 1) + (n - i - 1) := by omega
    rw [show List.range n = List.range ((i + 1) + (n - i - 1)) by rw [← h], List.range_add, List.range_succ]
  rw [e, List.flatMap_append, List.flatMap_append, List.flatMap_map]
  simp
theorem rowC_congr {f g : Nat → List Value} {n : Nat} (h : ∀ i, i < n → f i = g i) : rowC n f = rowC n g := by
  unfold rowC
  induction n with
  | zero => rfl
  | succ n ih => rw [List.range_succ, List.flatMap_append, List.flatMap_append, ih (fun i hi => h i (by omega))]; simp [h n (by omega)]
theorem rowC_upd {f : Nat → List Value} {k n i : Nat} {l : List Value} (hf : ∀ i, (f i).length = k) (hl : l.length = k) (hi : i < n) : (rowC n f).take (i * k) ++ l ++ (rowC n f).drop (i * k + k) = rowC n (updL f i l) := by
  rw [rowC_split (f := updL f i l) hi, rowC_split (f := f) hi]
  have e1 : rowC i (updL f i l) = rowC i f := rowC_congr (fun m hm => by unfold updL; rw [if_neg (by omega)])
  have e2 : updL f i l i = l := by unfold updL; rw [if_pos rfl]
  have e3 : (fun j => updL f i l (i + 1 + j)) = fun j => f (i + 1 + j) := by funext j; unfold updL; rw [if_neg (by omega)]
  rw [e1, e2, e3]
  have hlen : (rowC i f).length = i * k := rowC_len hf i
  rw [List.append_assoc (rowC i f), List.take_append_of_le_length (by omega), List.take_of_length_le (by omega)]
  rw [← List.append_assoc (rowC i f), List.drop_append]
  have h4 : (rowC i f ++ f i).length = i * k + k := by rw [List.length_append, hlen, hf]
  rw [List.drop_of_length_le (by omega), h4, Nat.sub_self, List.drop_zero, List.nil_append]
theorem rowC_extract {f : Nat → List Value} {k n i : Nat} (hf : ∀ i, (f i).length = k) (hi : i < n) : (rowC n f).toArray.extract (i * k) (i * k + k) = (f i).toArray := by
  apply Array.ext'
  rw [Array.toList_extract]
  simp only [List.extract_eq_take_drop]
  rw [Nat.add_sub_cancel_left, rowC_split hi, List.append_assoc, List.drop_append, rowC_len hf, Nat.sub_self, List.drop_zero, List.drop_of_length_le (by rw [rowC_len hf]; omega), List.nil_append, List.take_append_of_le_length (by rw [hf]; omega), List.take_of_length_le (by rw [hf]; omega)]
section
variable {P : Program} {ty t : TypeId} {k : Nat} {w : World} {g cap : Nat} {f : Nat → List Value}
/-- a struct loaded out of a row -/
theorem load_at (h : Blk w g t (rowC cap f).toArray) (hf : ∀ i, (f i).length = k) {i : Nat} (hi : i < cap) : loadV P ty k w (.pointer (some ⟨g, i * k, none⟩)) = .ok (.agg (f i).toArray) w := by
  have hle : i * k + k ≤ cap * k := by
    have := Nat.mul_le_mul_right k (show i + 1 ≤ cap from hi)
    rw [Nat.add_mul] at this; omega
  rw [loadV_ptr, rowAt_blk h]
  simp only [List.size_toArray]
  rw [if_pos (by rw [rowC_len hf]; exact hle), rowC_extract hf hi]
/-- a struct stored into a row -/
theorem store_at (h : Blk w g t (rowC cap f).toArray) (hf : ∀ i, (f i).length = k) {i : Nat} (hi : i < cap) {l : List Value} (hl : l.length = k) (h1 : ∀ u ∈ l, u.oneCell' = true) : storeV P ty k w (.pointer (some ⟨g, i * k, none⟩)) (.agg l.toArray) = .ok () (w.setRow g (rowC cap (updL f i l)).toArray) := by
  have hle : i * k + k ≤ cap * k := by
    have := Nat.mul_le_mul_right k (show i + 1 ≤ cap from hi)
    rw [Nat.add_mul] at this; omega
  rw [storeV_ptr, rowAt_blk h]
  simp only [List.size_toArray]
  rw [if_pos ⟨by rw [rowC_len hf]; exact hle, hl, by simpa using h1⟩, rowC_upd hf hl hi]
end
/-- a row of the call's own, whole -/
theorem OwnS.row {w : World} {base : Nat} {e : TypeId} {k : Nat} {v : Value} {n : Nat} {f : Nat → List Value} (h : OwnS w base e k v n f) (hf : ∀ i, (f i).length = k) (hn : 0 < n) :
    ∃ g cap F, v = .slice (some ⟨g, 0, none⟩) n cap ∧ base ≤ g ∧ n ≤ cap ∧ cap ≤ maxLen ∧ Blk w g e (rowC cap F).toArray ∧ (∀ i, (F i).length = k) ∧ ∀ i, i < n → F i = f i := by
  obtain ⟨hl, h2⟩ := h
  rcases h2 with ⟨_, rfl⟩ | ⟨g, cap, cur, rfl, hb, hh, h3, h4, h5, h6⟩
  · omega
  · have hlen : ∀ i, i < cap → (cur.extract (i * k) (i * k + k)).toList.length = k := fun i hi => by
      have := Nat.mul_le_mul_right k (show i + 1 ≤ cap from hi)
      rw [Nat.add_mul] at this
      simp; omega
    have hall : ∀ m, m ≤ cap → (List.range m).flatMap (fun i => (cur.extract (i * k) (i * k + k)).toList) = cur.toList.take (m * k) := by
      intro m
      induction m with
      | zero => intro _; simp
      | succ m ih =>
        intro hm
        rw [List.range_succ, List.flatMap_append, ih (by omega)]
        simp only [List.flatMap_cons, List.flatMap_nil, List.append_nil]
        rw [Array.toList_extract]
        simp only [List.extract_eq_take_drop]
        rw [Nat.add_sub_cancel_left, Nat.add_mul, Nat.one_mul, ← List.take_add]
    refine ⟨g, cap, fun i => if i < cap then (cur.extract (i * k) (i * k + k)).toList else List.replicate k .nilIface, rfl, hb, h3, h4, ?_, fun i => ?_, fun i hi => ?_⟩
    · have e1 : rowC cap (fun i => if i < cap then (cur.extract (i * k) (i * k + k)).toList else List.replicate k .nilIface) = cur.toList := by
        rw [rowC_congr (g := fun i => (cur.extract (i * k) (i * k + k)).toList) (fun i hi => by rw [if_pos hi])]
        unfold rowC
        rw [hall cap (Nat.le_refl _), List.take_of_length_le (by simp; omega)]
      unfold Blk
      rw [e1]; simpa using hh
    · dsimp only; split
      · rename_i hi; exact hlen i hi
      · simp
    · dsimp only
      rw [if_pos (by omega)]
      have hx : ∀ j, j < k → (cur.toList)[i * k + j]? = (f i)[j]? := fun j hj => by
        have h7 := fm_at hf hj hi
        rw [← h6, List.getElem?_take] at h7
        have h8 : i * k + j < n * k := by
          have := Nat.mul_le_mul_right k (show i + 1 ≤ n from hi)
          rw [Nat.add_mul] at this; omega
        rw [if_pos h8] at h7
        exact h7
      apply List.ext_getElem?
      intro j
      by_cases hj : j < k
      · rw [← hx j hj, Array.toList_extract]
        simp only [List.extract_eq_take_drop]
        rw [Nat.add_sub_cancel_left, List.getElem?_take, if_pos hj, List.getElem?_drop]
      · rw [List.getElem?_eq_none (by rw [hlen i (by omega)]; omega), List.getElem?_eq_none (by rw [hf]; omega)]
theorem OwnS.of_row {w : World} {base : Nat} {e : TypeId} {k : Nat} {n g cap : Nat} {F f : Nat → List Value} (h : Blk w g e (rowC cap F).toArray) (hF : ∀ i, (F i).length = k) (hf : ∀ i, i < n → F i = f i) (hb : base ≤ g) (h1 : n ≤ cap) (h2 : cap ≤ maxLen) :
    OwnS w base e k (.slice (some ⟨g, 0, none⟩) n cap) n f := by
  have e1 : (List.range n).flatMap f = rowC n F := (rowC_congr hf).symm
  unfold OwnS
  rw [e1]
  refine ⟨rowC_len hF n, Or.inr ⟨g, cap, (rowC cap F).toArray, rfl, hb, h, h1, h2, by simp [rowC_len hF], ?_⟩⟩
  unfold rowC
  have e2 : List.range cap = List.range n ++ (List.range (cap - n)).map (fun j => n + j) := by rw [← List.range_add, Nat.add_sub_cancel' h1]
  rw [e2, List.flatMap_append]
  have hlen : ((List.range n).flatMap F).length = n * k := fm_len hF n
  rw [List.take_append_of_le_length (by omega), List.take_of_length_le (by omega)]

end Go.Proofs.Ytnbfnlpepnbppaa
