/-
  A disk whose blocks are of a set; the methods so.
-/
import Derived.Test.YtnbfnlpepnbppaaDkR
namespace Go.Proofs.Ytnbfnlpepnbppaa
set_option linter.unusedVariables false
set_option linter.unusedSimpArgs false
open Go.RowKit Go.Shelf
attribute [local irreducible] bytesL

def DkX (w : World) (B : Nat) (X : Nat → Prop) (d : DS) : Prop := ∃ G, DkIs w B G d ∧ ∀ k, G k → X k
section
variable {w w' : World} {B : Nat} {X : Nat → Prop} {d : DS}
theorem DkX.tch {Q : Nat → Prop} (h : DkX w B X d) (ht : Tch Q w w') (hq : ∀ k, X k → ¬ Q k) : DkX w' B X d := by
  obtain ⟨G, h1, h2⟩ := h
  exact ⟨G, h1.tch ht (fun k hk => hq k (h2 k hk)), h2⟩
theorem DkX.kept (h : DkX w B X d) (hb : Below w.heap.size w w') : DkX w' B X d := h.tch (Q := fun _ => False) (tch_of hb _) (fun _ _ => id)
theorem DkX.cut {Y : Nat → Prop} (h : DkX w B X d) (hy : ∀ k, X k → k < w.heap.size → Y k) : DkX w B Y d := by
  obtain ⟨G, h1, h2⟩ := h
  exact ⟨G, h1, fun k hk => hy k (h2 k hk) (h1.lt k hk)⟩
theorem newX (n : Nat) (h8 : 8 ≤ n) (h9 : n ≤ 4096) (w : World) : Calls Try.prog 9 #[.int .i64 n] w fun r w' => ∃ B, r = .returned (.tuple #[.pointer (some ⟨B, 0, none⟩), .int .i64 0]) ∧ DkX w' B (fun k => w.heap.size ≤ k) (DS.new n) ∧ Below w.heap.size w w' :=
  (new_ok n h8 h9 w).mono (fun r w' ⟨B, h1, h2, h3⟩ => ⟨B, h1, ⟨_, h2, fun _ hk => hk.1⟩, h3⟩)
theorem fuseX (z : Int) (w : World) (h : DkX w B X d) : Calls Try.prog 16 #[.pointer (some ⟨B, 0, none⟩), .int .i64 z] w fun r w' => r = .returned (.tuple #[]) ∧ DkX w' B X (d.fuse z) ∧ Tch X w w' := by
  obtain ⟨G, h1, h2⟩ := h
  refine (fuse_any B G d z w h1).mono ?_
  rintro r w' ⟨e, h3, h4⟩
  exact ⟨e, ⟨G, h3, h2⟩, h4.mono (fun k _ x => by rw [x]; exact h2 _ h1.gB)⟩
theorem writeX (z : Int) (A : Option Addr) (len c : Nat) (e : Nat → Int) (hlc : len ≤ c) (hcm : c ≤ maxLen) (hn : d.n ≤ 4096) (hm : d.m ≤ 100000) (hk : d.k ≤ 100000) (hf : d.f < 9223372036854775808) (w : World) (h : DkX w B X d) (hX : ∀ k, w.heap.size ≤ k → X k) (hs : SlIs w A len (fun j => .int .u8 (e j))) :
    Calls Try.prog 12 #[.pointer (some ⟨B, 0, none⟩), .int .i64 z, .slice A len c] w fun r w' => r = .returned (.int .i64 (d.werr z len)) ∧ DkX w' B X (d.write z len e) ∧ Tch X w w' := by
  obtain ⟨G, h1, h2⟩ := h
  refine (write_any B G d z A len c e hlc hcm hn hm hk hf w h1 hs).mono ?_
  rintro r w' ⟨e1, G', h3, h4, h5, h6⟩
  exact ⟨e1, ⟨G', h3, fun k hk => by
    rcases h5 k hk with x | x
    · exact h2 k x
    · exact hX k x.1⟩, h6.mono (fun k _ x => h2 k x)⟩
theorem syncX (hn0 : 0 < d.n) (hn : d.n ≤ 4096) (hm : d.m ≤ 100000) (hP : ∀ i, i < d.m → d.P i < d.n) (hf : d.f < 9223372036854775808) (w : World) (h : DkX w B X d) :
    Calls Try.prog 17 #[.pointer (some ⟨B, 0, none⟩)] w fun r w' => r = .returned (.int .i64 d.serr) ∧ DkX w' B X d.sync ∧ Tch X w w' := by
  obtain ⟨G, h1, h2⟩ := h
  refine (sync_any B G d hn0 hn hm hP hf w h1).mono ?_
  rintro r w' ⟨e1, h3, h4⟩
  exact ⟨e1, ⟨G, h3, h2⟩, h4.mono (fun k _ x => h2 k x)⟩
theorem crashX (A : Option Addr) (nl c : Nat) (lf lt : Nat → Int) (hlc : nl ≤ c) (hcm : c ≤ maxLen) (hn0 : 0 < d.n) (hn : d.n ≤ 4096) (hm : d.m ≤ 100000) (hP : ∀ i, i < d.m → d.P i < d.n) (w : World) (h : DkX w B X d) (hs : SsIs w A nl 2 (fun i => [.int .i64 (lf i), .int .i64 (lt i)])) (hfar : ∀ a, A = some a → 0 < nl → a.block < w.heap.size → ¬ X a.block) :
    Calls Try.prog 19 #[.pointer (some ⟨B, 0, none⟩), .slice A nl c] w fun r w' => r = .returned (.tuple #[]) ∧ DkX w' B X (d.crash lf lt nl) ∧ Tch X w w' := by
  obtain ⟨G, h1, h2⟩ := h
  refine (crash_any B G d A nl c lf lt hlc hcm hn0 hn hm hP w h1 hs (fun a e y x g => hfar a e y x (h2 _ g))).mono ?_
  rintro r w' ⟨e1, h3, h4⟩
  exact ⟨e1, ⟨G, h3, h2⟩, h4.mono (fun k _ x => h2 k x)⟩
theorem readX (z : Int) (hn : d.n ≤ 4096) (hm : d.m ≤ 100000) (w : World) (h : DkX w B X d) :
    Calls Try.prog 14 #[.pointer (some ⟨B, 0, none⟩), .int .i64 z] w fun r w' => ∃ v, r = .returned (.tuple #[v, .int .i64 (d.rerr z)]) ∧ (d.rerr z ≠ 0 → v = .slice none 0 0) ∧ (d.rerr z = 0 → OwnS w' w.heap.size 5 1 v 512 (fun j => [.int .u8 (d.cur z.toNat j)])) ∧ DkX w' B X d ∧ Below w.heap.size w w' := by
  have h0 := h
  obtain ⟨G, h1, h2⟩ := h
  refine (read_any B G d z hn hm w h1).mono ?_
  rintro r w' ⟨v, e1, h3, h4, h5⟩
  exact ⟨v, e1, h3, h4, h0.kept h5, h5⟩
theorem downX (w : World) (h : DkX w B X d) : Calls Try.prog 18 #[.pointer (some ⟨B, 0, none⟩)] w fun r w' => r = .returned (.bool d.dn) ∧ w' = w := by
  obtain ⟨G, h1, _⟩ := h
  exact down_any B G d w h1
theorem waitsX (w : World) (h : DkX w B X d) : Calls Try.prog 22 #[.pointer (some ⟨B, 0, none⟩)] w fun r w' => r = .returned (.int .i64 d.m) ∧ w' = w := by
  obtain ⟨G, h1, _⟩ := h
  exact waits_any B G d w h1
theorem writesX (w : World) (h : DkX w B X d) : Calls Try.prog 35 #[.pointer (some ⟨B, 0, none⟩)] w fun r w' => r = .returned (.int .i64 d.k) ∧ w' = w := by
  obtain ⟨G, h1, _⟩ := h
  exact writes_any B G d w h1
theorem blocksX (w : World) (h : DkX w B X d) : Calls Try.prog 36 #[.pointer (some ⟨B, 0, none⟩)] w fun r w' => r = .returned (.int .i64 d.n) ∧ w' = w := by
  obtain ⟨G, h1, _⟩ := h
  exact blocks_any B G d w h1
theorem copyX (hn : d.n ≤ 4096) (hm : d.m ≤ 100000) (w : World) (h : DkX w B X d) : Calls Try.prog 23 #[.pointer (some ⟨B, 0, none⟩)] w fun r w' => ∃ B', r = .returned (.pointer (some ⟨B', 0, none⟩)) ∧ DkX w' B' (fun k => w.heap.size ≤ k ∧ k < w'.heap.size) d ∧ DkX w' B X d ∧ Below w.heap.size w w' := by
  have h0 := h
  obtain ⟨G, h1, h2⟩ := h
  refine (copy_any B G d hn hm w h1).mono ?_
  rintro r w' ⟨B', e1, h3, h4⟩
  exact ⟨B', e1, ⟨_, h3, fun _ hk => hk⟩, h0.kept h4, h4⟩
end
end Go.Proofs.Ytnbfnlpepnbppaa
