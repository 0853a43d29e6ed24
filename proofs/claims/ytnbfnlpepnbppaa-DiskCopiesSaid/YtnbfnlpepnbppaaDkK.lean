/-
  A disk whose blocks lie in a span; the methods so; fixed, walked.
-/
import Derived.Test.YtnbfnlpepnbppaaDkJ
namespace Go.Proofs.Ytnbfnlpepnbppaa
set_option linter.unusedVariables false
set_option linter.unusedSimpArgs false
open Go.RowKit Go.Shelf
attribute [local irreducible] bytesL

def DkL (w : World) (B lo hi : Nat) (d : DS) : Prop := ∃ G, DkIs w B G d ∧ ∀ k, G k → lo ≤ k ∧ k < hi
section
variable {w w' : World} {B lo hi : Nat} {d : DS}
theorem DkL.tch {Q : Nat → Prop} (h : DkL w B lo hi d) (ht : Tch Q w w') (hq : ∀ k, lo ≤ k → k < hi → ¬ Q k) : DkL w' B lo hi d := by
  obtain ⟨G, h1, h2⟩ := h
  exact ⟨G, h1.tch ht (fun k hk => hq k (h2 k hk).1 (h2 k hk).2), h2⟩
theorem DkL.kept (h : DkL w B lo hi d) (hb : Below w.heap.size w w') : DkL w' B lo hi d := h.tch (Q := fun _ => False) (tch_of hb _) (fun _ _ _ => id)
theorem DkL.up {hi' : Nat} (h : DkL w B lo hi d) (hh : hi ≤ hi') : DkL w B lo hi' d := by
  obtain ⟨G, h1, h2⟩ := h
  exact ⟨G, h1, fun k hk => ⟨(h2 k hk).1, Nat.lt_of_lt_of_le (h2 k hk).2 hh⟩⟩
theorem newL (n : Nat) (h8 : 8 ≤ n) (h9 : n ≤ 4096) (w : World) : Calls Try.prog 9 #[.int .i64 n] w fun r w' => ∃ B, r = .returned (.tuple #[.pointer (some ⟨B, 0, none⟩), .int .i64 0]) ∧ DkL w' B w.heap.size w'.heap.size (DS.new n) ∧ Below w.heap.size w w' :=
  (new_ok n h8 h9 w).mono (fun r w' ⟨B, h1, h2, h3⟩ => ⟨B, h1, ⟨_, h2, fun _ hk => hk⟩, h3⟩)
theorem fuseL (z : Int) (w : World) (h : DkL w B lo hi d) : Calls Try.prog 16 #[.pointer (some ⟨B, 0, none⟩), .int .i64 z] w fun r w' => r = .returned (.tuple #[]) ∧ DkL w' B lo hi (d.fuse z) ∧ Tch (fun k => lo ≤ k ∧ k < hi) w w' := by
  obtain ⟨G, h1, h2⟩ := h
  refine (fuse_any B G d z w h1).mono ?_
  rintro r w' ⟨e, h3, h4⟩
  exact ⟨e, ⟨G, h3, h2⟩, h4.mono (fun k _ x => by rw [x]; exact h2 _ h1.gB)⟩
theorem writeL (z : Int) (A : Option Addr) (len c : Nat) (e : Nat → Int) (hlc : len ≤ c) (hcm : c ≤ maxLen) (hn : d.n ≤ 4096) (hm : d.m ≤ 100000) (hk : d.k ≤ 100000) (hf : d.f < 9223372036854775808) (w : World) (h : DkL w B lo hi d) (hhi : hi ≤ w.heap.size) (hlh : lo ≤ hi) (hs : SlIs w A len (fun j => .int .u8 (e j))) :
    Calls Try.prog 12 #[.pointer (some ⟨B, 0, none⟩), .int .i64 z, .slice A len c] w fun r w' => r = .returned (.int .i64 (d.werr z len)) ∧ DkL w' B lo w'.heap.size (d.write z len e) ∧ Tch (fun k => lo ≤ k ∧ k < hi) w w' := by
  obtain ⟨G, h1, h2⟩ := h
  refine (write_any B G d z A len c e hlc hcm hn hm hk hf w h1 hs).mono ?_
  rintro r w' ⟨e1, G', h3, h4, h5, h6⟩
  have hsz := h6.size
  exact ⟨e1, ⟨G', h3, fun k hk => by
    rcases h5 k hk with x | x
    · have := h2 k x; omega
    · omega⟩, h6.mono (fun k _ x => h2 k x)⟩
theorem syncL (hn0 : 0 < d.n) (hn : d.n ≤ 4096) (hm : d.m ≤ 100000) (hP : ∀ i, i < d.m → d.P i < d.n) (hf : d.f < 9223372036854775808) (w : World) (h : DkL w B lo hi d) :
    Calls Try.prog 17 #[.pointer (some ⟨B, 0, none⟩)] w fun r w' => r = .returned (.int .i64 d.serr) ∧ DkL w' B lo hi d.sync ∧ Tch (fun k => lo ≤ k ∧ k < hi) w w' := by
  obtain ⟨G, h1, h2⟩ := h
  refine (sync_any B G d hn0 hn hm hP hf w h1).mono ?_
  rintro r w' ⟨e1, h3, h4⟩
  exact ⟨e1, ⟨G, h3, h2⟩, h4.mono (fun k _ x => h2 k x)⟩
theorem crashL (A : Option Addr) (nl c : Nat) (lf lt : Nat → Int) (hlc : nl ≤ c) (hcm : c ≤ maxLen) (hn0 : 0 < d.n) (hn : d.n ≤ 4096) (hm : d.m ≤ 100000) (hP : ∀ i, i < d.m → d.P i < d.n) (w : World) (h : DkL w B lo hi d) (hs : SsIs w A nl 2 (fun i => [.int .i64 (lf i), .int .i64 (lt i)])) (hfar : ∀ a, A = some a → a.block < w.heap.size → a.block < lo ∨ hi ≤ a.block) :
    Calls Try.prog 19 #[.pointer (some ⟨B, 0, none⟩), .slice A nl c] w fun r w' => r = .returned (.tuple #[]) ∧ DkL w' B lo hi (d.crash lf lt nl) ∧ Tch (fun k => lo ≤ k ∧ k < hi) w w' := by
  obtain ⟨G, h1, h2⟩ := h
  refine (crash_any B G d A nl c lf lt hlc hcm hn0 hn hm hP w h1 hs (fun a e _ x g => by have := h2 _ g; have := hfar a e x; omega)).mono ?_
  rintro r w' ⟨e1, h3, h4⟩
  exact ⟨e1, ⟨G, h3, h2⟩, h4.mono (fun k _ x => h2 k x)⟩
theorem readL (z : Int) (hn : d.n ≤ 4096) (hm : d.m ≤ 100000) (w : World) (h : DkL w B lo hi d) :
    Calls Try.prog 14 #[.pointer (some ⟨B, 0, none⟩), .int .i64 z] w fun r w' => ∃ v, r = .returned (.tuple #[v, .int .i64 (d.rerr z)]) ∧ (d.rerr z ≠ 0 → v = .slice none 0 0) ∧ (d.rerr z = 0 → OwnS w' w.heap.size 5 1 v 512 (fun j => [.int .u8 (d.cur z.toNat j)])) ∧ DkL w' B lo hi d ∧ Below w.heap.size w w' := by
  have h0 := h
  obtain ⟨G, h1, h2⟩ := h
  refine (read_any B G d z hn hm w h1).mono ?_
  rintro r w' ⟨v, e1, h3, h4, h5⟩
  exact ⟨v, e1, h3, h4, h0.kept h5, h5⟩
theorem downL (w : World) (h : DkL w B lo hi d) : Calls Try.prog 18 #[.pointer (some ⟨B, 0, none⟩)] w fun r w' => r = .returned (.bool d.dn) ∧ w' = w := by
  obtain ⟨G, h1, _⟩ := h
  exact down_any B G d w h1
theorem waitsL (w : World) (h : DkL w B lo hi d) : Calls Try.prog 22 #[.pointer (some ⟨B, 0, none⟩)] w fun r w' => r = .returned (.int .i64 d.m) ∧ w' = w := by
  obtain ⟨G, h1, _⟩ := h
  exact waits_any B G d w h1
theorem copyL (hn : d.n ≤ 4096) (hm : d.m ≤ 100000) (w : World) (h : DkL w B lo hi d) : Calls Try.prog 23 #[.pointer (some ⟨B, 0, none⟩)] w fun r w' => ∃ B', r = .returned (.pointer (some ⟨B', 0, none⟩)) ∧ DkL w' B' w.heap.size w'.heap.size d ∧ DkL w' B lo hi d ∧ Below w.heap.size w w' := by
  have h0 := h
  obtain ⟨G, h1, h2⟩ := h
  refine (copy_any B G d hn hm w h1).mono ?_
  rintro r w' ⟨B', e1, h3, h4⟩
  exact ⟨B', e1, ⟨_, h3, fun _ hk => hk⟩, h0.kept h4, h4⟩
end
/-- bytes of one's own, as a slice -/
theorem owB_slis {w : World} {base n : Nat} {v : Value} {d : Nat → Int} (h : OwnS w base 5 1 v n (fun j => [.int .u8 (d j)])) : ∃ A c, v = .slice A n c ∧ n ≤ c ∧ c ≤ maxLen ∧ SlIs w A n (fun j => .int .u8 (d j)) := by
  obtain ⟨A, c, e, h1, h2, h3⟩ := h.ssis (fun _ => rfl)
  refine ⟨A, c, e, h1, h2, fun hn => ?_⟩
  obtain ⟨b, o, e2, hl, hc⟩ := h3 hn
  exact ⟨b, o, e2, hl, fun j hj => by have := hc j hj 0 _ rfl; simpa using this⟩
theorem slis_below {w w' : World} {A : Option Addr} {n : Nat} {f : Nat → Value} (h : SlIs w A n f) (hb : Below w.heap.size w w') : SlIs w' A n f := fun hn => by
  obtain ⟨b, o, e, hl, hc⟩ := h hn
  exact ⟨b, o, e, Nat.lt_of_lt_of_le hl hb.size, fun j hj => keepc hb (hc j hj)⟩
theorem convB {w : World} {A : Option Addr} {n : Nat} {d : Nat → Int} (h : SlIs w A n (fun j => .int .u8 (d j))) (c : Nat) : (convert 39 9 (.slice A n c)).run Try.prog w = .ok (.string (strF d n)) w := conv_str Try.underlying39 Try.underlying5 Try.underlying9 h c
def fxA : DS := (DS.new 8).fuse 1
def fxB : DS := fxA.write 3 512 (fullD 1 7)
def fxC : DS := fxB.write 4 512 (fullD 2 7)
def fxD : DS := fxC.crash (fun _ => 0) (fun _ => 512) 1
theorem fx1 : fxA.werr 3 512 = 0 := by kernel_rfl
theorem fx2 : fxB.werr 4 512 = 7 := by kernel_rfl
theorem fx3 : fxD.rerr 3 = 0 := by kernel_rfl
theorem fx4 : fxD.rerr 4 = 0 := by kernel_rfl
theorem fx5 : fxC.m = 2 ∧ fxC.n = 8 ∧ fxC.P 0 = 3 ∧ fxC.P 1 = 4 := ⟨by kernel_rfl, by kernel_rfl, by kernel_rfl, by kernel_rfl⟩
theorem fx6 : fxD.m = 0 ∧ fxD.n = 8 := ⟨by kernel_rfl, by kernel_rfl⟩
theorem fx7 : fxA.n = 8 ∧ fxA.m = 0 ∧ fxA.k = 0 ∧ fxA.f = 1 := ⟨by kernel_rfl, by kernel_rfl, by kernel_rfl, by kernel_rfl⟩
theorem fx8 : fxB.n = 8 ∧ fxB.m = 1 ∧ fxB.k = 1 ∧ fxB.f = 0 := ⟨by kernel_rfl, by kernel_rfl, by kernel_rfl, by kernel_rfl⟩
theorem fx9 : fxD.cur 3 = mixD (fun _ => 0) (fullD 1 7) 0 512 := by kernel_rfl
theorem fxE : fxD.cur 4 = fun _ => 0 := by kernel_rfl
end Go.Proofs.Ytnbfnlpepnbppaa
