/-
  Rows of bytes of the call's own: what the walks of the record's functions ask.
-/
import Derived.Test.YtncampbmnbhikaaJ6
namespace Go.Proofs.Ytncampbmnbhikaa
set_option linter.unusedVariables false
set_option linter.unusedSimpArgs false
open Go.RowKit

theorem OwnB.drew {w : World} {base : Nat} {v : Value} {n : Nat} {d : Nat → Int} (h : OwnB w base v n d) : OwnB w.drew base v n d := h
theorem OwnB.base {w : World} {b b' : Nat} {v : Value} {n : Nat} {d : Nat → Int} (h : OwnB w b v n d) (hb : b' ≤ b) : OwnB w b' v n d := by
  obtain ⟨h1, h2⟩ := h
  refine ⟨h1, ?_⟩
  rcases h2 with h2 | ⟨g, cap, cur, e, hg, rest⟩
  · exact Or.inl h2
  · exact Or.inr ⟨g, cap, cur, e, Nat.le_trans hb hg, rest⟩
theorem OwnB.kept {w w' : World} {base : Nat} {v : Value} {n : Nat} {d : Nat → Int} (h : OwnB w base v n d) (hb : Below w.heap.size w w') : OwnB w' base v n d := own_below h hb
theorem belb_drew {b : Nat} {w : World} (h : b ≤ w.heap.size) : b ≤ w.drew.heap.size := h
theorem slis_drew {w : World} {A : Option Addr} {m : Nat} {f : Nat → Value} (h : SlIs w A m f) : SlIs w.drew A m f := h
theorem keepbb {base : Nat} {W w1 : World} {p : Addr} {v : Value} (hb : Below base W w1) (hp : p.block < base) (h : W.cell? p = some v) : w1.cell? p = some v := by rw [hb.cell hp]; exact h
theorem Blk.lowb {base : Nat} {W w1 : World} {g : Nat} {t : TypeId} {cs : Array Value} (h : Blk W g t cs) (hb : Below base W w1) (hp : g < base) : Blk w1 g t cs := h.below hb hp
theorem put64_at (v : Value) (n0 : Nat) (d : Nat → Int) (N : Int) (k : Nat) (kI : Int) (hkI : kI = k) (base : Nat) (hN : 0 ≤ N ∧ N < 18446744073709551616) (hk : k ≤ 8) (hn : n0 ≤ 1000000) (w : World) (hbase : base ≤ w.heap.size) (ho : OwnB w base v n0 d) :
    Calls Try.prog 55 #[v, .int .u64 N, .int .i64 kI] w fun r w' => ∃ v', r = .returned v' ∧ OwnB w' base v' (n0 + k) (cat d n0 (nb k N)) ∧ Below base w w' := by
  subst hkI; exact put64_any v n0 d N k base hN hk hn w hbase ho
theorem put32_at (v : Value) (n0 : Nat) (d : Nat → Int) (N : Int) (k : Nat) (kI : Int) (hkI : kI = k) (base : Nat) (hN : 0 ≤ N ∧ N < 4294967296) (hk : k ≤ 4) (hn : n0 ≤ 1000000) (w : World) (hbase : base ≤ w.heap.size) (ho : OwnB w base v n0 d) :
    Calls Try.prog 53 #[v, .int .u32 N, .int .i64 kI] w fun r w' => ∃ v', r = .returned v' ∧ OwnB w' base v' (n0 + k) (cat d n0 (nb k N)) ∧ Below base w w' := by
  subst hkI; exact put32_any v n0 d N k base hN hk hn w hbase ho
theorem put16_at (v : Value) (n0 : Nat) (d : Nat → Int) (N : Int) (k : Nat) (kI : Int) (hkI : kI = k) (base : Nat) (hN : 0 ≤ N ∧ N < 65536) (hk : k ≤ 2) (hn : n0 ≤ 1000000) (w : World) (hbase : base ≤ w.heap.size) (ho : OwnB w base v n0 d) :
    Calls Try.prog 56 #[v, .int .u16 N, .int .i64 kI] w fun r w' => ∃ v', r = .returned v' ∧ OwnB w' base v' (n0 + k) (cat d n0 (nb k N)) ∧ Below base w w' := by
  subst hkI; exact put16_any v n0 d N k base hN hk hn w hbase ho
theorem putV_at (v : Value) (n0 : Nat) (d : Nat → Int) (N : Int) (k : Nat) (kI : Int) (hkI : kI = k) (base : Nat) (hN : 0 ≤ N ∧ N < 4294967296) (hk : k ≤ 4) (hn : n0 ≤ 1000000) (w : World) (hbase : base ≤ w.heap.size) (ho : OwnB w base v n0 d) :
    Calls Try.prog 52 #[v, .int .u32 N, .int .i64 kI] w fun r w' => ∃ v', r = .returned v' ∧ OwnB w' base v' (n0 + k) (cat d n0 (nb k N)) ∧ Below base w w' := by
  subst hkI; exact putV_any v n0 d N k base hN hk hn w hbase ho
end Go.Proofs.Ytncampbmnbhikaa
