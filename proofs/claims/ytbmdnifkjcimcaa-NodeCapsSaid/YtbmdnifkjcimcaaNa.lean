/-
  Slices of slices of bytes; the plain laws of nodes.
-/
import Derived.Test.YtbmdnifkjcimcaaByS
import Derived.Test.YtbmdnifkjcimcaaKc
namespace Go.Proofs.Ytbmdnifkjcimcaa
set_option linter.unusedVariables false
set_option linter.unusedSimpArgs false
open Go.RowKit

/-- n slices of bytes: the i-th has L i bytes R i -/
def RsIs (w : World) (A : Option Addr) (n : Nat) (L : Nat → Nat) (R : Nat → Nat → Int) : Prop :=
  ∃ (AA : Nat → Option Addr) (C : Nat → Nat), SlIs w A n (fun i => .slice (AA i) (L i) (C i)) ∧ ∀ i, i < n → L i ≤ C i ∧ C i ≤ maxLen ∧ SlIs w (AA i) (L i) (yV (R i))
theorem RsIs.below {w w' : World} {A : Option Addr} {n : Nat} {L : Nat → Nat} {R : Nat → Nat → Int} (h : RsIs w A n L R) (hb : Below w.heap.size w w') : RsIs w' A n L R := by
  obtain ⟨AA, C, h1, h2⟩ := h
  exact ⟨AA, C, h1.below hb, fun i hi => ⟨(h2 i hi).1, (h2 i hi).2.1, (h2 i hi).2.2.below hb⟩⟩
/-- one of them -/
theorem RsIs.at {w : World} {A : Option Addr} {n : Nat} {L : Nat → Nat} {R : Nat → Nat → Int} (h : RsIs w A n L R) {i : Nat} (hi : i < n) :
    ∃ b o B C, A = some ⟨b, o, none⟩ ∧ b < w.heap.size ∧ w.cell? ⟨b, o + i, none⟩ = some (.slice B (L i) C) ∧ L i ≤ C ∧ C ≤ maxLen ∧ SlIs w B (L i) (yV (R i)) := by
  obtain ⟨AA, C, h1, h2⟩ := h
  obtain ⟨b, o, e, hl, hc⟩ := h1 (by omega)
  exact ⟨b, o, AA i, C i, e, hl, hc i hi, (h2 i hi).1, (h2 i hi).2.1, (h2 i hi).2.2⟩
theorem RsIs.nil {w : World} {A : Option Addr} {L : Nat → Nat} {R : Nat → Nat → Int} : RsIs w A 0 L R := ⟨fun _ => none, fun _ => 0, SlIs.nil, fun i hi => by omega⟩
theorem RsIs.take {w : World} {A : Option Addr} {n m : Nat} {L : Nat → Nat} {R : Nat → Nat → Int} (h : RsIs w A n L R) (hm : m ≤ n) : RsIs w A m L R := by
  obtain ⟨AA, C, h1, h2⟩ := h
  exact ⟨AA, C, fun h0 => by obtain ⟨b, o, e, hl, hc⟩ := h1 (by omega); exact ⟨b, o, e, hl, fun j hj => hc j (by omega)⟩, fun i hi => h2 i (by omega)⟩

/-- does one of n things stand? -/
def anyB (xs : Nat → Bool) : Nat → Bool
  | 0 => false
  | k + 1 => anyB xs k || xs k
theorem anyB_false {xs : Nat → Bool} : ∀ {n : Nat}, (∀ j, j < n → xs j = false) → anyB xs n = false
  | 0, _ => rfl
  | n + 1, h => by
    have h1 : anyB xs n = false := anyB_false (fun j hj => h j (by omega))
    simp [anyB, h1, h n (by omega)]
theorem anyB_true {xs : Nat → Bool} {k : Nat} (hk : xs k = true) : ∀ {n : Nat}, k < n → anyB xs n = true
  | n + 1, h => by
    by_cases e : k = n
    · subst e; simp [anyB, hk]
    · simp [anyB, anyB_true hk (n := n) (by omega)]
theorem anyB_no {xs : Nat → Bool} : ∀ {n : Nat}, anyB xs n = false → ∀ j, j < n → xs j = false
  | n + 1, h, j, hj => by
    simp only [anyB, Bool.or_eq_false_iff] at h
    by_cases e : j = n
    · subst e; exact h.2
    · exact anyB_no h.1 j (by omega)
theorem anyB_yes {xs : Nat → Bool} : ∀ {n : Nat}, anyB xs n = true → ∃ j, j < n ∧ xs j = true
  | n + 1, h => by
    simp only [anyB, Bool.or_eq_true] at h
    rcases h with h | h
    · obtain ⟨j, hj, e⟩ := anyB_yes h
      exact ⟨j, by omega, e⟩
    · exact ⟨n, by omega, h⟩
theorem anyB_congr {xs ys : Nat → Bool} : ∀ {n : Nat}, (∀ j, j < n → xs j = ys j) → anyB xs n = anyB ys n
  | 0, _ => rfl
  | n + 1, h => by simp only [anyB]; rw [anyB_congr (n := n) (fun j hj => h j (by omega)), h n (by omega)]

/-- a node as data: the keys' lengths and bytes, the values', the kids -/
structure Nd where
  leaf : Bool
  kn : Nat
  KL : Nat → Nat
  K : Nat → Nat → Int
  vn : Nat
  VL : Nat → Nat
  V : Nat → Nat → Int
  cn : Nat
  C : Nat → Int
/-- how many keys a leaf has at most; how many kids an inner node -/
def capL (k v : Int) : Int := if k < 1 ∨ 24 < k ∨ v < 0 ∨ 108 < v then 0 else 498 / (k + v)
def capI (k v : Int) : Int := if k < 1 ∨ 24 < k ∨ v < 0 ∨ 108 < v then 0 else (498 + k) / (4 + k)
/-- has each of n rows k bytes? -/
def longB (L : Nat → Nat) (n : Nat) (k : Int) : Bool := !anyB (fun i => ((L i : Int) != k)) n
/-- do the first n rows rise? -/
def riseB (L : Nat → Nat) (R : Nat → Nat → Int) (n : Nat) : Bool := !anyB (fun i => decide (0 ≤ cmpB (R i) (L i) (R (i + 1)) (L (i + 1)))) (n - 1)
def rightB (d : Nd) (k v : Int) : Bool :=
  longB d.KL d.kn k && longB d.VL d.vn v && riseB d.KL d.K d.kn &&
  (if d.leaf = true then decide (d.cn = 0 ∧ 1 ≤ d.kn ∧ (d.kn : Int) ≤ capL k v ∧ d.vn = d.kn)
   else !anyB (fun i => decide (d.C i < 2)) d.cn && decide (d.vn = 0 ∧ 2 ≤ d.cn ∧ (d.cn : Int) ≤ capI k v ∧ d.kn + 1 = d.cn))
end Go.Proofs.Ytbmdnifkjcimcaa
