/-
  Requests as values; wire.parse at any bytes.
-/
import Derived.Test.YtncampbmnbhikaaWqc
import Derived.Test.YtncampbmnbhikaaWqd
import Derived.Test.YtncampbmnbhikaaJ11
import Derived.Test.YtncampbmnbhikaaJ15
import Derived.Test.YtncampbmnbhikaaRecG
namespace Go.Proofs.Ytncampbmnbhikaa
set_option linter.unusedVariables false
set_option linter.unusedSimpArgs false
open Go.RowKit

structure Rq where
  kd : Int
  an : Nat
  AF : Nat → Nat → Int
  tn : Nat
  TF : Nat → Nat → Int
  un : Nat
  UF : Nat → Nat → Int
  FF : Nat → Int
def zeroRq : Rq := ⟨0, 0, fun _ _ => 0, 0, fun _ _ => 0, 0, fun _ _ => 0, fun _ => 0⟩
def rdF (e : Nat → Int) : Nat → Int := fun j => ([num e 0 8, num e 8 8, num e 16 8, num e 24 8, num e 32 4, num e 36 4] : List Int).getD j 0
/-- what is behind the first byte, as a request; how many things it has; whether it is one -/
def parseRq (k : Int) (n : Nat) (e : Nat → Int) : Rq × Nat × Bool :=
  if k = 1 then (if n % 104 = 0 then ({ zeroRq with kd := 1, an := n / 104, AF := fun i => rdA (shf e (i * 104)) }, n / 104, true) else ({ zeroRq with kd := 1 }, 0, false))
  else if k = 2 then (if n % 108 = 0 then ({ zeroRq with kd := 2, tn := n / 108, TF := fun i => rdT (shf e (i * 108)) }, n / 108, true) else ({ zeroRq with kd := 2 }, 0, false))
  else if k = 3 then (if n % 16 = 0 then ({ zeroRq with kd := 3, un := n / 16, UF := fun i => rdU (shf e (i * 16)) }, n / 16, true) else ({ zeroRq with kd := 3 }, 0, false))
  else if k = 4 then (if n % 16 = 0 then ({ zeroRq with kd := 4, un := n / 16, UF := fun i => rdU (shf e (i * 16)) }, n / 16, true) else ({ zeroRq with kd := 4 }, 0, false))
  else if k = 5 then (if n = 40 then ({ zeroRq with kd := 5, FF := rdF e }, 0, true) else ({ zeroRq with kd := 5 }, 0, false))
  else if k = 6 then (if n = 40 then ({ zeroRq with kd := 6, FF := rdF e }, 0, true) else ({ zeroRq with kd := 6 }, 0, false))
  else if k = 7 then ({ zeroRq with kd := 7 }, 0, decide (n = 0))
  else ({ zeroRq with kd := k }, 0, false)
def OwnRq (w : World) (base : Nat) (AA TA UA : Option Addr) (ac tc uc : Nat) (d : Rq) : Prop :=
  OwnS w base 63 15 (.slice AA d.an ac) d.an (fun i => clA (d.AF i)) ∧ OwnS w base 67 16 (.slice TA d.tn tc) d.tn (fun i => clT (d.TF i)) ∧ OwnS w base 42 2 (.slice UA d.un uc) d.un (fun i => clU (d.UF i))
def cRq (d : Rq) (AA TA UA : Option Addr) (ac tc uc : Nat) : Value := .agg #[.int .i64 d.kd, .slice AA d.an ac, .slice TA d.tn tc, .slice UA d.un uc, .int .u64 (d.FF 0), .int .u64 (d.FF 1), .int .u64 (d.FF 2), .int .u64 (d.FF 3), .int .u32 (d.FF 4), .int .u32 (d.FF 5)]
def PGot (r : Ending) (w w' : World) (p : Rq × Nat × Bool) : Prop :=
  ∃ (AA TA UA : Option Addr) (ac tc uc : Nat), r = .returned (.tuple #[cRq p.1 AA TA UA ac tc uc, .int .i64 p.2.1, .bool p.2.2]) ∧ OwnRq w' w.heap.size AA TA UA ac tc uc p.1 ∧ Below w.heap.size w w'
theorem nilS (w : World) (base : Nat) (e : TypeId) (k : Nat) (f : Nat → List Value) : OwnS w base e k (.slice none 0 0) 0 f := OwnS.nil w base e k f
set_option maxHeartbeats 1000000 in
theorem parse_any (k : Int) (hk : 0 ≤ k ∧ k < 256) (B : Option Addr) (n c : Nat) (e : Nat → Int) (he : ∀ i, 0 ≤ e i ∧ e i < 256) (hmc : n ≤ c) (hC : c ≤ maxLen) (hn : n ≤ 100000) (w : World) (hs : SlIs w B n (yV e)) :
    Calls Try.prog 49 #[.int .u8 k, .slice B n c] w fun r w' => PGot r w w' (parseRq k n e) := by
  have hnm : n ≤ maxLen := by unfold maxLen; omega
  unfold parseRq
  by_cases h1 : k = 1
  · subst h1
    rw [if_pos rfl]
    by_cases m : n % 104 = 0
    · rw [if_pos m]
      refine (parse_g1 B n c (n / 104) true (fun i => clA (rdA (shf e (i * 104)))) (fun i => rfl) w hC (fun W h => readA_yes B n c (n / 104) e he hmc hC hn (by omega) W (hs.below h))).mono ?_
      rintro r w' ⟨A', c', rfl, ho, hb⟩
      exact ⟨A', none, none, c', 0, 0, rfl, ⟨ho, nilS _ _ _ _ _, nilS _ _ _ _ _⟩, hb⟩
    · rw [if_neg m]
      refine (parse_g1 B n c 0 false (fun i => clA (fun _ => 0)) (fun i => rfl) w hC (fun W h => (readA_no B n c hnm m W).mono (fun r w' ⟨a1, a2⟩ => ⟨_, a1, nilS _ _ _ _ _, a2⟩))).mono ?_
      rintro r w' ⟨A', c', rfl, ho, hb⟩
      exact ⟨A', none, none, c', 0, 0, rfl, ⟨ho, nilS _ _ _ _ _, nilS _ _ _ _ _⟩, hb⟩
  by_cases h2 : k = 2
  · subst h2
    rw [if_neg (by decide), if_pos rfl]
    by_cases m : n % 108 = 0
    · rw [if_pos m]
      refine (parse_g2 B n c (n / 108) true (fun i => clT (rdT (shf e (i * 108)))) (fun i => rfl) w hC (fun W h => readT_yes B n c (n / 108) e he hmc hC hn (by omega) W (hs.below h))).mono ?_
      rintro r w' ⟨A', c', rfl, ho, hb⟩
      exact ⟨none, A', none, 0, c', 0, rfl, ⟨nilS _ _ _ _ _, ho, nilS _ _ _ _ _⟩, hb⟩
    · rw [if_neg m]
      refine (parse_g2 B n c 0 false (fun i => clT (fun _ => 0)) (fun i => rfl) w hC (fun W h => (readT_no B n c hnm m W).mono (fun r w' ⟨a1, a2⟩ => ⟨_, a1, nilS _ _ _ _ _, a2⟩))).mono ?_
      rintro r w' ⟨A', c', rfl, ho, hb⟩
      exact ⟨none, A', none, 0, c', 0, rfl, ⟨nilS _ _ _ _ _, ho, nilS _ _ _ _ _⟩, hb⟩
  by_cases h3 : k = 3
  · subst h3
    rw [if_neg (by decide), if_neg (by decide), if_pos rfl]
    by_cases m : n % 16 = 0
    · rw [if_pos m]
      refine (parse_g3 B n c (n / 16) true (fun i => clU (rdU (shf e (i * 16)))) (fun i => rfl) w hC (fun W h => readU_yes B n c (n / 16) e he hmc hC hn (by omega) W (hs.below h))).mono ?_
      rintro r w' ⟨A', c', rfl, ho, hb⟩
      exact ⟨none, none, A', 0, 0, c', rfl, ⟨nilS _ _ _ _ _, nilS _ _ _ _ _, ho⟩, hb⟩
    · rw [if_neg m]
      refine (parse_g3 B n c 0 false (fun i => clU (fun _ => 0)) (fun i => rfl) w hC (fun W h => (readU_no B n c hnm m W).mono (fun r w' ⟨a1, a2⟩ => ⟨_, a1, nilS _ _ _ _ _, a2⟩))).mono ?_
      rintro r w' ⟨A', c', rfl, ho, hb⟩
      exact ⟨none, none, A', 0, 0, c', rfl, ⟨nilS _ _ _ _ _, nilS _ _ _ _ _, ho⟩, hb⟩
  by_cases h4 : k = 4
  · subst h4
    rw [if_neg (by decide), if_neg (by decide), if_neg (by decide), if_pos rfl]
    by_cases m : n % 16 = 0
    · rw [if_pos m]
      refine (parse_g4 B n c (n / 16) true (fun i => clU (rdU (shf e (i * 16)))) (fun i => rfl) w hC (fun W h => readU_yes B n c (n / 16) e he hmc hC hn (by omega) W (hs.below h))).mono ?_
      rintro r w' ⟨A', c', rfl, ho, hb⟩
      exact ⟨none, none, A', 0, 0, c', rfl, ⟨nilS _ _ _ _ _, nilS _ _ _ _ _, ho⟩, hb⟩
    · rw [if_neg m]
      refine (parse_g4 B n c 0 false (fun i => clU (fun _ => 0)) (fun i => rfl) w hC (fun W h => (readU_no B n c hnm m W).mono (fun r w' ⟨a1, a2⟩ => ⟨_, a1, nilS _ _ _ _ _, a2⟩))).mono ?_
      rintro r w' ⟨A', c', rfl, ho, hb⟩
      exact ⟨none, none, A', 0, 0, c', rfl, ⟨nilS _ _ _ _ _, nilS _ _ _ _ _, ho⟩, hb⟩
  by_cases h5 : k = 5
  · subst h5
    rw [if_neg (by decide), if_neg (by decide), if_neg (by decide), if_neg (by decide), if_pos rfl]
    by_cases m : n = 40
    · subst m
      rw [if_pos rfl]
      refine (parse_f5 B 40 c (num e 0 8) (num e 8 8) (num e 16 8) (num e 24 8) (num e 32 4) (num e 36 4) true w (fun W h => getFilter_yes B c e he hmc hC W (hs.below h))).mono ?_
      rintro r w' ⟨rfl, hb⟩
      exact ⟨none, none, none, 0, 0, 0, rfl, ⟨nilS _ _ _ _ _, nilS _ _ _ _ _, nilS _ _ _ _ _⟩, hb⟩
    · rw [if_neg m]
      refine (parse_f5 B n c 0 0 0 0 0 0 false w (fun W h => getFilter_no B n c hnm m W)).mono ?_
      rintro r w' ⟨rfl, hb⟩
      exact ⟨none, none, none, 0, 0, 0, rfl, ⟨nilS _ _ _ _ _, nilS _ _ _ _ _, nilS _ _ _ _ _⟩, hb⟩
  by_cases h6 : k = 6
  · subst h6
    rw [if_neg (by decide), if_neg (by decide), if_neg (by decide), if_neg (by decide), if_neg (by decide), if_pos rfl]
    by_cases m : n = 40
    · subst m
      rw [if_pos rfl]
      refine (parse_f6 B 40 c (num e 0 8) (num e 8 8) (num e 16 8) (num e 24 8) (num e 32 4) (num e 36 4) true w (fun W h => getFilter_yes B c e he hmc hC W (hs.below h))).mono ?_
      rintro r w' ⟨rfl, hb⟩
      exact ⟨none, none, none, 0, 0, 0, rfl, ⟨nilS _ _ _ _ _, nilS _ _ _ _ _, nilS _ _ _ _ _⟩, hb⟩
    · rw [if_neg m]
      refine (parse_f6 B n c 0 0 0 0 0 0 false w (fun W h => getFilter_no B n c hnm m W)).mono ?_
      rintro r w' ⟨rfl, hb⟩
      exact ⟨none, none, none, 0, 0, 0, rfl, ⟨nilS _ _ _ _ _, nilS _ _ _ _ _, nilS _ _ _ _ _⟩, hb⟩
  by_cases h7 : k = 7
  · subst h7
    rw [if_neg (by decide), if_neg (by decide), if_neg (by decide), if_neg (by decide), if_neg (by decide), if_neg (by decide), if_pos rfl]
    refine (parse_7 B n c hnm w).mono ?_
    rintro r w' ⟨rfl, hb⟩
    exact ⟨none, none, none, 0, 0, 0, rfl, ⟨nilS _ _ _ _ _, nilS _ _ _ _ _, nilS _ _ _ _ _⟩, hb⟩
  rw [if_neg h1, if_neg h2, if_neg h3, if_neg h4, if_neg h5, if_neg h6, if_neg h7]
  refine (parse_bad k (by omega) hk B n c w).mono ?_
  rintro r w' ⟨rfl, hb⟩
  exact ⟨none, none, none, 0, 0, 0, rfl, ⟨nilS _ _ _ _ _, nilS _ _ _ _ _, nilS _ _ _ _ _⟩, hb⟩
end Go.Proofs.Ytncampbmnbhikaa
