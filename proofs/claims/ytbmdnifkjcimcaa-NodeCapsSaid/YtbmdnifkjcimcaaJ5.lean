/-
  Joined: Nb Nc Nd.
-/
import Derived.Test.YtbmdnifkjcimcaaNa
import Derived.IntWalk
import Derived.Deep.DeepCutAuto
-- Nb
namespace Go.Proofs.Ytbmdnifkjcimcaa
set_option linter.unusedVariables false
set_option linter.unusedSimpArgs false
open Go.RowKit

def capOk (k v : Int) : Prop := 1 ≤ k ∧ k ≤ 24 ∧ 0 ≤ v ∧ v ≤ 108
theorem cap_no {k v : Int} (h : ¬ capOk k v) : capL k v = 0 ∧ capI k v = 0 := by
  unfold capOk at h
  unfold capL capI
  rw [if_pos (by omega), if_pos (by omega)]
  exact ⟨rfl, rfl⟩
theorem cap_yes {k v : Int} (h : capOk k v) : capL k v = 498 / (k + v) ∧ capI k v = (498 + k) / (4 + k) := by
  unfold capOk at h
  unfold capL capI
  rw [if_neg (by omega), if_neg (by omega)]
  exact ⟨rfl, rfl⟩
/-- on which way it is refused -/
theorem cap_ways {k v : Int} (h : ¬ capOk k v) : (decide (k < 1) = true) ∨ (decide (k < 1) = false ∧ decide (24 < k) = true) ∨ (decide (k < 1) = false ∧ decide (24 < k) = false ∧ decide (v < 0) = true) ∨ (decide (k < 1) = false ∧ decide (24 < k) = false ∧ decide (v < 0) = false ∧ decide (108 < v) = true) := by
  unfold capOk at h
  simp only [decide_eq_true_eq, decide_eq_false_iff_not]
  omega
set_option maxHeartbeats 1000000 in
theorem caps_any (k v : Int) (w : World) : Calls Try.prog 7 #[.int .i64 k, .int .i64 v] w fun r w' => r = .returned (.tuple #[.int .i64 (capL k v), .int .i64 (capI k v)]) ∧ Below w.heap.size w w' := by
  by_cases h : capOk k v
  · obtain ⟨e1, e2⟩ := cap_yes h
    rw [e1, e2]
    obtain ⟨h1, h2, h3, h4⟩ := h
    have d1 : decide (k < 1) = false := decide_eq_false (by omega)
    have d2 : decide (24 < k) = false := decide_eq_false (by omega)
    have d3 : decide (v < 0) = false := decide_eq_false (by omega)
    have d4 : decide (108 < v) = false := decide_eq_false (by omega)
    have n1 : ¬ k + v = 0 := by omega
    have n2 : ¬ 4 + k = 0 := by omega
    go_enter Try.func7, Try.ntmps7
    go_wp2
    first | (with_reducible refine rgrow2 (by kernel_rfl) (by kernel_rfl) ?_) | (refine rgrow (by kernel_rfl) (by kernel_rfl) ?_)
    repeat (go_big_quiet_step ((fail)))
    refine wpQuiet_nil ?_
    intro dr
    go_wp2
    go_ret2
    exact ⟨rfl, by (repeat (first | exact Below.refl _ _ | assumption | refine below_drewN ?_ _ | refine bel_grow ?_ _ | refine Below.drew ?_ | refine bel_alloc ?_ _ | refine bel_set ?_ (by first | exact Nat.le_refl _ | (simp; done) | (simp; omega) | omega) _ | refine bel_trans ?_ (by assumption)))⟩
  · obtain ⟨e1, e2⟩ := cap_no h
    rw [e1, e2]
    rcases cap_ways h with h1 | ⟨h1, h2⟩ | ⟨h1, h2, h3⟩ | ⟨h1, h2, h3, h4⟩
    all_goals (
      clear h e1 e2
      go_enter Try.func7, Try.ntmps7
      go_wp2
      go_ret2
      exact ⟨rfl, by (repeat (first | exact Below.refl _ _ | assumption | refine below_drewN ?_ _ | refine bel_grow ?_ _ | refine Below.drew ?_ | refine bel_alloc ?_ _ | refine bel_set ?_ (by first | exact Nat.le_refl _ | (simp; done) | (simp; omega) | omega) _ | refine bel_trans ?_ (by assumption)))⟩)

/-- counting up to the caps -/
theorem cap_count {s : Int} (hs : 1 ≤ s) (a : Nat) : (2 + ((a : Int) + 1) * s ≤ 500) ↔ (a : Int) + 1 ≤ 498 / s := by
  rw [Int.le_ediv_iff_mul_le (by omega)]
  omega
theorem cap_countI {k : Int} (hk : 1 ≤ k) (b : Nat) : (2 + 4 * ((b : Int) + 1) + k * b ≤ 500) ↔ (b : Int) + 1 ≤ (498 + k) / (4 + k) := by
  have e : ((b : Int) + 1) * (4 + k) = 4 * b + k * b + (4 + k) := by rw [Int.add_mul, Int.one_mul, Int.mul_add, Int.mul_comm (b : Int) 4, Int.mul_comm (b : Int) k]
  rw [Int.le_ediv_iff_mul_le (by omega), e]
  omega
theorem mul_rng {a s : Int} {m p : Int} (h1 : 0 ≤ a ∧ a ≤ m) (h2 : 0 ≤ s ∧ s ≤ p) : 0 ≤ a * s ∧ a * s ≤ m * p :=
  ⟨Int.mul_nonneg h1.1 h2.1, Int.mul_le_mul h1.2 h2.2 h2.1 (by omega)⟩
set_option maxHeartbeats 2000000 in
theorem refcaps_any (k v : Int) (w : World) : Calls Try.prog 8 #[.int .i64 k, .int .i64 v] w fun r w' => r = .returned (.tuple #[.int .i64 (capL k v), .int .i64 (capI k v)]) ∧ Below w.heap.size w w' := by
  by_cases h : capOk k v
  · obtain ⟨e1, e2⟩ := cap_yes h
    rw [e1, e2]
    obtain ⟨h1, h2, h3, h4⟩ := h
    have d1 : decide (k < 1) = false := decide_eq_false (by omega)
    have d2 : decide (24 < k) = false := decide_eq_false (by omega)
    have d3 : decide (v < 0) = false := decide_eq_false (by omega)
    have d4 : decide (108 < v) = false := decide_eq_false (by omega)
    have q1 : 0 ≤ 498 / (k + v) ∧ 498 / (k + v) ≤ 498 := ⟨Int.ediv_nonneg (by omega) (by omega), Int.ediv_le_self _ (by omega)⟩
    have q2 : 1 ≤ (498 + k) / (4 + k) ∧ (498 + k) / (4 + k) ≤ 522 := ⟨by rw [Int.le_ediv_iff_mul_le (by omega)]; omega, Int.le_trans (Int.ediv_le_self _ (by omega)) (by omega)⟩
    have C1 := Lib.hid (fun a => cap_count (s := k + v) (by omega) a)
    have C2 := Lib.hid (fun b => cap_countI (k := k) h1 b)
    generalize 498 / (k + v) = a0 at *
    generalize (498 + k) / (4 + k) = b0 at *
    clear e1 e2
    go_enter Try.func8, Try.ntmps8
    go_wp2
    go_loop [6] (fun i => ∃ a : Nat, (a : Int) ≤ a0 ∧ i = .int .i64 a) (fun i => (a0 - intOf i).toNat)
    case atStart => exact ⟨0, by omega, rfl⟩
    case round =>
      obtain ⟨a, ha, rfl⟩ := hrel
      have m1 := mul_rng (a := (a : Int) + 1) (s := k + v) (m := 499) (p := 132) (by omega) (by omega)
      obtain ⟨m2, m3⟩ := m1
      by_cases hlt : (a : Int) + 1 ≤ a0
      · have hd : decide (2 + ((a : Int) + 1) * (k + v) ≤ 500) = true := decide_eq_true ((C1.out a).2 hlt)
        go_wp2
        go_round
        case rel => exact ⟨a + 1, by omega, by go_num⟩
        case measure => simp [intOf]; omega
      · have hd : decide (2 + ((a : Int) + 1) * (k + v) ≤ 500) = false := decide_eq_false (fun t => hlt ((C1.out a).1 t))
        obtain rfl : a0 = (a : Int) := by omega
        go_wp2
        go_loop [7] (fun i => ∃ b : Nat, 1 ≤ b ∧ (b : Int) ≤ b0 ∧ i = .int .i64 b) (fun i => (b0 - intOf i).toNat)
        case atStart => exact ⟨1, by omega, by omega, rfl⟩
        case round =>
          obtain ⟨b, hb1, hb, rfl⟩ := hrel
          have m1 := mul_rng (a := k) (s := (b : Int)) (m := 24) (p := 522) (by omega) (by omega)
          obtain ⟨m2, m3⟩ := m1
          by_cases hlt2 : (b : Int) + 1 ≤ b0
          · have hd2 : decide (2 + 4 * ((b : Int) + 1) + k * b ≤ 500) = true := decide_eq_true ((C2.out b).2 hlt2)
            go_wp2
            go_round
            case rel => exact ⟨b + 1, by omega, by omega, by go_num⟩
            case measure => simp [intOf]; omega
          · have hd2 : decide (2 + 4 * ((b : Int) + 1) + k * b ≤ 500) = false := decide_eq_false (fun t => hlt2 ((C2.out b).1 t))
            obtain rfl : b0 = (b : Int) := by omega
            go_wp2
            go_ret2
            exact ⟨rfl, by (repeat (first | exact Below.refl _ _ | assumption | refine below_drewN ?_ _ | refine bel_grow ?_ _ | refine Below.drew ?_ | refine bel_alloc ?_ _ | refine bel_set ?_ (by first | exact Nat.le_refl _ | (simp; done) | (simp; omega) | omega) _ | refine bel_trans ?_ (by assumption)))⟩
  · obtain ⟨e1, e2⟩ := cap_no h
    rw [e1, e2]
    rcases cap_ways h with h1 | ⟨h1, h2⟩ | ⟨h1, h2, h3⟩ | ⟨h1, h2, h3, h4⟩
    all_goals (
      clear h e1 e2
      go_enter Try.func8, Try.ntmps8
      go_wp2
      go_ret2
      exact ⟨rfl, by (repeat (first | exact Below.refl _ _ | assumption | refine below_drewN ?_ _ | refine bel_grow ?_ _ | refine Below.drew ?_ | refine bel_alloc ?_ _ | refine bel_set ?_ (by first | exact Nat.le_refl _ | (simp; done) | (simp; omega) | omega) _ | refine bel_trans ?_ (by assumption)))⟩)
end Go.Proofs.Ytbmdnifkjcimcaa
-- Nc
namespace Go.Proofs.Ytbmdnifkjcimcaa
set_option linter.unusedVariables false
set_option linter.unusedSimpArgs false
open Go.RowKit

def IdxPost (xs : Nat → Bool) (n : Nat) (r : Ending) : Prop := ∃ i : Int, r = .returned (.int .i64 i) ∧ decide (0 ≤ i) = anyB xs n

set_option maxHeartbeats 1000000 in
theorem idxR_any (cap : Array Value) (xs : Nat → Bool) (A : Option Addr) (n c : Nat) (L : Nat → Nat) (R : Nat → Nat → Int) (w : World) (hn : n ≤ 1000000) (hR : RsIs w A n L R)
    (hcall : ∀ k, k < n → ∀ B C W, Below w.heap.size w W → Calls Try.prog 40 (#[.slice B (L k) C] ++ cap) W fun r w' => r = .returned (.bool (xs k)) ∧ Below W.heap.size W w') :
    Calls Try.prog 45 #[.slice A n c, .func (Fn.func 40) #[] cap] w fun r w' => IdxPost xs n r ∧ Below w.heap.size w w' := by
  replace hcall := Lib.hid hcall
  replace hR := Lib.hid hR
  go_enter Try.func45, Try.ntmps45
  go_wp2
  go_loopw [8] (fun i wr => ∃ k : Nat, k ≤ n ∧ i = .int .i64 k ∧ Hid (∀ j, j < k → xs j = false) ∧ Hid (Below w.heap.size w wr)) (fun i _ => n - (intOf i).toNat)
  case atStart => exact ⟨0, by omega, rfl, fun j h => by omega, Below.refl _ _⟩
  case round =>
    obtain ⟨k, hk, rfl, hx, hb⟩ := hrel
    by_cases hlt : k < n
    · obtain ⟨b, o, B, C, rfl, hbl, hc, _, _, _⟩ := (hR.out.below hb.out).at hlt
      have HC := Lib.hid (hcall.out k hlt B C wr hb.out)
      cases hxk : xs k
      · replace hxk := Lib.hid hxk
        go_wp2_with fail
        refine HC.out.mono ?_
        rintro e w2 ⟨rfl, hb2⟩
        rw [hxk.out]
        go_wp2
        go_roundw
        case rel => exact ⟨k + 1, by omega, by go_num, fun j hj => by by_cases e : j = k; (subst e; exact hxk.out); exact hx.out j (by omega), bel_eld hb.out hb2⟩
        case measure => simp [intOf]; omega
      · replace hxk := Lib.hid hxk
        go_wp2_with fail
        refine HC.out.mono ?_
        rintro e w2 ⟨rfl, hb2⟩
        rw [hxk.out]
        go_wp2
        go_ret
        exact ⟨⟨k, rfl, by rw [anyB_true hxk.out hlt]; simp⟩, bel_eld hb.out hb2⟩
    · obtain rfl : k = n := by omega
      go_wp2
      go_ret
      exact ⟨⟨-1, rfl, by rw [anyB_false hx.out]; decide⟩, hb.out⟩
theorem bne_len (l : Nat) (k : Int) : decide (¬ (l : Int) = k) = ((l : Int) != k) := by
  rw [Bool.eq_iff_iff]; simp
set_option maxHeartbeats 1000000 in
theorem long1_any (A : Option Addr) (l c g : Nat) (k : Int) (w : World) (hg : w.cell? ⟨g, 0, none⟩ = some (.int .i64 k)) :
    Calls Try.prog 40 #[.slice A l c, .pointer (some ⟨g, 0, none⟩)] w fun r w' => r = .returned (.bool ((l : Int) != k)) ∧ Below w.heap.size w w' := by
  go_enter Try.func40, Try.ntmps40
  go_wp2
  go_ret
  exact ⟨rfl, by (repeat (first | exact Below.refl _ _ | assumption | refine below_drewN ?_ _ | refine bel_grow ?_ _ | refine Below.drew ?_ | refine bel_alloc ?_ _ | refine bel_set ?_ (by first | exact Nat.le_refl _ | (simp; done) | (simp; omega) | omega) _ | refine bel_trans ?_ (by assumption)))⟩
set_option maxHeartbeats 1000000 in
theorem long_any (A : Option Addr) (n c : Nat) (k : Int) (L : Nat → Nat) (R : Nat → Nat → Int) (w : World) (hn : n ≤ 1000000) (hR : RsIs w A n L R) :
    Calls Try.prog 23 #[.slice A n c, .int .i64 k] w fun r w' => r = .returned (.bool (longB L n k)) ∧ Below w.heap.size w w' := by
  have hmf : ∀ (fn : Fn) (first cap : Array Value) (w : World), (Instr.makeFunc fn first cap).run Try.prog w = .ok (.func fn first cap) w := fun _ _ _ _ => rfl
  have HI := Lib.hid (idxR_any #[.pointer (some ⟨w.heap.size, 0, none⟩)] (fun i => ((L i : Int) != k)) A n c L R (w.alloc (.cells #[.int .i64 k] 3)) hn (hR.below (bel_alloc (Below.refl _ _) _)) (fun j hj B C W hb => long1_any B (L j) C w.heap.size k W (by rw [(hb.cell (p := ⟨w.heap.size, 0, none⟩) (by simp))]; exact (Blk.new w _ _).cell 0)))
  unfold longB
  clear hR
  go_enter Try.func23, Try.ntmps23
  go_wp2_with (go_at_call 39; go_in)
  refine HI.out.mono ?_
  rintro e w2 ⟨⟨i, rfl, hi⟩, hb2⟩
  replace hi := Lib.hid hi
  go_wp2
  go_ret
  exact ⟨(show Ending.returned (Value.bool (!decide (0 ≤ i))) = Ending.returned (Value.bool (!anyB (fun i => ((L i : Int) != k)) n)) by rw [hi.out]), bel_eld (bel_alloc (Below.refl _ _) _) hb2⟩
set_option maxHeartbeats 2000000 in
theorem rises_any (A : Option Addr) (n c : Nat) (L : Nat → Nat) (R : Nat → Nat → Int) (w : World) (hn : n ≤ 1000000) (hR : RsIs w A n L R) :
    Calls Try.prog 24 #[.slice A n c] w fun r w' => r = .returned (.bool (riseB L R n)) ∧ Below w.heap.size w w' := by
  have HX : ∀ i, Hid ((fun i => decide (0 ≤ cmpB (R i) (L i) (R (i + 1)) (L (i + 1)))) i = decide (0 ≤ cmpB (R i) (L i) (R (i + 1)) (L (i + 1)))) := fun i => Lib.hid rfl
  unfold riseB
  generalize (fun i => decide (0 ≤ cmpB (R i) (L i) (R (i + 1)) (L (i + 1)))) = xs at *
  replace hR := Lib.hid hR
  replace HX := Lib.hid HX
  go_enter Try.func24, Try.ntmps24
  go_wp2
  go_loopw [3] (fun i wr => ∃ k : Nat, 1 ≤ k ∧ (k ≤ n ∨ k = 1) ∧ i = .int .i64 k ∧ Hid (∀ j, j + 1 < k → xs j = false) ∧ Hid (Below w.heap.size w wr)) (fun i _ => n - (intOf i).toNat)
  case atStart => exact ⟨1, by omega, by omega, rfl, fun j h => by omega, Below.refl _ _⟩
  case round =>
    obtain ⟨k, hk1, hk, rfl, hx, hb⟩ := hrel
    by_cases hlt : k < n
    · obtain ⟨b, o, B1, C1, rfl, hbl, hc1, _, _, s1⟩ := (hR.out.below hb.out).at (i := k - 1) (by omega)
      obtain ⟨b', o', B2, C2, e', _, hc2, _, _, s2⟩ := (hR.out.below hb.out).at (i := k) hlt
      cases e'
      have HC := Lib.hid (fun d => kcmp_any B1 B2 (L (k - 1)) C1 (L k) C2 (R (k - 1)) (R k) (Grow wr d) (s1.below (grow_below wr d)) (s2.below (grow_below wr d)))
      have hv := HX.out (k - 1)
      rw [show k - 1 + 1 = k by omega] at hv
      generalize cmpB (R (k - 1)) (L (k - 1)) (R k) (L k) = z at *
      clear s1 s2
      have e1 : ((k : Int) - 1).toNat = k - 1 := by omega
      have e2 : 0 ≤ (k : Int) - 1 := by omega
      have e3 : (k : Int) - 1 < n := by omega
      cases hz : decide (0 ≤ z)
      · have hxk : xs (k - 1) = false := hv.out.trans hz
        replace hxk := Lib.hid hxk
        go_wp2_with fail
        first | (with_reducible refine rgrow2 (by kernel_rfl) (by kernel_rfl) ?_) | (refine rgrow (by kernel_rfl) (by kernel_rfl) ?_)
        repeat (go_big_quiet_step (((go_at_call 29; exact grow_call (HC.out _)))))
        refine wpQuiet_nil ?_
        intro dr
        go_wp2
        go_roundw
        case rel => exact ⟨k + 1, by omega, by omega, by go_num, fun j hj => by by_cases e : j = k - 1; (subst e; exact hxk.out); exact hx.out j (by omega), by have t := hb.out; show Below _ _ _; (repeat (first | exact Below.refl _ _ | assumption | refine below_drewN ?_ _ | refine bel_grow ?_ _ | refine Below.drew ?_ | refine bel_alloc ?_ _ | refine bel_set ?_ (by first | exact Nat.le_refl _ | (simp; done) | (simp; omega) | omega) _ | refine bel_trans ?_ (by assumption)))⟩
        case measure => simp [intOf]; omega
      · have hxk : xs (k - 1) = true := hv.out.trans hz
        replace hxk := Lib.hid hxk
        go_wp2_with fail
        first | (with_reducible refine rgrow2 (by kernel_rfl) (by kernel_rfl) ?_) | (refine rgrow (by kernel_rfl) (by kernel_rfl) ?_)
        repeat (go_big_quiet_step (((go_at_call 29; exact grow_call (HC.out _)))))
        refine wpQuiet_nil ?_
        intro dr
        go_wp2
        go_ret
        exact ⟨by rw [anyB_true hxk.out (by omega)]; rfl, by have t := hb.out; (repeat (first | exact Below.refl _ _ | assumption | refine below_drewN ?_ _ | refine bel_grow ?_ _ | refine Below.drew ?_ | refine bel_alloc ?_ _ | refine bel_set ?_ (by first | exact Nat.le_refl _ | (simp; done) | (simp; omega) | omega) _ | refine bel_trans ?_ (by assumption)))⟩
    · go_wp2
      go_ret
      exact ⟨by rw [anyB_false (fun j hj => hx.out j (by omega))]; rfl, hb.out⟩
end Go.Proofs.Ytbmdnifkjcimcaa
-- Nd
namespace Go.Proofs.Ytbmdnifkjcimcaa
set_option linter.unusedVariables false
set_option linter.unusedSimpArgs false
open Go.RowKit

/-- a node's slices, in memory -/
def NdIs (w : World) (KA VA CA : Option Addr) (d : Nd) : Prop :=
  RsIs w KA d.kn d.KL d.K ∧ RsIs w VA d.vn d.VL d.V ∧ SlIs w CA d.cn (fun j => .int .u32 (d.C j)) ∧ d.kn ≤ 1000000 ∧ d.vn ≤ 1000000 ∧ d.cn ≤ 1000000
theorem NdIs.below {w w' : World} {KA VA CA : Option Addr} {d : Nd} (h : NdIs w KA VA CA d) (hb : Below w.heap.size w w') : NdIs w' KA VA CA d :=
  ⟨h.1.below hb, h.2.1.below hb, h.2.2.1.below hb, h.2.2.2⟩
theorem right1_any (z : Int) (w : World) : Calls Try.prog 26 #[.int .u32 z] w fun r w' => r = .returned (.bool (decide (z < 2))) ∧ w' = w := by
  go_enter Try.func26, Try.ntmps26
  go_wp2
  go_ret
  exact ⟨rfl, rfl⟩
set_option maxHeartbeats 1000000 in
theorem idxC_any (A : Option Addr) (n c : Nat) (C : Nat → Int) (w : World) (hn : n ≤ 1000000) (hs : SlIs w A n (fun j => .int .u32 (C j))) :
    Calls Try.prog 41 #[.slice A n c, .func (Fn.func 26) #[] #[]] w fun r w' => IdxPost (fun i => decide (C i < 2)) n r ∧ Below w.heap.size w w' := by
  have HX : ∀ i, Hid ((fun i => decide (C i < 2)) i = decide (C i < 2)) := fun i => Lib.hid rfl
  generalize (fun i => decide (C i < 2)) = xs at *
  replace HX := Lib.hid HX
  replace hs := Lib.hid hs
  go_enter Try.func41, Try.ntmps41
  go_wp2
  go_loopw [8] (fun i wr => ∃ k : Nat, k ≤ n ∧ i = .int .i64 k ∧ Hid (∀ j, j < k → xs j = false) ∧ Hid (Below w.heap.size w wr)) (fun i _ => n - (intOf i).toNat)
  case atStart => exact ⟨0, by omega, rfl, fun j h => by omega, Below.refl _ _⟩
  case round =>
    obtain ⟨k, hk, rfl, hx, hb⟩ := hrel
    by_cases hlt : k < n
    · obtain ⟨b, o, rfl, hbl, hcl⟩ := (hs.out.below hb.out) (by omega)
      have hc : wr.cell? ⟨b, o + k, none⟩ = some (.int .u32 (C k)) := hcl k hlt
      clear hcl
      have hv := (HX.out k).out
      generalize C k = z at *
      cases hz : decide (z < 2)
      · have hxk : xs k = false := hv.trans hz
        replace hxk := Lib.hid hxk
        replace hz := Lib.hid hz
        go_wp2_with fail
        refine (right1_any z wr).mono ?_
        rintro e w2 ⟨rfl, rfl⟩
        rw [hz.out]
        go_wp2
        go_roundw
        case rel => exact ⟨k + 1, by omega, by go_num, fun j hj => by by_cases e : j = k; (subst e; exact hxk.out); exact hx.out j (by omega), hb.out⟩
        case measure => simp [intOf]; omega
      · have hxk : xs k = true := hv.trans hz
        replace hxk := Lib.hid hxk
        replace hz := Lib.hid hz
        go_wp2_with fail
        refine (right1_any z wr).mono ?_
        rintro e w2 ⟨rfl, rfl⟩
        rw [hz.out]
        go_wp2
        go_ret
        exact ⟨⟨k, rfl, by rw [anyB_true hxk.out hlt]; simp⟩, hb.out⟩
    · obtain rfl : k = n := by omega
      go_wp2
      go_ret
      exact ⟨⟨-1, rfl, by rw [anyB_false hx.out]; decide⟩, hb.out⟩
set_option maxHeartbeats 1000000 in
theorem conC_any (A : Option Addr) (n c : Nat) (C : Nat → Int) (w : World) (hn : n ≤ 1000000) (hs : SlIs w A n (fun j => .int .u32 (C j))) :
    Calls Try.prog 25 #[.slice A n c, .func (Fn.func 26) #[] #[]] w fun r w' => r = .returned (.bool (anyB (fun i => decide (C i < 2)) n)) ∧ Below w.heap.size w w' := by
  have HI := Lib.hid (idxC_any A n c C w hn hs)
  clear hs
  go_enter Try.func25, Try.ntmps25
  go_wp2_with fail
  refine HI.out.mono ?_
  rintro e w2 ⟨⟨i, rfl, hi⟩, hb2⟩
  replace hi := Lib.hid hi
  go_wp2
  go_ret
  exact ⟨(show Ending.returned (Value.bool (decide (0 ≤ i))) = Ending.returned (Value.bool (anyB (fun i => decide (C i < 2)) n)) by rw [hi.out]), hb2⟩
theorem ret_b {x y : Bool} (h : x = y) : Ending.returned (.bool x) = .returned (.bool y) := by rw [h]
set_option maxRecDepth 8000 in
set_option maxHeartbeats 4000000 in
theorem right_any (lf : Bool) (KA VA CA : Option Addr) (kn kc vn vc cn cc : Nat) (KL VL : Nat → Nat) (K V : Nat → Nat → Int) (C : Nat → Int) (k v : Int) (w : World) (hN : NdIs w KA VA CA ⟨lf, kn, KL, K, vn, VL, V, cn, C⟩) : Calls Try.prog 10 #[.agg #[.bool lf, .slice KA kn kc, .slice VA vn vc, .slice CA cn cc], .int .i64 k, .int .i64 v] w fun r w' => r = .returned (.bool (rightB ⟨lf, kn, KL, K, vn, VL, V, cn, C⟩ k v)) ∧ Below w.heap.size w w' := by
  obtain ⟨n1, n2, n3, m1, m2, m3⟩ := hN
  dsimp only at n1 n2 n3 m1 m2 m3
  have HC := Lib.hid (fun w => caps_any k v w)
  have HK := Lib.hid (fun W (hb : Below w.heap.size w W) => long_any KA kn kc k KL K W m1 (n1.below hb))
  have HV := Lib.hid (fun W (hb : Below w.heap.size w W) => long_any VA vn vc v VL V W m2 (n2.below hb))
  have HR := Lib.hid (fun W (hb : Below w.heap.size w W) => rises_any KA kn kc KL K W m1 (n1.below hb))
  have HA := Lib.hid (fun W (hb : Below w.heap.size w W) => conC_any CA cn cc C W m3 (n3.below hb))
  clear n1 n2 n3
  have HE : rightB ⟨lf, kn, KL, K, vn, VL, V, cn, C⟩ k v = (longB KL kn k && longB VL vn v && riseB KL K kn && (if lf = true then decide (cn = 0 ∧ 1 ≤ kn ∧ (kn : Int) ≤ capL k v ∧ vn = kn) else !anyB (fun i => decide (C i < 2)) cn && decide (vn = 0 ∧ 2 ≤ cn ∧ (cn : Int) ≤ capI k v ∧ kn + 1 = cn))) := rfl
  generalize rightB ⟨lf, kn, KL, K, vn, VL, V, cn, C⟩ k v = q at *
  generalize longB KL kn k = bK at *
  generalize longB VL vn v = bV at *
  generalize riseB KL K kn = bR at *
  generalize anyB (fun i => decide (C i < 2)) cn = bA at *
  generalize capL k v = cl at *
  generalize capI k v = ci at *
  obtain ⟨x, hx⟩ : ∃ x, (bK && bV && bR) = x := ⟨_, rfl⟩
  rw [hx] at HE
  replace HE := Lib.hid HE
  replace hx := Lib.hid hx
  have hb0 := Below.refl w.heap.size w
  go_enter Try.func10, Try.ntmps10
  replace hb0 := Lib.hid hb0
  go_wp2_with fail
  refine (HC.out _).mono ?_
  rintro e w_1 ⟨rfl, hb_1⟩
  have z_1 := hb_1.size
  try simp at z_1
  have t_ := hb0.out
  have hB_1 := bel_eld (w := w) (X := _) (by first | ((repeat (first | with_reducible exact Below.refl _ _ | with_reducible assumption | (with_reducible refine bel_set ?_ (by first | exact Nat.le_refl _ | (simp; done) | (simp; omega) | omega) _) | with_reducible refine bel_grow ?_ _ | with_reducible refine Below.drew ?_ | with_reducible refine below_drewN ?_ _ | with_reducible refine bel_alloc ?_ _ | with_reducible refine bel_trans ?_ (by assumption))); done) | (repeat (first | exact Below.refl _ _ | assumption | refine below_drewN ?_ _ | refine bel_grow ?_ _ | refine Below.drew ?_ | refine bel_alloc ?_ _ | refine bel_set ?_ (by first | exact Nat.le_refl _ | (simp; done) | (simp; omega) | omega) _ | refine bel_trans ?_ (by assumption)))) hb_1
  clear t_
  have g_n : Blk w_1 (w.heap.size) 28 #[.bool lf, .slice KA kn kc, .slice VA vn vc, .slice CA cn cc] := by
    refine Blk.kept ?_ hb_1
    (repeat (first | with_reducible assumption | (with_reducible refine Blk.new' ?_; first | with_reducible rfl | (simp; done)) | with_reducible refine Blk.alloc ?_ _ | with_reducible refine Blk.grow ?_ _ | with_reducible refine Blk.drew ?_ | with_reducible refine Blk.drewN ?_ _ | (with_reducible refine Blk.far ?_ (by first | (dsimp only; omega) | (simp; omega)) _) | (with_reducible apply Blk.two) | (with_reducible refine Blk.set' ?_ _ _ ?_) | (with_reducible rfl) | rfl))
  clear hb0 hb_1
  have f_n := g_n
  clear g_n
  have n_0 : w_1.cell? ⟨w.heap.size, 0, none⟩ = some (.bool lf) := (f_n).cell 0
  have n_1 : w_1.cell? ⟨w.heap.size, 1, none⟩ = some (.slice KA kn kc) := (f_n).cell 1
  have n_2 : w_1.cell? ⟨w.heap.size, 2, none⟩ = some (.slice VA vn vc) := (f_n).cell 2
  have n_3 : w_1.cell? ⟨w.heap.size, 3, none⟩ = some (.slice CA cn cc) := (f_n).cell 3
  have n_f0 := (f_n).frozen 0
  have n_f1 := (f_n).frozen 1
  have n_f2 := (f_n).frozen 2
  have n_f3 := (f_n).frozen 3
  have n_l := (f_n).lt
  replace f_n := Lib.hid f_n
  replace hB_1 := Lib.hid hB_1
  go_upto_region 2 with fail
  go_cut [32] (fun s wx => s = .bool (!x) ∧ Below w_1.heap.size w_1 wx)
  case first =>
    cases bK <;> cases bV <;> cases bR
    all_goals (
      go_wp2_with (first | (go_at_call 23; first | ((with_reducible refine (grow_call (HK.out _ (bel_eld hB_1.out (grow_below _ _)))).mono ?_); rintro e9 w9 ⟨rfl, d9, rfl⟩) | ((with_reducible refine (gro (HK.out _ hB_1.out)).mono ?_); rintro e9 w9 ⟨rfl, d9, rfl⟩) | ((with_reducible refine (grow_call (HV.out _ (bel_eld hB_1.out (grow_below _ _)))).mono ?_); rintro e9 w9 ⟨rfl, d9, rfl⟩)) | (go_at_call 24; (with_reducible refine (grow_call (HR.out _ (bel_eld hB_1.out (grow_below _ _)))).mono ?_); rintro e9 w9 ⟨rfl, d9, rfl⟩))
      go_meet
      exact ⟨by rw [← hx.out]; rfl, by (repeat (first | exact Below.refl _ _ | assumption | refine below_drewN ?_ _ | refine bel_grow ?_ _ | refine Below.drew ?_ | refine bel_alloc ?_ _ | refine bel_set ?_ (by first | exact Nat.le_refl _ | (simp; done) | (simp; omega) | omega) _ | refine bel_trans ?_ (by assumption)))⟩)
  case rest =>
    obtain ⟨rfl, hb2⟩ := hcut
    have f_n2 := f_n.out.kept hb2
    have hB := bel_eld hB_1.out hb2
    clear f_n n_l n_0 n_1 n_2 n_3 n_f0 n_f1 n_f2 n_f3 hB_1 hb2 HC HK HV HR
    have n0 := (f_n2).cell 0
    have n1 := (f_n2).cell 1
    have n2 := (f_n2).cell 2
    have n3 := (f_n2).cell 3
    have nf0 := (f_n2).frozen 0
    have nf1 := (f_n2).frozen 1
    have nf2 := (f_n2).frozen 2
    have nf3 := (f_n2).frozen 3
    have nl := (f_n2).lt
    clear f_n2
    clear hx
    replace HA := Lib.hid (HA.out wc hB)
    replace hB := Lib.hid hB
    cases x
    · go_wp2_with fail
      go_ret
      exact ⟨ret_b (by rw [HE.out]; rfl), hB.out⟩
    · cases lf
      · go_wp2_with fail
        refine HA.out.mono ?_
        rintro e9 w9 ⟨rfl, hb9⟩
        have z_ := hb9.size
        have p0 := keepc hb9 n0
        have p1 := keepc hb9 n1
        have p2 := keepc hb9 n2
        have p3 := keepc hb9 n3
        clear n0 n1 n2 n3
        have hW := Lib.hid (bel_eld hB.out hb9)
        clear hb9
        cases bA
        · by_cases c1 : vn = 0
          · have d1 : ((vn : Int) == 0) = true := by simp [c1]
            by_cases c2 : 2 ≤ cn
            · have d2 : decide ((cn : Int) ≥ 2) = true := decide_eq_true (by omega)
              by_cases c3 : (cn : Int) ≤ ci
              · have d3 : decide ((cn : Int) ≤ ci) = true := decide_eq_true c3
                have e0 : 0 ≤ (cn : Int) - 1 := by omega
                by_cases c4 : kn + 1 = cn
                · have d4 : ((kn : Int) == (cn : Int) - 1) = true := by simp; omega
                  have c1h := Lib.hid c1
                  clear c1
                  have c4h := Lib.hid c4
                  clear c4
                  go_wp2_with fail
                  go_ret
                  exact ⟨ret_b (by (try have c1 := c1h.out); (try have c4 := c4h.out); have t_ := HE.out; simp at t_; rw [t_]; simp; omega), hW.out⟩
                · have d4 : ((kn : Int) == (cn : Int) - 1) = false := by simp; omega
                  have c1h := Lib.hid c1
                  clear c1
                  go_wp2_with fail
                  go_ret
                  exact ⟨ret_b (by (try have c1 := c1h.out); (try have c4 := c4h.out); have t_ := HE.out; simp at t_; rw [t_]; simp; omega), hW.out⟩
              · have d3 : decide ((cn : Int) ≤ ci) = false := decide_eq_false c3
                have c1h := Lib.hid c1
                clear c1
                go_wp2_with fail
                go_ret
                exact ⟨ret_b (by (try have c1 := c1h.out); (try have c4 := c4h.out); have t_ := HE.out; simp at t_; rw [t_]; simp; omega), hW.out⟩
            · have d2 : decide ((cn : Int) ≥ 2) = false := decide_eq_false (by omega)
              have c1h := Lib.hid c1
              clear c1
              go_wp2_with fail
              go_ret
              exact ⟨ret_b (by (try have c1 := c1h.out); (try have c4 := c4h.out); have t_ := HE.out; simp at t_; rw [t_]; simp; omega), hW.out⟩
          · have d1 : ((vn : Int) == 0) = false := by simp; omega
            go_wp2_with fail
            go_ret
            exact ⟨ret_b (by (try have c1 := c1h.out); (try have c4 := c4h.out); have t_ := HE.out; simp at t_; rw [t_]; simp; omega), hW.out⟩
        · go_wp2_with fail
          go_ret
          exact ⟨ret_b (by rw [HE.out]; rfl), hW.out⟩
      · clear HA
        by_cases c1 : cn = 0
        · have d1 : ((cn : Int) == 0) = true := by simp [c1]
          by_cases c2 : 1 ≤ kn
          · have d2 : decide ((kn : Int) ≥ 1) = true := decide_eq_true (by omega)
            by_cases c3 : (kn : Int) ≤ cl
            · have d3 : decide ((kn : Int) ≤ cl) = true := decide_eq_true c3
              by_cases c4 : vn = kn
              · have d4 : ((vn : Int) == (kn : Int)) = true := by simp [c4]
                have c1h := Lib.hid c1
                clear c1
                have c4h := Lib.hid c4
                clear c4
                go_wp2_with fail
                go_ret
                exact ⟨ret_b (by (try have c1 := c1h.out); (try have c4 := c4h.out); have t_ := HE.out; simp at t_; rw [t_]; simp; omega), hB.out⟩
              · have d4 : ((vn : Int) == (kn : Int)) = false := by simp; omega
                have c1h := Lib.hid c1
                clear c1
                go_wp2_with fail
                go_ret
                exact ⟨ret_b (by (try have c1 := c1h.out); (try have c4 := c4h.out); have t_ := HE.out; simp at t_; rw [t_]; simp; omega), hB.out⟩
            · have d3 : decide ((kn : Int) ≤ cl) = false := decide_eq_false c3
              have c1h := Lib.hid c1
              clear c1
              go_wp2_with fail
              go_ret
              exact ⟨ret_b (by (try have c1 := c1h.out); (try have c4 := c4h.out); have t_ := HE.out; simp at t_; rw [t_]; simp; omega), hB.out⟩
          · have d2 : decide ((kn : Int) ≥ 1) = false := decide_eq_false (by omega)
            have c1h := Lib.hid c1
            clear c1
            go_wp2_with fail
            go_ret
            exact ⟨ret_b (by (try have c1 := c1h.out); (try have c4 := c4h.out); have t_ := HE.out; simp at t_; rw [t_]; simp; omega), hB.out⟩
        · have d1 : ((cn : Int) == 0) = false := by simp; omega
          go_wp2_with fail
          go_ret
          exact ⟨ret_b (by (try have c1 := c1h.out); (try have c4 := c4h.out); have t_ := HE.out; simp at t_; rw [t_]; simp; omega), hB.out⟩
end Go.Proofs.Ytbmdnifkjcimcaa
