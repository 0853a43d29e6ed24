/-
  node.long, node.rises, and what they call, walked.
-/
import Derived.Test.YtbmdnifkjcimcaaNa
namespace Go.Proofs.Ytbmdnifkjcimcaa
set_option linter.unusedVariables false
set_option linter.unusedSimpArgs false
open Go.RowKit

def IdxPost (xs : Nat → Bool) (n : Nat) (r : Ending) : Prop := ∃ i : Int, r = .returned (.int .i64 i) ∧ decide (0 ≤ i) = anyB xs n

set_option maxHeartbeats 1000000 in
theorem idxR_any (cap : Array Value) (xs : Nat → Bool) (A : Option Addr) (n c : Nat) (L : Nat → Nat) (R : Nat → Nat → Int) (w : World) (hn : n ≤ 1000000) (hR : RsIs w A n L R)
    (hcall : ∀ k, k < n → ∀ B C W, Below w.heap.size w W → Calls Try.prog 40 (#[.slice B (L k) C] ++ cap) W fun r w' => r = .returned (.bool (xs k)) ∧ Below W.heap.size W w') :
    Calls Try.prog 45 #[.slice A n c, .func (Fn.func 40) #[] cap] w fun r w' => IdxPost xs n r ∧ Below w.heap.size w w' := by
  replace hcall := Lib.hid hcall
  replace hR := Lib.hid hR
  go_enter Try.func45, Try.ntmps45
  go_wp2
  go_loopw [8] (fun i wr => ∃ k : Nat, k ≤ n ∧ i = .int .i64 k ∧ Hid (∀ j, j < k → xs j = false) ∧ Hid (Below w.heap.size w wr)) (fun i _ => n - (intOf i).toNat)
  case atStart => exact ⟨0, by omega, rfl, fun j h => by omega, Below.refl _ _⟩
  case round =>
    obtain ⟨k, hk, rfl, hx, hb⟩ := hrel
    by_cases hlt : k < n
    · obtain ⟨b, o, B, C, rfl, hbl, hc, _, _, _⟩ := (hR.out.below hb.out).at hlt
      have HC := Lib.hid (hcall.out k hlt B C wr hb.out)
      cases hxk : xs k
      · replace hxk := Lib.hid hxk
        go_wp2_with fail
        refine HC.out.mono ?_
        rintro e w2 ⟨rfl, hb2⟩
        rw [hxk.out]
        go_wp2
        go_roundw
        case rel => exact ⟨k + 1, by omega, by go_num, fun j hj => by by_cases e : j = k; (subst e; exact hxk.out); exact hx.out j (by omega), bel_eld hb.out hb2⟩
        case measure => simp [intOf]; omega
      · replace hxk := Lib.hid hxk
        go_wp2_with fail
        refine HC.out.mono ?_
        rintro e w2 ⟨rfl, hb2⟩
        rw [hxk.out]
        go_wp2
        go_ret
        exact ⟨⟨k, rfl, by rw [anyB_true hxk.out hlt]; simp⟩, bel_eld hb.out hb2⟩
    · obtain rfl : k = n := by omega
      go_wp2
      go_ret
      exact ⟨⟨-1, rfl, by rw [anyB_false hx.out]; decide⟩, hb.out⟩
theorem bne_len (l : Nat) (k : Int) : decide (¬ (l : Int) = k) = ((l : Int) != k) := by
  rw [Bool.eq_iff_iff]; simp
set_option maxHeartbeats 1000000 in
theorem long1_any (A : Option Addr) (l c g : Nat) (k : Int) (w : World) (hg : w.cell? ⟨g, 0, none⟩ = some (.int .i64 k)) :
    Calls Try.prog 40 #[.slice A l c, .pointer (some ⟨g, 0, none⟩)] w fun r w' => r = .returned (.bool ((l : Int) != k)) ∧ Below w.heap.size w w' := by
  go_enter Try.func40, Try.ntmps40
  go_wp2
  go_ret
  exact ⟨rfl, by (repeat (first | exact Below.refl _ _ | assumption | refine below_drewN ?_ _ | refine bel_grow ?_ _ | refine Below.drew ?_ | refine bel_alloc ?_ _ | refine bel_set ?_ (by first | exact Nat.le_refl _ | (simp; done) | (simp; omega) | omega) _ | refine bel_trans ?_ (by assumption)))⟩
set_option maxHeartbeats 1000000 in
theorem long_any (A : Option Addr) (n c : Nat) (k : Int) (L : Nat → Nat) (R : Nat → Nat → Int) (w : World) (hn : n ≤ 1000000) (hR : RsIs w A n L R) :
    Calls Try.prog 23 #[.slice A n c, .int .i64 k] w fun r w' => r = .returned (.bool (longB L n k)) ∧ Below w.heap.size w w' := by
  have hmf : ∀ (fn : Fn) (first cap : Array Value) (w : World), (Instr.makeFunc fn first cap).run Try.prog w = .ok (.func fn first cap) w := fun _ _ _ _ => rfl
  have HI := Lib.hid (idxR_any #[.pointer (some ⟨w.heap.size, 0, none⟩)] (fun i => ((L i : Int) != k)) A n c L R (w.alloc (.cells #[.int .i64 k] 3)) hn (hR.below (bel_alloc (Below.refl _ _) _)) (fun j hj B C W hb => long1_any B (L j) C w.heap.size k W (by rw [(hb.cell (p := ⟨w.heap.size, 0, none⟩) (by simp))]; exact (Blk.new w _ _).cell 0)))
  unfold longB
  clear hR
  go_enter Try.func23, Try.ntmps23
  go_wp2_with (go_at_call 39; go_in)
  refine HI.out.mono ?_
  rintro e w2 ⟨⟨i, rfl, hi⟩, hb2⟩
  replace hi := Lib.hid hi
  go_wp2
  go_ret
  exact ⟨(show Ending.returned (Value.bool (!decide (0 ≤ i))) = Ending.returned (Value.bool (!anyB (fun i => ((L i : Int) != k)) n)) by rw [hi.out]), bel_eld (bel_alloc (Below.refl _ _) _) hb2⟩
set_option maxHeartbeats 2000000 in
theorem rises_any (A : Option Addr) (n c : Nat) (L : Nat → Nat) (R : Nat → Nat → Int) (w : World) (hn : n ≤ 1000000) (hR : RsIs w A n L R) :
    Calls Try.prog 24 #[.slice A n c] w fun r w' => r = .returned (.bool (riseB L R n)) ∧ Below w.heap.size w w' := by
  have HX : ∀ i, Hid ((fun i => decide (0 ≤ cmpB (R i) (L i) (R (i + 1)) (L (i + 1)))) i = decide (0 ≤ cmpB (R i) (L i) (R (i + 1)) (L (i + 1)))) := fun i => Lib.hid rfl
  unfold riseB
  generalize (fun i => decide (0 ≤ cmpB (R i) (L i) (R (i + 1)) (L (i + 1)))) = xs at *
  replace hR := Lib.hid hR
  replace HX := Lib.hid HX
  go_enter Try.func24, Try.ntmps24
  go_wp2
  go_loopw [3] (fun i wr => ∃ k : Nat, 1 ≤ k ∧ (k ≤ n ∨ k = 1) ∧ i = .int .i64 k ∧ Hid (∀ j, j + 1 < k → xs j = false) ∧ Hid (Below w.heap.size w wr)) (fun i _ => n - (intOf i).toNat)
  case atStart => exact ⟨1, by omega, by omega, rfl, fun j h => by omega, Below.refl _ _⟩
  case round =>
    obtain ⟨k, hk1, hk, rfl, hx, hb⟩ := hrel
    by_cases hlt : k < n
    · obtain ⟨b, o, B1, C1, rfl, hbl, hc1, _, _, s1⟩ := (hR.out.below hb.out).at (i := k - 1) (by omega)
      obtain ⟨b', o', B2, C2, e', _, hc2, _, _, s2⟩ := (hR.out.below hb.out).at (i := k) hlt
      cases e'
      have HC := Lib.hid (fun d => kcmp_any B1 B2 (L (k - 1)) C1 (L k) C2 (R (k - 1)) (R k) (Grow wr d) (s1.below (grow_below wr d)) (s2.below (grow_below wr d)))
      have hv := HX.out (k - 1)
      rw [show k - 1 + 1 = k by omega] at hv
      generalize cmpB (R (k - 1)) (L (k - 1)) (R k) (L k) = z at *
      clear s1 s2
      have e1 : ((k : Int) - 1).toNat = k - 1 := by omega
      have e2 : 0 ≤ (k : Int) - 1 := by omega
      have e3 : (k : Int) - 1 < n := by omega
      cases hz : decide (0 ≤ z)
      · have hxk : xs (k - 1) = false := hv.out.trans hz
        replace hxk := Lib.hid hxk
        go_wp2_with fail
        first | (with_reducible refine rgrow2 (by kernel_rfl) (by kernel_rfl) ?_) | (refine rgrow (by kernel_rfl) (by kernel_rfl) ?_)
        repeat (go_big_quiet_step (((go_at_call 29; exact grow_call (HC.out _)))))
        refine wpQuiet_nil ?_
        intro dr
        go_wp2
        go_roundw
        case rel => exact ⟨k + 1, by omega, by omega, by go_num, fun j hj => by by_cases e : j = k - 1; (subst e; exact hxk.out); exact hx.out j (by omega), by have t := hb.out; show Below _ _ _; (repeat (first | exact Below.refl _ _ | assumption | refine below_drewN ?_ _ | refine bel_grow ?_ _ | refine Below.drew ?_ | refine bel_alloc ?_ _ | refine bel_set ?_ (by first | exact Nat.le_refl _ | (simp; done) | (simp; omega) | omega) _ | refine bel_trans ?_ (by assumption)))⟩
        case measure => simp [intOf]; omega
      · have hxk : xs (k - 1) = true := hv.out.trans hz
        replace hxk := Lib.hid hxk
        go_wp2_with fail
        first | (with_reducible refine rgrow2 (by kernel_rfl) (by kernel_rfl) ?_) | (refine rgrow (by kernel_rfl) (by kernel_rfl) ?_)
        repeat (go_big_quiet_step (((go_at_call 29; exact grow_call (HC.out _)))))
        refine wpQuiet_nil ?_
        intro dr
        go_wp2
        go_ret
        exact ⟨by rw [anyB_true hxk.out (by omega)]; rfl, by have t := hb.out; (repeat (first | exact Below.refl _ _ | assumption | refine below_drewN ?_ _ | refine bel_grow ?_ _ | refine Below.drew ?_ | refine bel_alloc ?_ _ | refine bel_set ?_ (by first | exact Nat.le_refl _ | (simp; done) | (simp; omega) | omega) _ | refine bel_trans ?_ (by assumption)))⟩
    · go_wp2
      go_ret
      exact ⟨by rw [anyB_false (fun j hj => hx.out j (by omega))]; rfl, hb.out⟩
end Go.Proofs.Ytbmdnifkjcimcaa
