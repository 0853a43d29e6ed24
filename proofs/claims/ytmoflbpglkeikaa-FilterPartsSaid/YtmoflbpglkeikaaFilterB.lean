/-
  Whether a filter is right: the program's answer.
-/
import Derived.Test.YtmoflbpglkeikaaFilterA
namespace Go.Proofs.Ytmoflbpglkeikaa
set_option linter.unusedVariables false
set_option linter.unusedSimpArgs false
open Go.RowKit

def rightB (a b c d e f : Int) : Bool := !(wr1 a b || wr2 f || wr3 e || wr4 c d || wr5 c d)

/-- the six cells of a filter -/
def FCells (w : World) (h : Nat) (a b c d e f : Int) : Prop := h < w.heap.size ∧ w.cell? ⟨h, 0, none⟩ = some (.int .u64 a) ∧ w.cell? ⟨h, 1, none⟩ = some (.int .u64 b) ∧ w.cell? ⟨h, 2, none⟩ = some (.int .u64 c) ∧ w.cell? ⟨h, 3, none⟩ = some (.int .u64 d) ∧ w.cell? ⟨h, 4, none⟩ = some (.int .u32 e) ∧ w.cell? ⟨h, 5, none⟩ = some (.int .u32 f)
theorem FCells.grow {w : World} {h : Nat} {a b c d e f : Int} (H : FCells w h a b c d e f) (g : World) : FCells (Grow w g) h a b c d e f := by
  obtain ⟨h0, h1, h2, h3, h4, h5, h6⟩ := H
  exact ⟨grow_lt _ _ _ h0, by rw [grow_cell _ _ _ _ h0, h1], by rw [grow_cell _ _ _ _ h0, h2], by rw [grow_cell _ _ _ _ h0, h3], by rw [grow_cell _ _ _ _ h0, h4], by rw [grow_cell _ _ _ _ h0, h5], by rw [grow_cell _ _ _ _ h0, h6]⟩

theorem r1_any (a b c d e f : Int) (h : Nat) (w : World) (H : FCells w h a b c d e f) : Calls Try.prog 19 #[.func (Fn.func 22) #[] #[], .pointer (some ⟨h, 0, none⟩)] w fun r w' => r = .returned (.bool (wr1 a b)) ∧ Below w.heap.size w w' := by
  obtain ⟨h0, h1, h2, h3, h4, h5, h6⟩ := H
  go_enter Try.func19, Try.ntmps19
  go_wp2_with (go_at_call 22; refine (gro (w1_any a b c d e f _)).mono ?_; rintro e w' ⟨rfl, d1, rfl⟩)
  go_ret
  exact ⟨rfl, (by repeat (first | exact Below.refl _ _ | assumption | refine below_drewN ?_ _ | refine bel_grow ?_ _ | refine Below.drew ?_ | refine bel_alloc ?_ _ | refine bel_set ?_ (by first | exact Nat.le_refl _ | (simp; done) | (simp; omega) | omega) _ | refine bel_trans ?_ (by assumption)))⟩

theorem r2_any (a b c d e f : Int) (h : Nat) (w : World) (H : FCells w h a b c d e f) : Calls Try.prog 19 #[.func (Fn.func 24) #[] #[], .pointer (some ⟨h, 0, none⟩)] w fun r w' => r = .returned (.bool (wr2 f)) ∧ Below w.heap.size w w' := by
  obtain ⟨h0, h1, h2, h3, h4, h5, h6⟩ := H
  go_enter Try.func19, Try.ntmps19
  go_wp2_with (go_at_call 24; refine (gro (w2_any a b c d e f _)).mono ?_; rintro e w' ⟨rfl, d1, rfl⟩)
  go_ret
  exact ⟨rfl, (by repeat (first | exact Below.refl _ _ | assumption | refine below_drewN ?_ _ | refine bel_grow ?_ _ | refine Below.drew ?_ | refine bel_alloc ?_ _ | refine bel_set ?_ (by first | exact Nat.le_refl _ | (simp; done) | (simp; omega) | omega) _ | refine bel_trans ?_ (by assumption)))⟩

theorem r3_any (a b c d e f : Int) (h : Nat) (w : World) (H : FCells w h a b c d e f) : Calls Try.prog 19 #[.func (Fn.func 25) #[] #[], .pointer (some ⟨h, 0, none⟩)] w fun r w' => r = .returned (.bool (wr3 e)) ∧ Below w.heap.size w w' := by
  obtain ⟨h0, h1, h2, h3, h4, h5, h6⟩ := H
  go_enter Try.func19, Try.ntmps19
  go_wp2_with (go_at_call 25; refine (gro (w3_any a b c d e f _)).mono ?_; rintro e w' ⟨rfl, d1, rfl⟩)
  go_ret
  exact ⟨rfl, (by repeat (first | exact Below.refl _ _ | assumption | refine below_drewN ?_ _ | refine bel_grow ?_ _ | refine Below.drew ?_ | refine bel_alloc ?_ _ | refine bel_set ?_ (by first | exact Nat.le_refl _ | (simp; done) | (simp; omega) | omega) _ | refine bel_trans ?_ (by assumption)))⟩

theorem r4_any (a b c d e f : Int) (h : Nat) (w : World) (H : FCells w h a b c d e f) : Calls Try.prog 19 #[.func (Fn.func 26) #[] #[], .pointer (some ⟨h, 0, none⟩)] w fun r w' => r = .returned (.bool (wr4 c d)) ∧ Below w.heap.size w w' := by
  obtain ⟨h0, h1, h2, h3, h4, h5, h6⟩ := H
  go_enter Try.func19, Try.ntmps19
  go_wp2_with (go_at_call 26; refine (gro (w4_any a b c d e f _)).mono ?_; rintro e w' ⟨rfl, d1, rfl⟩)
  go_ret
  exact ⟨rfl, (by repeat (first | exact Below.refl _ _ | assumption | refine below_drewN ?_ _ | refine bel_grow ?_ _ | refine Below.drew ?_ | refine bel_alloc ?_ _ | refine bel_set ?_ (by first | exact Nat.le_refl _ | (simp; done) | (simp; omega) | omega) _ | refine bel_trans ?_ (by assumption)))⟩

theorem r5_any (a b c d e f : Int) (h : Nat) (w : World) (H : FCells w h a b c d e f) : Calls Try.prog 19 #[.func (Fn.func 27) #[] #[], .pointer (some ⟨h, 0, none⟩)] w fun r w' => r = .returned (.bool (wr5 c d)) ∧ Below w.heap.size w w' := by
  obtain ⟨h0, h1, h2, h3, h4, h5, h6⟩ := H
  go_enter Try.func19, Try.ntmps19
  go_wp2_with (go_at_call 27; refine (gro (w5_any a b c d e f _)).mono ?_; rintro e w' ⟨rfl, d1, rfl⟩)
  go_ret
  exact ⟨rfl, (by repeat (first | exact Below.refl _ _ | assumption | refine below_drewN ?_ _ | refine bel_grow ?_ _ | refine Below.drew ?_ | refine bel_alloc ?_ _ | refine bel_set ?_ (by first | exact Nat.le_refl _ | (simp; done) | (simp; omega) | omega) _ | refine bel_trans ?_ (by assumption)))⟩


def anyB (xs : Nat → Bool) : Nat → Bool
  | 0 => false
  | k + 1 => anyB xs k || xs k
theorem anyB_false {xs : Nat → Bool} : ∀ {n : Nat}, (∀ j, j < n → xs j = false) → anyB xs n = false
  | 0, _ => rfl
  | n + 1, h => by
    have h1 : anyB xs n = false := anyB_false (fun j hj => h j (by omega))
    simp [anyB, h1, h n (by omega)]
theorem anyB_true {xs : Nat → Bool} {k : Nat} (hk : xs k = true) : ∀ {n : Nat}, k < n → anyB xs n = true
  | n + 1, h => by
    by_cases e : k = n
    · subst e; simp [anyB, hk]
    · simp [anyB, anyB_true hk (n := n) (by omega)]
def IdxPost (xs : Nat → Bool) (n : Nat) (r : Ending) : Prop := ∃ i : Int, r = .returned (.int .i64 i) ∧ decide (0 ≤ i) = anyB xs n

set_option maxHeartbeats 1000000 in
theorem idx_any (fs : Nat → Value) (xs : Nat → Bool) (cap : Array Value) (n c s : Nat) (w : World) (hs : s < w.heap.size) (hn : n ≤ 9223372036854775807)
    (hfs : ∀ k, k < n → w.cell? ⟨s, k, none⟩ = some (fs k))
    (hcall : ∀ k, k < n → ∀ d : World, Calls Try.prog 19 (#[fs k] ++ cap) (Grow w d) fun r w' => r = .returned (.bool (xs k)) ∧ Below (Grow w d).heap.size (Grow w d) w') :
    Calls Try.prog 21 #[.slice (some ⟨s, 0, none⟩) n c, .func (Fn.func 19) #[] cap] w fun r w' =>
      IdxPost xs n r ∧ Below w.heap.size w w' := by
  replace hfs := Lib.hid hfs
  replace hcall := Lib.hid hcall
  have hw0 : w = Grow w w := grow_of (Below.refl _ _)
  replace hw0 := Lib.hid hw0
  go_enter Try.func21, Try.ntmps21
  go_wp2
  go_loopw [8] (fun i wr => ∃ k : Nat, k ≤ n ∧ i = .int .i64 k ∧ Hid (∀ j, j < k → xs j = false) ∧ ∃ d, wr = Grow w d) (fun i _ => n - (intOf i).toNat)
  case atStart => exact ⟨0, by omega, rfl, fun j h => by omega, w, hw0.out⟩
  case round =>
    obtain ⟨k, hk, rfl, hx, d, rfl⟩ := hrel
    by_cases hlt : k < n
    · have hc := hfs.out k hlt
      cases hxk : xs k
      · replace hxk := Lib.hid hxk
        go_wp2_with fail
        refine (grow_call (hcall.out k hlt d)).mono ?_
        rintro e w' ⟨rfl, d2, rfl⟩
        rw [hxk.out]
        go_wp2
        go_roundw
        case rel => exact ⟨k + 1, by omega, by go_num, fun j hj => by by_cases e : j = k; (subst e; exact hxk.out); exact hx.out j (by omega), d2, rfl⟩
        case measure => simp [intOf]; omega
      · replace hxk := Lib.hid hxk
        go_wp2_with fail
        refine (grow_call (hcall.out k hlt d)).mono ?_
        rintro e w' ⟨rfl, d2, rfl⟩
        rw [hxk.out]
        go_wp2
        go_ret
        exact ⟨⟨k, rfl, by rw [anyB_true hxk.out hlt]; simp⟩, (by repeat (first | exact Below.refl _ _ | assumption | refine below_drewN ?_ _ | refine bel_grow ?_ _ | refine Below.drew ?_ | refine bel_alloc ?_ _ | refine bel_set ?_ (by first | exact Nat.le_refl _ | (simp; done) | (simp; omega) | omega) _ | refine bel_trans ?_ (by assumption)))⟩
    · obtain rfl : k = n := by omega
      go_wp2
      go_ret
      exact ⟨⟨-1, rfl, by rw [anyB_false hx.out]; decide⟩, (by repeat (first | exact Below.refl _ _ | assumption | refine below_drewN ?_ _ | refine bel_grow ?_ _ | refine Below.drew ?_ | refine bel_alloc ?_ _ | refine bel_set ?_ (by first | exact Nat.le_refl _ | (simp; done) | (simp; omega) | omega) _ | refine bel_trans ?_ (by assumption)))⟩

theorem contains_any (fs : Nat → Value) (xs : Nat → Bool) (cap : Array Value) (n c s : Nat) (w : World) (hs : s < w.heap.size) (hn : n ≤ 9223372036854775807)
    (hfs : ∀ k, k < n → w.cell? ⟨s, k, none⟩ = some (fs k))
    (hcall : ∀ k, k < n → ∀ d : World, Calls Try.prog 19 (#[fs k] ++ cap) (Grow w d) fun r w' => r = .returned (.bool (xs k)) ∧ Below (Grow w d).heap.size (Grow w d) w') :
    Calls Try.prog 17 #[.slice (some ⟨s, 0, none⟩) n c, .func (Fn.func 19) #[] cap] w fun r w' =>
      r = .returned (.bool (anyB xs n)) ∧ Below w.heap.size w w' := by
  have HI := Lib.hid (idx_any fs xs cap n c s w hs hn hfs hcall)
  clear hfs hcall
  go_enter Try.func17, Try.ntmps17
  go_wp2_with fail
  refine HI.out.mono ?_
  rintro e w' ⟨⟨i, rfl, hi⟩, hb⟩
  replace hi := Lib.hid hi
  go_wp2
  go_ret
  exact ⟨by rw [← hi.out]; rfl, (by repeat (first | exact Below.refl _ _ | assumption | refine below_drewN ?_ _ | refine bel_grow ?_ _ | refine Below.drew ?_ | refine bel_alloc ?_ _ | refine bel_set ?_ (by first | exact Nat.le_refl _ | (simp; done) | (simp; omega) | omega) _ | refine bel_trans ?_ (by assumption)))⟩

def wrs (a b c d e f : Int) : Nat → Bool
  | 0 => wr1 a b | 1 => wr2 f | 2 => wr3 e | 3 => wr4 c d | _ => wr5 c d
def wfs : Nat → Value
  | 0 => .func (Fn.func 22) #[] #[] | 1 => .func (Fn.func 24) #[] #[] | 2 => .func (Fn.func 25) #[] #[] | 3 => .func (Fn.func 26) #[] #[] | _ => .func (Fn.func 27) #[] #[]

theorem right_any (a b c d e f : Int) (w : World) : Calls Try.prog 10 #[.agg #[.int .u64 a, .int .u64 b, .int .u64 c, .int .u64 d, .int .u32 e, .int .u32 f]] w fun r w' => r = .returned (.bool (rightB a b c d e f)) ∧ Below w.heap.size w w' := by
  have hmf : ∀ (fn : Fn) (first cap : Array Value) (w : World), (Instr.makeFunc fn first cap).run Try.prog w = .ok (.func fn first cap) w := fun _ _ _ _ => rfl
  have e1 : (!anyB (wrs a b c d e f) 5) = rightB a b c d e f := by simp [anyB, wrs, rightB, Bool.or_assoc]
  replace e1 := Lib.hid e1
  go_enter Try.func10, Try.ntmps10
  go_wp2_with (go_at_call 18; go_in)
  refine (gro (contains_any wfs (wrs a b c d e f) #[.pointer (some ⟨w.heap.size, 0, none⟩)] 5 5 (w.heap.size + 1) _ (by simp) (by omega) ?_ ?_)).mono ?_
  · intro k hk
    rcases (by omega : k = 0 ∨ k = 1 ∨ k = 2 ∨ k = 3 ∨ k = 4) with rfl | rfl | rfl | rfl | rfl <;> simp [go_sem, wfs]
  · intro k hk g
    have hF : FCells (Grow ((w.alloc (.cells #[.int .u64 a, .int .u64 b, .int .u64 c, .int .u64 d, .int .u32 e, .int .u32 f] 27)).alloc (.cells #[.func (Fn.func 22) #[] #[], .func (Fn.func 24) #[] #[], .func (Fn.func 25) #[] #[], .func (Fn.func 26) #[] #[], .func (Fn.func 27) #[] #[]] 31)) g) w.heap.size a b c d e f :=
      FCells.grow ⟨by simp; omega, by simp [go_sem], by simp [go_sem], by simp [go_sem], by simp [go_sem], by simp [go_sem], by simp [go_sem]⟩ g
    rcases (by omega : k = 0 ∨ k = 1 ∨ k = 2 ∨ k = 3 ∨ k = 4) with rfl | rfl | rfl | rfl | rfl
    · exact r1_any a b c d e f _ _ hF
    · exact r2_any a b c d e f _ _ hF
    · exact r3_any a b c d e f _ _ hF
    · exact r4_any a b c d e f _ _ hF
    · exact r5_any a b c d e f _ _ hF
  rintro e w' ⟨rfl, d1, rfl⟩
  go_wp2
  go_ret
  exact ⟨by rw [← e1.out]; rfl, (by repeat (first | exact Below.refl _ _ | assumption | refine below_drewN ?_ _ | refine bel_grow ?_ _ | refine Below.drew ?_ | refine bel_alloc ?_ _ | refine bel_set ?_ (by first | exact Nat.le_refl _ | (simp; done) | (simp; omega) | omega) _ | refine bel_trans ?_ (by assumption)))⟩
end Go.Proofs.Ytmoflbpglkeikaa
