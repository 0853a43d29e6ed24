/-
  Joined: Wrs Wrt Wrx.
-/
import Derived.Test.YtncampbmnbhikaaJ17
import Derived.Test.YtncampbmnbhikaaJ12
import Derived.Test.YtncampbmnbhikaaJ20
-- Wrs
namespace Go.Proofs.Ytncampbmnbhikaa
set_option linter.unusedVariables false
set_option linter.unusedSimpArgs false
open Go.RowKit

set_option maxRecDepth 8000 in
set_option maxHeartbeats 4000000 in
theorem great_any (A : Option Addr) (n c : Nat) (N : Nat → Int) (g : Bool) (hg : g = true ↔ ∃ j, j < n ∧ 100 < N j) (w : World) (hn : n ≤ 1000) (hs : SlIs w A n (fun i => .int .i64 (N i))) :
    Calls Try.prog 7 #[.slice A n c] w fun r w' => r = .returned (.bool g) ∧ Below w.heap.size w w' := by
  replace hg := Lib.hid hg
  replace hs := Lib.hid hs
  go_enter Try.func7, Try.ntmps7
  go_wp2_with fail
  go_loopw [4, 7] (fun _ i wr => ∃ m : Nat, m ≤ n ∧ i = .int .i64 m ∧ Hid (∀ j, j < m → N j ≤ 100) ∧ Hid (Below w.heap.size w wr)) (fun _ i _ => n - (intOf i).toNat)
  case atStart => exact ⟨0, by omega, rfl, fun j h => by omega, Below.refl _ _⟩
  case round =>
    obtain ⟨m, hm, rfl, hx, hb⟩ := hrel
    by_cases hlt : m < n
    · obtain ⟨b, o, rfl, hbl, hc⟩ := (hs.out.below hb.out) (by omega)
      have hc1 : wr.cell? ⟨b, o + m, none⟩ = some (.int .i64 (N m)) := hc m hlt
      clear hc
      generalize hz : N m = z at *
      replace hz := Lib.hid hz
      by_cases h : 100 < z
      · have e1 : decide (z > 100) = true := decide_eq_true h
        have e2 : g = true := hg.out.2 ⟨m, hlt, by rw [hz.out]; exact h⟩
        subst e2
        go_wp2_with fail
        go_ret
        exact ⟨rfl, hb.out⟩
      · have e1 : decide (z > 100) = false := decide_eq_false (by omega)
        go_wp2_with fail
        go_roundw
        case rel => exact ⟨m + 1, by omega, by go_num, fun j hj => by
          by_cases e : j = m
          · subst e; rw [hz.out]; omega
          · exact hx.out j (by omega), hb.out⟩
        case measure => simp [intOf]; omega
    · obtain rfl : m = n := by omega
      have e2 : g = false := by
        rw [Bool.eq_false_iff]
        intro h
        obtain ⟨j, hj, h1⟩ := hg.out.1 h
        have := hx.out j hj
        omega
      subst e2
      go_wp2_with fail
      go_ret
      exact ⟨rfl, hb.out⟩
end Go.Proofs.Ytncampbmnbhikaa
-- Wrt
namespace Go.Proofs.Ytncampbmnbhikaa
set_option linter.unusedVariables false
set_option linter.unusedSimpArgs false
open Go.RowKit

set_option maxRecDepth 8000 in
set_option maxHeartbeats 4000000 in
theorem putRequest_k7 (AA TA IA : Option Addr) (an ac tn tc ln lc : Nat) (xa xb xc xd xe xf : Int) (w : World) :
    Calls Try.prog 13 #[.agg #[.int .i64 7, .slice AA an ac, .slice TA tn tc, .slice IA ln lc, .int .u64 xa, .int .u64 xb, .int .u64 xc, .int .u64 xd, .int .u32 xe, .int .u32 xf]] w fun r w' => ∃ v', r = .returned v' ∧ OwnB w' w.heap.size v' 1 (fun _ => 7) ∧ Below w.heap.size w w' := by
  go_enter Try.func13, Try.ntmps13
  go_wp2_with fail
  go_ret
  exact ⟨_, rfl, own_oneE (by simp) (by simp) rfl, by (repeat (first | exact Below.refl _ _ | assumption | refine below_drewN ?_ _ | refine bel_grow ?_ _ | refine Below.drew ?_ | refine bel_alloc ?_ _ | refine bel_set ?_ (by first | exact Nat.le_refl _ | (simp; done) | (simp; omega) | omega) _ | refine bel_trans ?_ (by assumption)))⟩
set_option maxRecDepth 8000 in
set_option maxHeartbeats 4000000 in
theorem fixed_any (w : World) : Calls Try.prog 8 #[] w fun r w' => r = .returned (.bool true) ∧ Below w.heap.size w w' := by
  have H1 := Lib.hid putRequest_k7
  have H2 := Lib.hid (fun W => putReply_k7 none none none none 0 0 0 0 0 0 0 0 3 W (by omega))
  have H3 := Lib.hid (fun W => putReply_st none none none none 0 0 0 0 0 0 0 0 3 0 0 W (by omega))
  have s1 : strF (fun _ => 7) 1 = ⟨#[7]⟩ := by kernel_rfl
  have s2 : strF (cat (hd2 7) 2 (nb 4 3)) 6 = ⟨#[0, 7, 0, 0, 0, 3]⟩ := by kernel_rfl
  have s3 : strF (fun _ => 3) 1 = ⟨#[3]⟩ := by kernel_rfl
  go_enter Try.func8, Try.ntmps8
  go_wp2_with fail
  refine (H1.out _ _ _ _ _ _ _ _ _ _ _ _ _ _ _ _).mono ?_
  rintro e1 w1 ⟨v1, rfl, ho1, hb1⟩
  obtain ⟨A1, c1, rfl, t1⟩ := ho1.slis
  have q1 := conv8 t1 c1
  rw [s1] at q1
  replace hb1 := Lib.hid hb1
  clear t1 ho1
  go_wp2_with fail
  refine (H2.out _).mono ?_
  rintro e2 w2 ⟨v2, rfl, ho2, hb2⟩
  obtain ⟨A2, c2, rfl, t2⟩ := ho2.slis
  have q2 := conv8 t2 c2
  rw [s2] at q2
  replace hb2 := Lib.hid (bel_eld hb1.out hb2)
  clear t2 ho2 q1
  go_wp2_with fail
  refine (H3.out _).mono ?_
  rintro e3 w3 ⟨v3, rfl, ho3, hb3⟩
  obtain ⟨A3, c3, rfl, t3⟩ := ho3.slis
  have q3 := conv8 t3 c3
  rw [s3] at q3
  replace hb3 := Lib.hid (bel_eld hb2.out hb3)
  clear t3 ho3 q2
  go_wp2_with fail
  go_ret
  exact ⟨rfl, hb3.out⟩
end Go.Proofs.Ytncampbmnbhikaa
-- Wrx
namespace Go.Proofs.Ytncampbmnbhikaa
set_option linter.unusedVariables false
set_option linter.unusedSimpArgs false
open Go.RowKit

def manyRp (d : Rp) : Bool := decide (100 < d.rn ∨ 100 < d.an ∨ 100 < d.tn ∨ 100 < d.bn)
theorem great_four {w W : World} {a b c e n : Nat} {g : Bool} (hn : n = W.heap.size) (hg : g = decide (100 < a ∨ 100 < b ∨ 100 < c ∨ 100 < e)) :
    Calls Try.prog 7 #[.slice (some ⟨n, 0, none⟩) 4 4] (W.alloc (.cells #[.int .i64 a, .int .i64 b, .int .i64 c, .int .i64 e] 3)) fun r w' => r = .returned (.bool g) ∧ Below (W.alloc (.cells #[.int .i64 a, .int .i64 b, .int .i64 c, .int .i64 e] 3)).heap.size (W.alloc (.cells #[.int .i64 a, .int .i64 b, .int .i64 c, .int .i64 e] 3)) w' := by
  subst hn
  refine great_any (some ⟨W.heap.size, 0, none⟩) 4 4 (fun i => ([(a : Int), b, c, e] : List Int).getD i 0) g ?_ _ (by omega) (fun _ => ⟨W.heap.size, 0, rfl, by simp, fun j hj => ?_⟩)
  · rw [hg, decide_eq_true_eq]
    constructor
    · rintro (h | h | h | h)
      · exact ⟨0, by omega, (by show (100 : Int) < (a : Int); omega)⟩
      · exact ⟨1, by omega, (by show (100 : Int) < (b : Int); omega)⟩
      · exact ⟨2, by omega, (by show (100 : Int) < (c : Int); omega)⟩
      · exact ⟨3, by omega, (by show (100 : Int) < (e : Int); omega)⟩
    · rintro ⟨j, hj, h⟩
      rcases (by omega : j = 0 ∨ j = 1 ∨ j = 2 ∨ j = 3) with rfl | rfl | rfl | rfl
      · have h : (100 : Int) < (a : Int) := h
        omega
      · have h : (100 : Int) < (b : Int) := h
        omega
      · have h : (100 : Int) < (c : Int) := h
        omega
      · have h : (100 : Int) < (e : Int) := h
        omega
  · rw [Nat.zero_add, (Blk.new W 3 #[.int .i64 a, .int .i64 b, .int .i64 c, .int .i64 e]).cell j]
    rcases (by omega : j = 0 ∨ j = 1 ∨ j = 2 ∨ j = 3) with rfl | rfl | rfl | rfl <;> rfl
set_option maxRecDepth 8000 in
set_option maxHeartbeats 4000000 in
theorem wireReplies_far (d : Rp) (RA AA TA BA : Option Addr) (rc ac tc bc : Nat) (w : World) (hm : d.rn ≤ maxLen ∧ d.an ≤ maxLen ∧ d.tn ≤ maxLen ∧ d.bn ≤ maxLen) (h : manyRp d = true) :
    Calls Try.prog 3 #[.agg #[.int .i64 d.st, .int .i64 d.kd, .slice RA d.rn rc, .slice AA d.an ac, .slice TA d.tn tc, .slice BA d.bn bc, .int .u32 d.ct]] w fun r w' => r = .returned (.bool true) ∧ Below w.heap.size w w' := by
  have HG := Lib.hid (fun (W : World) n (hn : n = W.heap.size) => great_four (w := w) (W := W) (n := n) (a := d.rn) (b := d.an) (c := d.tn) (e := d.bn) hn h.symm)
  have HX := Lib.hid fixed_any
  unfold maxLen at hm
  obtain ⟨m1, m2, m3, m4⟩ := hm
  obtain ⟨st, kd, rn, RF, an, AF, tn, TF, bn, BF, ct⟩ := d
  dsimp only at *
  go_enter Try.func3, Try.ntmps3
  go_wp2_with fail
  refine (HG.out _ _ (by simp)).mono ?_
  rintro e1 w1 ⟨rfl, hb1⟩
  have hb2 := Lib.hid ((bel_alloc (bel_alloc (Below.refl _ _) _) _ : Below w.heap.size w _).trans (hb1.mono (by simp; omega)))
  go_wp2_with fail
  refine (HX.out _).mono ?_
  rintro e3 w3 ⟨rfl, hb3⟩
  have hb4 := Lib.hid (bel_eld hb2.out hb3)
  go_wp2_with fail
  go_ret
  exact ⟨rfl, hb4.out⟩
end Go.Proofs.Ytncampbmnbhikaa
