/-
  wire.read at cashbook/api.U128, walked: the things of bytes.
-/
import Derived.Test.YtncampbmnbhikaaJ15
namespace Go.Proofs.Ytncampbmnbhikaa
set_option linter.unusedVariables false
set_option linter.unusedSimpArgs false
open Go.RowKit

theorem readU_no (A : Option Addr) (n c : Nat) (hC : n ≤ maxLen) (h : n % 16 ≠ 0) (w : World) :
    Calls Try.prog 66 #[.slice A n c, .int .i64 16, .func (.func 67) #[] #[]] w fun r w' => r = .returned (.tuple #[.slice none 0 0, .bool false]) ∧ Below w.heap.size w w' := by
  unfold maxLen at hC
  have h' : (((n : Int) % 16 : Int) != 0) = true := by rw [bne_iff_ne]; omega
  go_enter Try.func66, Try.ntmps66
  go_wp2_with fail
  go_ret2
  exact ⟨rfl, by (repeat (first | exact Below.refl _ _ | assumption | refine below_drewN ?_ _ | refine bel_grow ?_ _ | refine Below.drew ?_ | refine bel_alloc ?_ _ | refine bel_set ?_ (by first | exact Nat.le_refl _ | (simp; done) | (simp; omega) | omega) _ | refine bel_trans ?_ (by assumption)))⟩
section
attribute [local go_sem] loadV_ptr storeV_ptr
attribute [local go_sem ↓] load_WU store_WU
set_option maxRecDepth 8000 in
set_option maxHeartbeats 4000000 in
theorem readU_yes (A : Option Addr) (n c q : Nat) (e : Nat → Int) (he : ∀ i, 0 ≤ e i ∧ e i < 256) (hmc : n ≤ c) (hC : c ≤ maxLen) (hn : n ≤ 100000) (hq : n = q * 16) (w : World) (hs : SlIs w A n (yV e)) :
    Calls Try.prog 66 #[.slice A n c, .int .i64 16, .func (.func 67) #[] #[]] w fun r w' => ∃ v', r = .returned (.tuple #[v', .bool true]) ∧ OwnS w' w.heap.size 42 2 v' q (fun i => clU (rdU (shf e (i * 16)))) ∧ Below w.heap.size w w' := by
  unfold maxLen at hC
  have h' : (((n : Int) % 16 : Int) != 0) = false := by rw [bne_eq_false_iff_eq]; omega
  have HG := Lib.hid getU_ok
  replace he := Lib.hid he
  have hs0 := Lib.hid (hs.congr (g := yV (shf e (0 * 16))) (fun i hi => by simp [yV, shf]))
  clear hs
  replace hq := Lib.hid hq
  go_enter Try.func66, Try.ntmps66
  go_wp2_with fail
  go_loopw [0, 8] (fun s v wr => ∃ (m r c1 : Nat) (A1 : Option Addr), r ≤ n ∧ s = .slice A1 r c1 ∧ Hid (n = m * 16 + r ∧ r % 16 = 0 ∧ r ≤ c1 ∧ c1 ≤ 9223372036854775807) ∧ Hid (SlIs w A1 r (yV (shf e (m * 16)))) ∧ Hid (OwnS wr w.heap.size 42 2 v m (fun i => clU (rdU (shf e (i * 16))))) ∧ Hid (Below w.heap.size w wr)) (fun s _ _ => lenV s)
  case atStart => exact ⟨0, n, c, A, Nat.le_refl _, rfl, by unfold Hid; exact ⟨by omega, by have := hq.out; omega, hmc, hC⟩, hs0.out, OwnS.nil _ _ _ _ _, Below.refl _ _⟩
  case round =>
    obtain ⟨m, r, c1, A1, hr, rfl, hk, hsr, ho, hb⟩ := hrel
    have hsz := hb.out.size
    obtain ⟨k1, k2, k3, k4⟩ := hk.out
    by_cases hlt : 0 < r
    · have hr1 : 16 ≤ r := by omega
      obtain ⟨b, o, rfl, hbl, hc⟩ := hsr.out hlt
      have hs1 : SlIs wr (some ⟨b, o, none⟩) 16 (yV (shf e (m * 16))) := SlIs.below (w := w) (fun _ => ⟨b, o, rfl, hbl, fun j hj => hc j (by omega)⟩) hb.out
      replace hs1 := Lib.hid hs1
      replace hc := Lib.hid hc
      have hE := Lib.hid (shf_lo he.out (m * 16))
      replace k1 := Lib.hid k1
      go_wp2_with fail
      refine (HG.out _ _ _ hE.out (by omega) (by unfold maxLen; omega) _ hs1.out).mono ?_
      rintro e2 w2 ⟨rfl, hb2⟩
      have ho2 := Lib.hid (OwnS.kept ho.out hb2)
      have hb3 := Lib.hid (hb.out.trans (hb2.mono hsz))
      have hsz3 := hb3.out.size
      have hs3 : SlIs w (if c1 = 16 then some ⟨b, o, none⟩ else some ⟨b, o + 16, none⟩) (r - 16) (yV (shf e ((m + 1) * 16))) := fun h0 => by
        rw [if_neg (by omega)]
        exact ⟨b, o + 16, rfl, hbl, fun j hj => by
          rw [Nat.add_assoc, hc.out (16 + j) (by omega)]
          simp only [yV, shf, Nat.add_mul, Nat.one_mul, Nat.add_assoc]⟩
      replace hs3 := Lib.hid hs3
      clear hb2
      go_wp2_with (at_builtin; refine wpList_appS rfl (.tmp 32) (.tmp 34) (t0 := 42) Try.underlying39 info_WU rfl (by omega) (by omega) rfl rfl rfl (ho2.out.kept (bel_alloc (bel_alloc (Below.refl _ _) _) _)) rfl (Blk.newE (by simp) rfl) (one_clU _) (by have := k1.out; omega) (by simp; omega) ?_; intro v5 w5 ho5 hb5)
      go_roundw
      case rel => exact ⟨m + 1, r - 16, c1 - 16, _, by omega, rfl, by have := k1.out; unfold Hid; omega, hs3.out, ho5, hb3.out.trans ((bel_alloc (bel_alloc (Below.refl _ _) _) _).mono hsz3 |>.trans hb5)⟩
      case measure => simp [lenV]; omega
    · obtain rfl : r = 0 := by omega
      go_wp2_with fail
      go_ret2
      exact ⟨_, rfl, by obtain rfl : m = q := (by have := hq.out; omega); exact ho.out, hb.out⟩
end
end Go.Proofs.Ytncampbmnbhikaa
