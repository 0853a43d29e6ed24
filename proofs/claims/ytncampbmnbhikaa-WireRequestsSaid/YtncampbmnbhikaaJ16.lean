/-
  Joined: Wrf Wrg Ret.
-/
import Derived.Test.YtncampbmnbhikaaJ15
import Derived.Test.YtncampbmnbhikaaJ3
import Derived.Laws.CopyOwn
-- Wrf
namespace Go.Proofs.Ytncampbmnbhikaa
set_option linter.unusedVariables false
set_option linter.unusedSimpArgs false
open Go.RowKit

theorem readR_no (A : Option Addr) (n c : Nat) (hC : n ≤ maxLen) (h : n % 8 ≠ 0) (w : World) :
    Calls Try.prog 31 #[.slice A n c, .int .i64 8, .func (.func 32) #[] #[]] w fun r w' => r = .returned (.tuple #[.slice none 0 0, .bool false]) ∧ Below w.heap.size w w' := by
  unfold maxLen at hC
  have h' : (((n : Int) % 8 : Int) != 0) = true := by rw [bne_iff_ne]; omega
  go_enter Try.func31, Try.ntmps31
  go_wp2_with fail
  go_ret2
  exact ⟨rfl, by (repeat (first | exact Below.refl _ _ | assumption | refine below_drewN ?_ _ | refine bel_grow ?_ _ | refine Below.drew ?_ | refine bel_alloc ?_ _ | refine bel_set ?_ (by first | exact Nat.le_refl _ | (simp; done) | (simp; omega) | omega) _ | refine bel_trans ?_ (by assumption)))⟩
section
attribute [local go_sem] loadV_ptr storeV_ptr
attribute [local go_sem ↓] load_WR store_WR
set_option maxRecDepth 8000 in
set_option maxHeartbeats 4000000 in
theorem readR_yes (A : Option Addr) (n c q : Nat) (e : Nat → Int) (he : ∀ i, 0 ≤ e i ∧ e i < 256) (hmc : n ≤ c) (hC : c ≤ maxLen) (hn : n ≤ 100000) (hq : n = q * 8) (w : World) (hs : SlIs w A n (yV e)) :
    Calls Try.prog 31 #[.slice A n c, .int .i64 8, .func (.func 32) #[] #[]] w fun r w' => ∃ v', r = .returned (.tuple #[v', .bool true]) ∧ OwnS w' w.heap.size 58 2 v' q (fun i => clR (rdR (shf e (i * 8)))) ∧ Below w.heap.size w w' := by
  unfold maxLen at hC
  have h' : (((n : Int) % 8 : Int) != 0) = false := by rw [bne_eq_false_iff_eq]; omega
  have HG := Lib.hid getR_ok
  replace he := Lib.hid he
  have hs0 := Lib.hid (hs.congr (g := yV (shf e (0 * 8))) (fun i hi => by simp [yV, shf]))
  clear hs
  replace hq := Lib.hid hq
  go_enter Try.func31, Try.ntmps31
  go_wp2_with fail
  go_loopw [0, 8] (fun s v wr => ∃ (m r c1 : Nat) (A1 : Option Addr), r ≤ n ∧ s = .slice A1 r c1 ∧ Hid (n = m * 8 + r ∧ r % 8 = 0 ∧ r ≤ c1 ∧ c1 ≤ 9223372036854775807) ∧ Hid (SlIs w A1 r (yV (shf e (m * 8)))) ∧ Hid (OwnS wr w.heap.size 58 2 v m (fun i => clR (rdR (shf e (i * 8))))) ∧ Hid (Below w.heap.size w wr)) (fun s _ _ => lenV s)
  case atStart => exact ⟨0, n, c, A, Nat.le_refl _, rfl, by unfold Hid; exact ⟨by omega, by have := hq.out; omega, hmc, hC⟩, hs0.out, OwnS.nil _ _ _ _ _, Below.refl _ _⟩
  case round =>
    obtain ⟨m, r, c1, A1, hr, rfl, hk, hsr, ho, hb⟩ := hrel
    have hsz := hb.out.size
    obtain ⟨k1, k2, k3, k4⟩ := hk.out
    by_cases hlt : 0 < r
    · have hr1 : 8 ≤ r := by omega
      obtain ⟨b, o, rfl, hbl, hc⟩ := hsr.out hlt
      have hs1 : SlIs wr (some ⟨b, o, none⟩) 8 (yV (shf e (m * 8))) := SlIs.below (w := w) (fun _ => ⟨b, o, rfl, hbl, fun j hj => hc j (by omega)⟩) hb.out
      replace hs1 := Lib.hid hs1
      replace hc := Lib.hid hc
      have hE := Lib.hid (shf_lo he.out (m * 8))
      replace k1 := Lib.hid k1
      go_wp2_with fail
      refine (HG.out _ _ _ hE.out (by omega) (by unfold maxLen; omega) _ hs1.out).mono ?_
      rintro e2 w2 ⟨rfl, hb2⟩
      have ho2 := Lib.hid (OwnS.kept ho.out hb2)
      have hb3 := Lib.hid (hb.out.trans (hb2.mono hsz))
      have hsz3 := hb3.out.size
      have hs3 : SlIs w (if c1 = 8 then some ⟨b, o, none⟩ else some ⟨b, o + 8, none⟩) (r - 8) (yV (shf e ((m + 1) * 8))) := fun h0 => by
        rw [if_neg (by omega)]
        exact ⟨b, o + 8, rfl, hbl, fun j hj => by
          rw [Nat.add_assoc, hc.out (8 + j) (by omega)]
          simp only [yV, shf, Nat.add_mul, Nat.one_mul, Nat.add_assoc]⟩
      replace hs3 := Lib.hid hs3
      clear hb2
      go_wp2_with (at_builtin; refine wpList_appS rfl (.tmp 32) (.tmp 34) (t0 := 58) Try.underlying22 info_WR rfl (by omega) (by omega) rfl rfl rfl (ho2.out.kept (bel_alloc (bel_alloc (Below.refl _ _) _) _)) rfl (Blk.newE (by simp) rfl) (one_clR _) (by have := k1.out; omega) (by simp; omega) ?_; intro v5 w5 ho5 hb5)
      go_roundw
      case rel => exact ⟨m + 1, r - 8, c1 - 8, _, by omega, rfl, by have := k1.out; unfold Hid; omega, hs3.out, ho5, hb3.out.trans ((bel_alloc (bel_alloc (Below.refl _ _) _) _).mono hsz3 |>.trans hb5)⟩
      case measure => simp [lenV]; omega
    · obtain rfl : r = 0 := by omega
      go_wp2_with fail
      go_ret2
      exact ⟨_, rfl, by obtain rfl : m = q := (by have := hq.out; omega); exact ho.out, hb.out⟩
end
theorem readA_no (A : Option Addr) (n c : Nat) (hC : n ≤ maxLen) (h : n % 104 ≠ 0) (w : World) :
    Calls Try.prog 33 #[.slice A n c, .int .i64 104, .func (.func 34) #[] #[]] w fun r w' => r = .returned (.tuple #[.slice none 0 0, .bool false]) ∧ Below w.heap.size w w' := by
  unfold maxLen at hC
  have h' : (((n : Int) % 104 : Int) != 0) = true := by rw [bne_iff_ne]; omega
  go_enter Try.func33, Try.ntmps33
  go_wp2_with fail
  go_ret2
  exact ⟨rfl, by (repeat (first | exact Below.refl _ _ | assumption | refine below_drewN ?_ _ | refine bel_grow ?_ _ | refine Below.drew ?_ | refine bel_alloc ?_ _ | refine bel_set ?_ (by first | exact Nat.le_refl _ | (simp; done) | (simp; omega) | omega) _ | refine bel_trans ?_ (by assumption)))⟩
section
attribute [local go_sem] loadV_ptr storeV_ptr
attribute [local go_sem ↓] load_WA store_WA
set_option maxRecDepth 8000 in
set_option maxHeartbeats 4000000 in
theorem readA_yes (A : Option Addr) (n c q : Nat) (e : Nat → Int) (he : ∀ i, 0 ≤ e i ∧ e i < 256) (hmc : n ≤ c) (hC : c ≤ maxLen) (hn : n ≤ 100000) (hq : n = q * 104) (w : World) (hs : SlIs w A n (yV e)) :
    Calls Try.prog 33 #[.slice A n c, .int .i64 104, .func (.func 34) #[] #[]] w fun r w' => ∃ v', r = .returned (.tuple #[v', .bool true]) ∧ OwnS w' w.heap.size 63 15 v' q (fun i => clA (rdA (shf e (i * 104)))) ∧ Below w.heap.size w w' := by
  unfold maxLen at hC
  have h' : (((n : Int) % 104 : Int) != 0) = false := by rw [bne_eq_false_iff_eq]; omega
  have HG := Lib.hid getA_ok
  replace he := Lib.hid he
  have hs0 := Lib.hid (hs.congr (g := yV (shf e (0 * 104))) (fun i hi => by simp [yV, shf]))
  clear hs
  replace hq := Lib.hid hq
  go_enter Try.func33, Try.ntmps33
  go_wp2_with fail
  go_loopw [0, 8] (fun s v wr => ∃ (m r c1 : Nat) (A1 : Option Addr), r ≤ n ∧ s = .slice A1 r c1 ∧ Hid (n = m * 104 + r ∧ r % 104 = 0 ∧ r ≤ c1 ∧ c1 ≤ 9223372036854775807) ∧ Hid (SlIs w A1 r (yV (shf e (m * 104)))) ∧ Hid (OwnS wr w.heap.size 63 15 v m (fun i => clA (rdA (shf e (i * 104))))) ∧ Hid (Below w.heap.size w wr)) (fun s _ _ => lenV s)
  case atStart => exact ⟨0, n, c, A, Nat.le_refl _, rfl, by unfold Hid; exact ⟨by omega, by have := hq.out; omega, hmc, hC⟩, hs0.out, OwnS.nil _ _ _ _ _, Below.refl _ _⟩
  case round =>
    obtain ⟨m, r, c1, A1, hr, rfl, hk, hsr, ho, hb⟩ := hrel
    have hsz := hb.out.size
    obtain ⟨k1, k2, k3, k4⟩ := hk.out
    by_cases hlt : 0 < r
    · have hr1 : 104 ≤ r := by omega
      obtain ⟨b, o, rfl, hbl, hc⟩ := hsr.out hlt
      have hs1 : SlIs wr (some ⟨b, o, none⟩) 104 (yV (shf e (m * 104))) := SlIs.below (w := w) (fun _ => ⟨b, o, rfl, hbl, fun j hj => hc j (by omega)⟩) hb.out
      replace hs1 := Lib.hid hs1
      replace hc := Lib.hid hc
      have hE := Lib.hid (shf_lo he.out (m * 104))
      replace k1 := Lib.hid k1
      go_wp2_with fail
      refine (HG.out _ _ _ hE.out (by omega) (by unfold maxLen; omega) _ hs1.out).mono ?_
      rintro e2 w2 ⟨rfl, hb2⟩
      have ho2 := Lib.hid (OwnS.kept ho.out hb2)
      have hb3 := Lib.hid (hb.out.trans (hb2.mono hsz))
      have hsz3 := hb3.out.size
      have hs3 : SlIs w (if c1 = 104 then some ⟨b, o, none⟩ else some ⟨b, o + 104, none⟩) (r - 104) (yV (shf e ((m + 1) * 104))) := fun h0 => by
        rw [if_neg (by omega)]
        exact ⟨b, o + 104, rfl, hbl, fun j hj => by
          rw [Nat.add_assoc, hc.out (104 + j) (by omega)]
          simp only [yV, shf, Nat.add_mul, Nat.one_mul, Nat.add_assoc]⟩
      replace hs3 := Lib.hid hs3
      clear hb2
      go_wp2_with (at_builtin; refine wpList_appS rfl (.tmp 32) (.tmp 34) (t0 := 63) Try.underlying23 info_WA rfl (by omega) (by omega) rfl rfl rfl (ho2.out.kept (bel_alloc (bel_alloc (Below.refl _ _) _) _)) rfl (Blk.newE (by simp) rfl) (one_clA _) (by have := k1.out; omega) (by simp; omega) ?_; intro v5 w5 ho5 hb5)
      go_roundw
      case rel => exact ⟨m + 1, r - 104, c1 - 104, _, by omega, rfl, by have := k1.out; unfold Hid; omega, hs3.out, ho5, hb3.out.trans ((bel_alloc (bel_alloc (Below.refl _ _) _) _).mono hsz3 |>.trans hb5)⟩
      case measure => simp [lenV]; omega
    · obtain rfl : r = 0 := by omega
      go_wp2_with fail
      go_ret2
      exact ⟨_, rfl, by obtain rfl : m = q := (by have := hq.out; omega); exact ho.out, hb.out⟩
end
end Go.Proofs.Ytncampbmnbhikaa
-- Wrg
namespace Go.Proofs.Ytncampbmnbhikaa
set_option linter.unusedVariables false
set_option linter.unusedSimpArgs false
open Go.RowKit

theorem readB_no (A : Option Addr) (n c : Nat) (hC : n ≤ maxLen) (h : n % 72 ≠ 0) (w : World) :
    Calls Try.prog 37 #[.slice A n c, .int .i64 72, .func (.func 38) #[] #[]] w fun r w' => r = .returned (.tuple #[.slice none 0 0, .bool false]) ∧ Below w.heap.size w w' := by
  unfold maxLen at hC
  have h' : (((n : Int) % 72 : Int) != 0) = true := by rw [bne_iff_ne]; omega
  go_enter Try.func37, Try.ntmps37
  go_wp2_with fail
  go_ret2
  exact ⟨rfl, by (repeat (first | exact Below.refl _ _ | assumption | refine below_drewN ?_ _ | refine bel_grow ?_ _ | refine Below.drew ?_ | refine bel_alloc ?_ _ | refine bel_set ?_ (by first | exact Nat.le_refl _ | (simp; done) | (simp; omega) | omega) _ | refine bel_trans ?_ (by assumption)))⟩
section
attribute [local go_sem] loadV_ptr storeV_ptr
attribute [local go_sem ↓] load_WB store_WB
set_option maxRecDepth 8000 in
set_option maxHeartbeats 4000000 in
theorem readB_yes (A : Option Addr) (n c q : Nat) (e : Nat → Int) (he : ∀ i, 0 ≤ e i ∧ e i < 256) (hmc : n ≤ c) (hC : c ≤ maxLen) (hn : n ≤ 100000) (hq : n = q * 72) (w : World) (hs : SlIs w A n (yV e)) :
    Calls Try.prog 37 #[.slice A n c, .int .i64 72, .func (.func 38) #[] #[]] w fun r w' => ∃ v', r = .returned (.tuple #[v', .bool true]) ∧ OwnS w' w.heap.size 71 9 v' q (fun i => clB (rdB (shf e (i * 72)))) ∧ Below w.heap.size w w' := by
  unfold maxLen at hC
  have h' : (((n : Int) % 72 : Int) != 0) = false := by rw [bne_eq_false_iff_eq]; omega
  have HG := Lib.hid getB_ok
  replace he := Lib.hid he
  have hs0 := Lib.hid (hs.congr (g := yV (shf e (0 * 72))) (fun i hi => by simp [yV, shf]))
  clear hs
  replace hq := Lib.hid hq
  go_enter Try.func37, Try.ntmps37
  go_wp2_with fail
  go_loopw [0, 8] (fun s v wr => ∃ (m r c1 : Nat) (A1 : Option Addr), r ≤ n ∧ s = .slice A1 r c1 ∧ Hid (n = m * 72 + r ∧ r % 72 = 0 ∧ r ≤ c1 ∧ c1 ≤ 9223372036854775807) ∧ Hid (SlIs w A1 r (yV (shf e (m * 72)))) ∧ Hid (OwnS wr w.heap.size 71 9 v m (fun i => clB (rdB (shf e (i * 72))))) ∧ Hid (Below w.heap.size w wr)) (fun s _ _ => lenV s)
  case atStart => exact ⟨0, n, c, A, Nat.le_refl _, rfl, by unfold Hid; exact ⟨by omega, by have := hq.out; omega, hmc, hC⟩, hs0.out, OwnS.nil _ _ _ _ _, Below.refl _ _⟩
  case round =>
    obtain ⟨m, r, c1, A1, hr, rfl, hk, hsr, ho, hb⟩ := hrel
    have hsz := hb.out.size
    obtain ⟨k1, k2, k3, k4⟩ := hk.out
    by_cases hlt : 0 < r
    · have hr1 : 72 ≤ r := by omega
      obtain ⟨b, o, rfl, hbl, hc⟩ := hsr.out hlt
      have hs1 : SlIs wr (some ⟨b, o, none⟩) 72 (yV (shf e (m * 72))) := SlIs.below (w := w) (fun _ => ⟨b, o, rfl, hbl, fun j hj => hc j (by omega)⟩) hb.out
      replace hs1 := Lib.hid hs1
      replace hc := Lib.hid hc
      have hE := Lib.hid (shf_lo he.out (m * 72))
      replace k1 := Lib.hid k1
      go_wp2_with fail
      refine (HG.out _ _ _ hE.out (by omega) (by unfold maxLen; omega) _ hs1.out).mono ?_
      rintro e2 w2 ⟨rfl, hb2⟩
      have ho2 := Lib.hid (OwnS.kept ho.out hb2)
      have hb3 := Lib.hid (hb.out.trans (hb2.mono hsz))
      have hsz3 := hb3.out.size
      have hs3 : SlIs w (if c1 = 72 then some ⟨b, o, none⟩ else some ⟨b, o + 72, none⟩) (r - 72) (yV (shf e ((m + 1) * 72))) := fun h0 => by
        rw [if_neg (by omega)]
        exact ⟨b, o + 72, rfl, hbl, fun j hj => by
          rw [Nat.add_assoc, hc.out (72 + j) (by omega)]
          simp only [yV, shf, Nat.add_mul, Nat.one_mul, Nat.add_assoc]⟩
      replace hs3 := Lib.hid hs3
      clear hb2
      go_wp2_with (at_builtin; refine wpList_appS rfl (.tmp 32) (.tmp 34) (t0 := 71) Try.underlying25 info_WB rfl (by omega) (by omega) rfl rfl rfl (ho2.out.kept (bel_alloc (bel_alloc (Below.refl _ _) _) _)) rfl (Blk.newE (by simp) rfl) (one_clB _) (by have := k1.out; omega) (by simp; omega) ?_; intro v5 w5 ho5 hb5)
      go_roundw
      case rel => exact ⟨m + 1, r - 72, c1 - 72, _, by omega, rfl, by have := k1.out; unfold Hid; omega, hs3.out, ho5, hb3.out.trans ((bel_alloc (bel_alloc (Below.refl _ _) _) _).mono hsz3 |>.trans hb5)⟩
      case measure => simp [lenV]; omega
    · obtain rfl : r = 0 := by omega
      go_wp2_with fail
      go_ret2
      exact ⟨_, rfl, by obtain rfl : m = q := (by have := hq.out; omega); exact ho.out, hb.out⟩
end
theorem readT_no (A : Option Addr) (n c : Nat) (hC : n ≤ maxLen) (h : n % 108 ≠ 0) (w : World) :
    Calls Try.prog 35 #[.slice A n c, .int .i64 108, .func (.func 36) #[] #[]] w fun r w' => r = .returned (.tuple #[.slice none 0 0, .bool false]) ∧ Below w.heap.size w w' := by
  unfold maxLen at hC
  have h' : (((n : Int) % 108 : Int) != 0) = true := by rw [bne_iff_ne]; omega
  go_enter Try.func35, Try.ntmps35
  go_wp2_with fail
  go_ret2
  exact ⟨rfl, by (repeat (first | exact Below.refl _ _ | assumption | refine below_drewN ?_ _ | refine bel_grow ?_ _ | refine Below.drew ?_ | refine bel_alloc ?_ _ | refine bel_set ?_ (by first | exact Nat.le_refl _ | (simp; done) | (simp; omega) | omega) _ | refine bel_trans ?_ (by assumption)))⟩
section
attribute [local go_sem] loadV_ptr storeV_ptr
attribute [local go_sem ↓] load_WT store_WT
set_option maxRecDepth 8000 in
set_option maxHeartbeats 4000000 in
theorem readT_yes (A : Option Addr) (n c q : Nat) (e : Nat → Int) (he : ∀ i, 0 ≤ e i ∧ e i < 256) (hmc : n ≤ c) (hC : c ≤ maxLen) (hn : n ≤ 100000) (hq : n = q * 108) (w : World) (hs : SlIs w A n (yV e)) :
    Calls Try.prog 35 #[.slice A n c, .int .i64 108, .func (.func 36) #[] #[]] w fun r w' => ∃ v', r = .returned (.tuple #[v', .bool true]) ∧ OwnS w' w.heap.size 67 16 v' q (fun i => clT (rdT (shf e (i * 108)))) ∧ Below w.heap.size w w' := by
  unfold maxLen at hC
  have h' : (((n : Int) % 108 : Int) != 0) = false := by rw [bne_eq_false_iff_eq]; omega
  have HG := Lib.hid getT_ok
  replace he := Lib.hid he
  have hs0 := Lib.hid (hs.congr (g := yV (shf e (0 * 108))) (fun i hi => by simp [yV, shf]))
  clear hs
  replace hq := Lib.hid hq
  go_enter Try.func35, Try.ntmps35
  go_wp2_with fail
  go_loopw [0, 8] (fun s v wr => ∃ (m r c1 : Nat) (A1 : Option Addr), r ≤ n ∧ s = .slice A1 r c1 ∧ Hid (n = m * 108 + r ∧ r % 108 = 0 ∧ r ≤ c1 ∧ c1 ≤ 9223372036854775807) ∧ Hid (SlIs w A1 r (yV (shf e (m * 108)))) ∧ Hid (OwnS wr w.heap.size 67 16 v m (fun i => clT (rdT (shf e (i * 108))))) ∧ Hid (Below w.heap.size w wr)) (fun s _ _ => lenV s)
  case atStart => exact ⟨0, n, c, A, Nat.le_refl _, rfl, by unfold Hid; exact ⟨by omega, by have := hq.out; omega, hmc, hC⟩, hs0.out, OwnS.nil _ _ _ _ _, Below.refl _ _⟩
  case round =>
    obtain ⟨m, r, c1, A1, hr, rfl, hk, hsr, ho, hb⟩ := hrel
    have hsz := hb.out.size
    obtain ⟨k1, k2, k3, k4⟩ := hk.out
    by_cases hlt : 0 < r
    · have hr1 : 108 ≤ r := by omega
      obtain ⟨b, o, rfl, hbl, hc⟩ := hsr.out hlt
      have hs1 : SlIs wr (some ⟨b, o, none⟩) 108 (yV (shf e (m * 108))) := SlIs.below (w := w) (fun _ => ⟨b, o, rfl, hbl, fun j hj => hc j (by omega)⟩) hb.out
      replace hs1 := Lib.hid hs1
      replace hc := Lib.hid hc
      have hE := Lib.hid (shf_lo he.out (m * 108))
      replace k1 := Lib.hid k1
      go_wp2_with fail
      refine (HG.out _ _ _ hE.out (by omega) (by unfold maxLen; omega) _ hs1.out).mono ?_
      rintro e2 w2 ⟨rfl, hb2⟩
      have ho2 := Lib.hid (OwnS.kept ho.out hb2)
      have hb3 := Lib.hid (hb.out.trans (hb2.mono hsz))
      have hsz3 := hb3.out.size
      have hs3 : SlIs w (if c1 = 108 then some ⟨b, o, none⟩ else some ⟨b, o + 108, none⟩) (r - 108) (yV (shf e ((m + 1) * 108))) := fun h0 => by
        rw [if_neg (by omega)]
        exact ⟨b, o + 108, rfl, hbl, fun j hj => by
          rw [Nat.add_assoc, hc.out (108 + j) (by omega)]
          simp only [yV, shf, Nat.add_mul, Nat.one_mul, Nat.add_assoc]⟩
      replace hs3 := Lib.hid hs3
      clear hb2
      go_wp2_with (at_builtin; refine wpList_appS rfl (.tmp 32) (.tmp 34) (t0 := 67) Try.underlying24 info_WT rfl (by omega) (by omega) rfl rfl rfl (ho2.out.kept (bel_alloc (bel_alloc (Below.refl _ _) _) _)) rfl (Blk.newE (by simp) rfl) (one_clT _) (by have := k1.out; omega) (by simp; omega) ?_; intro v5 w5 ho5 hb5)
      go_roundw
      case rel => exact ⟨m + 1, r - 108, c1 - 108, _, by omega, rfl, by have := k1.out; unfold Hid; omega, hs3.out, ho5, hb3.out.trans ((bel_alloc (bel_alloc (Below.refl _ _) _) _).mono hsz3 |>.trans hb5)⟩
      case measure => simp [lenV]; omega
    · obtain rfl : r = 0 := by omega
      go_wp2_with fail
      go_ret2
      exact ⟨_, rfl, by obtain rfl : m = q := (by have := hq.out; omega); exact ho.out, hb.out⟩
end
end Go.Proofs.Ytncampbmnbhikaa
-- Ret
namespace Go.Proofs.Ytncampbmnbhikaa
set_option linter.unusedVariables false
set_option linter.unusedSimpArgs false
open Go.RowKit

theorem rowAt_blk {w : World} {g : Nat} {t : TypeId} {cs : Array Value} (h : Blk w g t cs) : rowAt w g = some cs := by
  unfold Blk at h
  unfold rowAt
  rw [h]
  rfl
theorem Blk.setRow {w : World} {g : Nat} {t : TypeId} {cs : Array Value} (h : Blk w g t cs) {new new' : Array Value} (e : new = new') : Blk (w.setRow g new) g t new' := by
  subst e
  exact setRow_heap w g cs new t (0, 0) h
theorem Blk.setRow_far {w : World} {g k : Nat} {t : TypeId} {cs : Array Value} (h : Blk w g t cs) (hk : g ≠ k) (new : Array Value) : Blk (w.setRow k new) g t cs := (setRow_other w k g new hk).trans h
theorem loadV_blk {P : Program} {ty t : TypeId} {n : Nat} {w : World} {g : Nat} {cs : Array Value} (h : Blk w g t cs) (hn : cs.size = n) : loadV P ty n w (.pointer (some ⟨g, 0, none⟩)) = .ok (.agg cs) w := by
  subst hn
  rw [loadV_ptr, rowAt_blk h]
  simp
theorem results_ct {P : Program} {fn : Func} {a u : Tmp} {t : TypeId} {tmps : Array Value} {w : World} {ad : Addr} {v : Value} (h : fn.results = #[.cell a t, .tmp u]) (ha : tmps.getD a undef = .pointer (some ad)) (hl : (loadVar t ad).run P w = .ok v w) : (results fn tmps).run P w = .ok (.tuple #[v, tmps.getD u undef]) w := by
  simp at ha
  simp [results, h, ha, hl, asAddr, Sem.run_bind]
theorem loadVar_blk {P : Program} {ty t : TypeId} {d : TypeDesc} {n : Nat} {w : World} {g : Nat} {cs : Array Value} (hu : P.underlying ty = some d) (hd : (match d with | .struct _ | .array _ _ => true | _ => false) = true) (hi : (P.info? ty).map (·.size) = some n) (h : Blk w g t cs) (hn : cs.size = n) :
    (loadVar ty ⟨g, 0, none⟩).run P w = .ok (.agg cs) w := by
  have e := run_loadAt_row hu hd hi w (.pointer (some ⟨g, 0, none⟩))
  rw [loadV_blk h hn] at e
  simpa [Instr.loadAt, Instr.sureAddr, Sem.run_bind] using e
theorem abs_post {P : Program} {f : Func} {Φ : Ending → World → Prop} {e : Exit} {a : Act} {W : World} (I : World → Prop) (hI : I W) (h : ∀ X, I X → bodyPost P f Φ e a X) : bodyPost P f Φ e a W := h W hI
/-- every block from base on is as it was -/
def AsFrom (base : Nat) (w w' : World) : Prop := w.heap.size ≤ w'.heap.size ∧ ∀ g, base ≤ g → g < w.heap.size → w'.heap[g]? = w.heap[g]?
theorem AsFrom.refl (base : Nat) (w : World) : AsFrom base w w := ⟨Nat.le_refl _, fun _ _ _ => rfl⟩
theorem AsFrom.set {base : Nat} {w w' : World} (h : AsFrom base w w') {p : Addr} (hp : p.block < base) (u : Value) : AsFrom base w (w'.setCell p u) := by
  refine ⟨?_, fun g hg hl => ?_⟩
  · have : (w'.setCell p u).heap.size = w'.heap.size := by unfold World.setCell; simp
    rw [this]; exact h.1
  · rw [Below.heap_setCell w' p u g (by omega)]; exact h.2 g hg hl
theorem AsFrom.row {base : Nat} {w w' : World} (h : AsFrom base w w') {k : Nat} (hk : k < base) (cs : Array Value) : AsFrom base w (w'.setRow k cs) := by
  refine ⟨?_, fun g hg hl => ?_⟩
  · have : (w'.setRow k cs).heap.size = w'.heap.size := by unfold World.setRow; simp
    rw [this]; exact h.1
  · rw [setRow_other w' k g cs (by omega)]; exact h.2 g hg hl
theorem OwnS.asFrom {w w' : World} {base : Nat} {e : TypeId} {k : Nat} {v : Value} {n : Nat} {f : Nat → List Value} (h : OwnS w base e k v n f) (ha : AsFrom base w w') : OwnS w' base e k v n f := by
  obtain ⟨hl, h2⟩ := h
  refine ⟨hl, ?_⟩
  rcases h2 with h3 | ⟨g, cap, cur, h1, hb, hh, h3⟩
  · exact .inl h3
  · obtain ⟨hlt, _⟩ := Array.getElem?_eq_some_iff.1 hh
    exact .inr ⟨g, cap, cur, h1, hb, (ha.2 g hb hlt).trans hh, h3⟩
end Go.Proofs.Ytncampbmnbhikaa
