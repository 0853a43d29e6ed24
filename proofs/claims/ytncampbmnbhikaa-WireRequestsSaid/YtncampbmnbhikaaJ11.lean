/-
  Joined: Wra Wrb Wrc.
-/
import Derived.Test.YtncampbmnbhikaaJ2
import Derived.Test.YtncampbmnbhikaaRecD
import Derived.Test.YtncampbmnbhikaaJ5
import Derived.Test.YtncampbmnbhikaaJ7
import Derived.Test.YtncampbmnbhikaaJ10
-- Wra
namespace Go.Proofs.Ytncampbmnbhikaa
set_option linter.unusedVariables false
set_option linter.unusedSimpArgs false
open Go.RowKit

theorem rows_next {s : Nat} (d : Nat → Int) (h : Nat) (f : Nat → Nat → Int) {m N : Nat} (hN : N = h + m * s) : ∀ j, j < N + s → cat (cat d h (rowsF s f)) N (f m) j = cat d h (rowsF s f) j := by
  subst hN
  exact rowsF_cat rfl
def okU (f : Nat → Int) : Prop := ∀ j, 0 ≤ f j ∧ f j < ([18446744073709551616, 18446744073709551616] : List Int).getD j 1
def clU (f : Nat → Int) : List Value := [.int .u64 (f 0), .int .u64 (f 1)]
def byU (f : Nat → Int) : Nat → Int := dgt (f 0) (f 1)
theorem putU_ok (f : Nat → Int) (h : okU f) (w : World) : Calls Try.prog 45 #[.agg #[.int .u64 (f 0), .int .u64 (f 1)]] w fun r w' => ∃ v', r = .returned v' ∧ OwnB w' w.heap.size v' 16 (byU f) ∧ Below w.heap.size w w' := by
  refine (bytes_any (f 0) (f 1) (h 0) (h 1) w).mono ?_
  rintro e w' ⟨g, rfl, h1, h2, h3⟩
  exact ⟨_, rfl, row_own h2 (fun i _ => rfl) h1 (by omega) (by simp [maxLen]), h3⟩
theorem load_WU (ρ : Operand → Value) (dst : Option Tmp) (x : Operand) (t : TypeId) (pos : String) (after : Array Edge) (guard : Option (Nat × Bool)) (w : World) :
    (execOp ρ { dst, op := Op.load 42 x, type := t, pos, after, guard }).run Try.prog w = (loadV Try.prog 42 2 w (ρ x)).andThen fun v w' => .ok (.value v) w' :=
  exec_load_row Try.underlying42 rfl (by kernel_rfl) ρ dst x t pos after guard w
theorem store_WU (ρ : Operand → Value) (dst : Option Tmp) (p x : Operand) (t : TypeId) (pos : String) (after : Array Edge) (guard : Option (Nat × Bool)) (w : World) :
    (execOp ρ { dst, op := Op.store 42 p x, type := t, pos, after, guard }).run Try.prog w = (storeV Try.prog 42 2 w (ρ p) (ρ x)).andThen fun _ w' => .ok .skip w' :=
  exec_store_row (by kernel_rfl) ρ dst p x t pos after guard w
theorem mid_U {w : World} {b o : Nat} {f : Nat → Int} (h : w.rangeAt b o (clU f)) : loadV Try.prog 42 2 w (.pointer (some ⟨b, o, none⟩)) = .ok (.agg #[.int .u64 (f 0), .int .u64 (f 1)]) w := loadV_mid (n := 2) Try.underlying42 rfl (by kernel_rfl) rfl h
def okR (f : Nat → Int) : Prop := ∀ j, 0 ≤ f j ∧ f j < ([4294967296, 4294967296] : List Int).getD j 1
def clR (f : Nat → Int) : List Value := [.int .u32 (f 0), .int .u32 (f 1)]
def byR (f : Nat → Int) : Nat → Int := putResultD (f 0) (f 1)
theorem putR_ok (f : Nat → Int) (h : okR f) (w : World) : Calls Try.prog 19 #[.agg #[.int .u32 (f 0), .int .u32 (f 1)]] w fun r w' => ∃ v', r = .returned v' ∧ OwnB w' w.heap.size v' 8 (byR f) ∧ Below w.heap.size w w' := by
  exact putResult_any (f 0) (f 1) (h 0) (h 1) w
theorem load_WR (ρ : Operand → Value) (dst : Option Tmp) (x : Operand) (t : TypeId) (pos : String) (after : Array Edge) (guard : Option (Nat × Bool)) (w : World) :
    (execOp ρ { dst, op := Op.load 58 x, type := t, pos, after, guard }).run Try.prog w = (loadV Try.prog 58 2 w (ρ x)).andThen fun v w' => .ok (.value v) w' :=
  exec_load_row Try.underlying58 rfl (by kernel_rfl) ρ dst x t pos after guard w
theorem store_WR (ρ : Operand → Value) (dst : Option Tmp) (p x : Operand) (t : TypeId) (pos : String) (after : Array Edge) (guard : Option (Nat × Bool)) (w : World) :
    (execOp ρ { dst, op := Op.store 58 p x, type := t, pos, after, guard }).run Try.prog w = (storeV Try.prog 58 2 w (ρ p) (ρ x)).andThen fun _ w' => .ok .skip w' :=
  exec_store_row (by kernel_rfl) ρ dst p x t pos after guard w
theorem mid_R {w : World} {b o : Nat} {f : Nat → Int} (h : w.rangeAt b o (clR f)) : loadV Try.prog 58 2 w (.pointer (some ⟨b, o, none⟩)) = .ok (.agg #[.int .u32 (f 0), .int .u32 (f 1)]) w := loadV_mid (n := 2) Try.underlying58 rfl (by kernel_rfl) rfl h
def okB (f : Nat → Int) : Prop := ∀ j, 0 ≤ f j ∧ f j < ([18446744073709551616, 18446744073709551616, 18446744073709551616, 18446744073709551616, 18446744073709551616, 18446744073709551616, 18446744073709551616, 18446744073709551616, 18446744073709551616] : List Int).getD j 1
def clB (f : Nat → Int) : List Value := [.int .u64 (f 0), .int .u64 (f 1), .int .u64 (f 2), .int .u64 (f 3), .int .u64 (f 4), .int .u64 (f 5), .int .u64 (f 6), .int .u64 (f 7), .int .u64 (f 8)]
def byB (f : Nat → Int) : Nat → Int := putBalanceD (f 0) (f 1) (f 2) (f 3) (f 4) (f 5) (f 6) (f 7) (f 8)
theorem putB_ok (f : Nat → Int) (h : okB f) (w : World) : Calls Try.prog 25 #[.agg #[.int .u64 (f 0), .int .u64 (f 1), .int .u64 (f 2), .int .u64 (f 3), .int .u64 (f 4), .int .u64 (f 5), .int .u64 (f 6), .int .u64 (f 7), .int .u64 (f 8)]] w fun r w' => ∃ v', r = .returned v' ∧ OwnB w' w.heap.size v' 72 (byB f) ∧ Below w.heap.size w w' := by
  exact putBalance_any (f 0) (f 1) (f 2) (f 3) (f 4) (f 5) (f 6) (f 7) (f 8) (h 0) (h 1) (h 2) (h 3) (h 4) (h 5) (h 6) (h 7) (h 8) w
theorem load_WB (ρ : Operand → Value) (dst : Option Tmp) (x : Operand) (t : TypeId) (pos : String) (after : Array Edge) (guard : Option (Nat × Bool)) (w : World) :
    (execOp ρ { dst, op := Op.load 71 x, type := t, pos, after, guard }).run Try.prog w = (loadV Try.prog 71 9 w (ρ x)).andThen fun v w' => .ok (.value v) w' :=
  exec_load_row Try.underlying71 rfl (by kernel_rfl) ρ dst x t pos after guard w
theorem store_WB (ρ : Operand → Value) (dst : Option Tmp) (p x : Operand) (t : TypeId) (pos : String) (after : Array Edge) (guard : Option (Nat × Bool)) (w : World) :
    (execOp ρ { dst, op := Op.store 71 p x, type := t, pos, after, guard }).run Try.prog w = (storeV Try.prog 71 9 w (ρ p) (ρ x)).andThen fun _ w' => .ok .skip w' :=
  exec_store_row (by kernel_rfl) ρ dst p x t pos after guard w
theorem mid_B {w : World} {b o : Nat} {f : Nat → Int} (h : w.rangeAt b o (clB f)) : loadV Try.prog 71 9 w (.pointer (some ⟨b, o, none⟩)) = .ok (.agg #[.int .u64 (f 0), .int .u64 (f 1), .int .u64 (f 2), .int .u64 (f 3), .int .u64 (f 4), .int .u64 (f 5), .int .u64 (f 6), .int .u64 (f 7), .int .u64 (f 8)]) w := loadV_mid (n := 9) Try.underlying71 rfl (by kernel_rfl) rfl h
def okA (f : Nat → Int) : Prop := ∀ j, 0 ≤ f j ∧ f j < ([18446744073709551616, 18446744073709551616, 18446744073709551616, 18446744073709551616, 18446744073709551616, 18446744073709551616, 18446744073709551616, 18446744073709551616, 18446744073709551616, 18446744073709551616, 18446744073709551616, 4294967296, 65536, 65536, 18446744073709551616] : List Int).getD j 1
def clA (f : Nat → Int) : List Value := [.int .u64 (f 0), .int .u64 (f 1), .int .u64 (f 2), .int .u64 (f 3), .int .u64 (f 4), .int .u64 (f 5), .int .u64 (f 6), .int .u64 (f 7), .int .u64 (f 8), .int .u64 (f 9), .int .u64 (f 10), .int .u32 (f 11), .int .u16 (f 12), .int .u16 (f 13), .int .u64 (f 14)]
def byA (f : Nat → Int) : Nat → Int := putAccountD (f 0) (f 1) (f 2) (f 3) (f 4) (f 5) (f 6) (f 7) (f 8) (f 9) (f 10) (f 11) (f 12) (f 13) (f 14)
theorem putA_ok (f : Nat → Int) (h : okA f) (w : World) : Calls Try.prog 21 #[.agg #[.int .u64 (f 0), .int .u64 (f 1), .int .u64 (f 2), .int .u64 (f 3), .int .u64 (f 4), .int .u64 (f 5), .int .u64 (f 6), .int .u64 (f 7), .int .u64 (f 8), .int .u64 (f 9), .int .u64 (f 10), .int .u32 (f 11), .int .u16 (f 12), .int .u16 (f 13), .int .u64 (f 14)]] w fun r w' => ∃ v', r = .returned v' ∧ OwnB w' w.heap.size v' 104 (byA f) ∧ Below w.heap.size w w' := by
  exact putAccount_any (f 0) (f 1) (f 2) (f 3) (f 4) (f 5) (f 6) (f 7) (f 8) (f 9) (f 10) (f 11) (f 12) (f 13) (f 14) (h 0) (h 1) (h 2) (h 3) (h 4) (h 5) (h 6) (h 7) (h 8) (h 9) (h 10) (h 11) (h 12) (h 13) (h 14) w
theorem load_WA (ρ : Operand → Value) (dst : Option Tmp) (x : Operand) (t : TypeId) (pos : String) (after : Array Edge) (guard : Option (Nat × Bool)) (w : World) :
    (execOp ρ { dst, op := Op.load 63 x, type := t, pos, after, guard }).run Try.prog w = (loadV Try.prog 63 15 w (ρ x)).andThen fun v w' => .ok (.value v) w' :=
  exec_load_row Try.underlying63 rfl (by kernel_rfl) ρ dst x t pos after guard w
theorem store_WA (ρ : Operand → Value) (dst : Option Tmp) (p x : Operand) (t : TypeId) (pos : String) (after : Array Edge) (guard : Option (Nat × Bool)) (w : World) :
    (execOp ρ { dst, op := Op.store 63 p x, type := t, pos, after, guard }).run Try.prog w = (storeV Try.prog 63 15 w (ρ p) (ρ x)).andThen fun _ w' => .ok .skip w' :=
  exec_store_row (by kernel_rfl) ρ dst p x t pos after guard w
theorem mid_A {w : World} {b o : Nat} {f : Nat → Int} (h : w.rangeAt b o (clA f)) : loadV Try.prog 63 15 w (.pointer (some ⟨b, o, none⟩)) = .ok (.agg #[.int .u64 (f 0), .int .u64 (f 1), .int .u64 (f 2), .int .u64 (f 3), .int .u64 (f 4), .int .u64 (f 5), .int .u64 (f 6), .int .u64 (f 7), .int .u64 (f 8), .int .u64 (f 9), .int .u64 (f 10), .int .u32 (f 11), .int .u16 (f 12), .int .u16 (f 13), .int .u64 (f 14)]) w := loadV_mid (n := 15) Try.underlying63 rfl (by kernel_rfl) rfl h
def okT (f : Nat → Int) : Prop := ∀ j, 0 ≤ f j ∧ f j < ([18446744073709551616, 18446744073709551616, 18446744073709551616, 18446744073709551616, 18446744073709551616, 18446744073709551616, 18446744073709551616, 18446744073709551616, 18446744073709551616, 18446744073709551616, 18446744073709551616, 4294967296, 4294967296, 65536, 65536, 18446744073709551616] : List Int).getD j 1
def clT (f : Nat → Int) : List Value := [.int .u64 (f 0), .int .u64 (f 1), .int .u64 (f 2), .int .u64 (f 3), .int .u64 (f 4), .int .u64 (f 5), .int .u64 (f 6), .int .u64 (f 7), .int .u64 (f 8), .int .u64 (f 9), .int .u64 (f 10), .int .u32 (f 11), .int .u32 (f 12), .int .u16 (f 13), .int .u16 (f 14), .int .u64 (f 15)]
def byT (f : Nat → Int) : Nat → Int := putTransferD (f 0) (f 1) (f 2) (f 3) (f 4) (f 5) (f 6) (f 7) (f 8) (f 9) (f 10) (f 11) (f 12) (f 13) (f 14) (f 15)
theorem putT_ok (f : Nat → Int) (h : okT f) (w : World) : Calls Try.prog 23 #[.agg #[.int .u64 (f 0), .int .u64 (f 1), .int .u64 (f 2), .int .u64 (f 3), .int .u64 (f 4), .int .u64 (f 5), .int .u64 (f 6), .int .u64 (f 7), .int .u64 (f 8), .int .u64 (f 9), .int .u64 (f 10), .int .u32 (f 11), .int .u32 (f 12), .int .u16 (f 13), .int .u16 (f 14), .int .u64 (f 15)]] w fun r w' => ∃ v', r = .returned v' ∧ OwnB w' w.heap.size v' 108 (byT f) ∧ Below w.heap.size w w' := by
  exact putTransfer_any (f 0) (f 1) (f 2) (f 3) (f 4) (f 5) (f 6) (f 7) (f 8) (f 9) (f 10) (f 11) (f 12) (f 13) (f 14) (f 15) (h 0) (h 1) (h 2) (h 3) (h 4) (h 5) (h 6) (h 7) (h 8) (h 9) (h 10) (h 11) (h 12) (h 13) (h 14) (h 15) w
theorem load_WT (ρ : Operand → Value) (dst : Option Tmp) (x : Operand) (t : TypeId) (pos : String) (after : Array Edge) (guard : Option (Nat × Bool)) (w : World) :
    (execOp ρ { dst, op := Op.load 67 x, type := t, pos, after, guard }).run Try.prog w = (loadV Try.prog 67 16 w (ρ x)).andThen fun v w' => .ok (.value v) w' :=
  exec_load_row Try.underlying67 rfl (by kernel_rfl) ρ dst x t pos after guard w
theorem store_WT (ρ : Operand → Value) (dst : Option Tmp) (p x : Operand) (t : TypeId) (pos : String) (after : Array Edge) (guard : Option (Nat × Bool)) (w : World) :
    (execOp ρ { dst, op := Op.store 67 p x, type := t, pos, after, guard }).run Try.prog w = (storeV Try.prog 67 16 w (ρ p) (ρ x)).andThen fun _ w' => .ok .skip w' :=
  exec_store_row (by kernel_rfl) ρ dst p x t pos after guard w
theorem mid_T {w : World} {b o : Nat} {f : Nat → Int} (h : w.rangeAt b o (clT f)) : loadV Try.prog 67 16 w (.pointer (some ⟨b, o, none⟩)) = .ok (.agg #[.int .u64 (f 0), .int .u64 (f 1), .int .u64 (f 2), .int .u64 (f 3), .int .u64 (f 4), .int .u64 (f 5), .int .u64 (f 6), .int .u64 (f 7), .int .u64 (f 8), .int .u64 (f 9), .int .u64 (f 10), .int .u32 (f 11), .int .u32 (f 12), .int .u16 (f 13), .int .u16 (f 14), .int .u64 (f 15)]) w := loadV_mid (n := 16) Try.underlying67 rfl (by kernel_rfl) rfl h
end Go.Proofs.Ytncampbmnbhikaa
-- Wrb
namespace Go.Proofs.Ytncampbmnbhikaa
set_option linter.unusedVariables false
set_option linter.unusedSimpArgs false
open Go.RowKit

section
attribute [local go_sem low] loadV_ptr
attribute [local go_sem] storeV_ptr
attribute [local go_sem ↓] load_WR store_WR
set_option maxRecDepth 8000 in
set_option maxHeartbeats 4000000 in
theorem rowsR_any (v : Value) (h0 : Nat) (d : Nat → Int) (A : Option Addr) (n c : Nat) (F : Nat → Nat → Int) (base : Nat) (w : World) (hF : ∀ i, okR (F i)) (hn : n ≤ 5000) (hh : h0 ≤ 1000) (ho : OwnB w base v h0 d) (hbase : base ≤ w.heap.size) (hs : ∀ W, Below base w W → SsIs W A n 2 (fun i => clR (F i))) :
    Calls Try.prog 18 #[v, .slice A n c, .func (.func 19) #[] #[]] w fun r w' => ∃ v', r = .returned v' ∧ OwnB w' base v' (h0 + n * 8) (cat d h0 (rowsF 8 fun i => byR (F i))) ∧ Below base w w' := by
  have HP := Lib.hid putR_ok
  have HF := fun (m N : Nat) (hN : N = h0 + m * 8) => rows_next d h0 (fun i => byR (F i)) hN
  have ho0 : OwnB w base v h0 (cat d h0 (rowsF 8 fun i => byR (F i))) := ho.cast rfl (fun i hi => (cat_lo hi).symm)
  generalize cat d h0 (rowsF 8 fun i => byR (F i)) = D at *
  replace HF := Lib.hid HF
  replace hs := Lib.hid hs
  replace hF := Lib.hid hF
  replace ho0 := Lib.hid ho0
  clear ho
  go_enter Try.func18, Try.ntmps18
  go_wp2_with fail
  go_loopw [11, 0] (fun i s wr => ∃ m N : Nat, m ≤ n ∧ i = .int .i64 m ∧ Hid (N = h0 + m * 8) ∧ Hid (OwnB wr base s N D) ∧ Hid (Below base w wr)) (fun i _ _ => n - (intOf i).toNat)
  case atStart => exact ⟨0, h0, by omega, rfl, by unfold Hid; omega, ho0.out, Below.refl _ _⟩
  case round =>
    obtain ⟨m, N, hm, rfl, hmk, ho, hb⟩ := hrel
    have hsz := hb.out.size
    by_cases hlt : m < n
    · obtain ⟨b, o, rfl, hbl, hc⟩ := hs.out _ hb.out (by omega)
      have hL := mid_R (hc m hlt)
      clear hc
      have hf := Lib.hid (hF.out m)
      have HS := Lib.hid (HF.out m N hmk.out)
      have hbs := Nat.le_trans hbase hsz
      go_wp2_with fail
      refine (HP.out _ hf.out _).mono ?_
      rintro e2 w2 ⟨v2, rfl, ho2, hb2⟩
      obtain ⟨A2, c2, rfl, s2⟩ := ho2.slis
      have ho3 := Lib.hid (OwnB.kept (OwnB.kept ho.out (bel_alloc (Below.refl _ _) _)) hb2)
      have hb3 := Lib.hid ((belb_alloc hb.out hbs _).trans (hb2.mono (Nat.le_trans hbs (bel_alloc (Below.refl _ _) _).size)))
      have hsz2 := hb3.out.size
      replace s2 := Lib.hid s2
      clear ho2 hb2
      go_wp2_with (at_builtin; refine wpList_appB rfl (.tmp 15) (.tmp 18) rfl rfl rfl ho3.out s2.out (by have := hmk.out; omega) (by omega) ?_; intro v5 w5 ho5 hb5)
      go_roundw
      case rel => exact ⟨m + 1, N + 8, by omega, by go_num, (show N + 8 = h0 + (m + 1) * 8 by have := hmk.out; omega), ho5.cast rfl HS.out, hb3.out.trans hb5⟩
      case measure => simp [intOf]; omega
    · obtain rfl : m = n := by omega
      go_wp2_with fail
      go_ret
      exact ⟨_, rfl, by rw [← hmk.out]; exact ho.out, hb.out⟩
end
section
attribute [local go_sem low] loadV_ptr
attribute [local go_sem] storeV_ptr
attribute [local go_sem ↓] load_WA store_WA
set_option maxRecDepth 8000 in
set_option maxHeartbeats 4000000 in
theorem rowsA_any (v : Value) (h0 : Nat) (d : Nat → Int) (A : Option Addr) (n c : Nat) (F : Nat → Nat → Int) (base : Nat) (w : World) (hF : ∀ i, okA (F i)) (hn : n ≤ 5000) (hh : h0 ≤ 1000) (ho : OwnB w base v h0 d) (hbase : base ≤ w.heap.size) (hs : ∀ W, Below base w W → SsIs W A n 15 (fun i => clA (F i))) :
    Calls Try.prog 20 #[v, .slice A n c, .func (.func 21) #[] #[]] w fun r w' => ∃ v', r = .returned v' ∧ OwnB w' base v' (h0 + n * 104) (cat d h0 (rowsF 104 fun i => byA (F i))) ∧ Below base w w' := by
  have HP := Lib.hid putA_ok
  have HF := fun (m N : Nat) (hN : N = h0 + m * 104) => rows_next d h0 (fun i => byA (F i)) hN
  have ho0 : OwnB w base v h0 (cat d h0 (rowsF 104 fun i => byA (F i))) := ho.cast rfl (fun i hi => (cat_lo hi).symm)
  generalize cat d h0 (rowsF 104 fun i => byA (F i)) = D at *
  replace HF := Lib.hid HF
  replace hs := Lib.hid hs
  replace hF := Lib.hid hF
  replace ho0 := Lib.hid ho0
  clear ho
  go_enter Try.func20, Try.ntmps20
  go_wp2_with fail
  go_loopw [11, 0] (fun i s wr => ∃ m N : Nat, m ≤ n ∧ i = .int .i64 m ∧ Hid (N = h0 + m * 104) ∧ Hid (OwnB wr base s N D) ∧ Hid (Below base w wr)) (fun i _ _ => n - (intOf i).toNat)
  case atStart => exact ⟨0, h0, by omega, rfl, by unfold Hid; omega, ho0.out, Below.refl _ _⟩
  case round =>
    obtain ⟨m, N, hm, rfl, hmk, ho, hb⟩ := hrel
    have hsz := hb.out.size
    by_cases hlt : m < n
    · obtain ⟨b, o, rfl, hbl, hc⟩ := hs.out _ hb.out (by omega)
      have hL := mid_A (hc m hlt)
      clear hc
      have hf := Lib.hid (hF.out m)
      have HS := Lib.hid (HF.out m N hmk.out)
      have hbs := Nat.le_trans hbase hsz
      go_wp2_with fail
      refine (HP.out _ hf.out _).mono ?_
      rintro e2 w2 ⟨v2, rfl, ho2, hb2⟩
      obtain ⟨A2, c2, rfl, s2⟩ := ho2.slis
      have ho3 := Lib.hid (OwnB.kept (OwnB.kept ho.out (bel_alloc (Below.refl _ _) _)) hb2)
      have hb3 := Lib.hid ((belb_alloc hb.out hbs _).trans (hb2.mono (Nat.le_trans hbs (bel_alloc (Below.refl _ _) _).size)))
      have hsz2 := hb3.out.size
      replace s2 := Lib.hid s2
      clear ho2 hb2
      go_wp2_with (at_builtin; refine wpList_appB rfl (.tmp 15) (.tmp 18) rfl rfl rfl ho3.out s2.out (by have := hmk.out; omega) (by omega) ?_; intro v5 w5 ho5 hb5)
      go_roundw
      case rel => exact ⟨m + 1, N + 104, by omega, by go_num, (show N + 104 = h0 + (m + 1) * 104 by have := hmk.out; omega), ho5.cast rfl HS.out, hb3.out.trans hb5⟩
      case measure => simp [intOf]; omega
    · obtain rfl : m = n := by omega
      go_wp2_with fail
      go_ret
      exact ⟨_, rfl, by rw [← hmk.out]; exact ho.out, hb.out⟩
end
end Go.Proofs.Ytncampbmnbhikaa
-- Wrc
namespace Go.Proofs.Ytncampbmnbhikaa
set_option linter.unusedVariables false
set_option linter.unusedSimpArgs false
open Go.RowKit

section
attribute [local go_sem low] loadV_ptr
attribute [local go_sem] storeV_ptr
attribute [local go_sem ↓] load_WB store_WB
set_option maxRecDepth 8000 in
set_option maxHeartbeats 4000000 in
theorem rowsB_any (v : Value) (h0 : Nat) (d : Nat → Int) (A : Option Addr) (n c : Nat) (F : Nat → Nat → Int) (base : Nat) (w : World) (hF : ∀ i, okB (F i)) (hn : n ≤ 5000) (hh : h0 ≤ 1000) (ho : OwnB w base v h0 d) (hbase : base ≤ w.heap.size) (hs : ∀ W, Below base w W → SsIs W A n 9 (fun i => clB (F i))) :
    Calls Try.prog 24 #[v, .slice A n c, .func (.func 25) #[] #[]] w fun r w' => ∃ v', r = .returned v' ∧ OwnB w' base v' (h0 + n * 72) (cat d h0 (rowsF 72 fun i => byB (F i))) ∧ Below base w w' := by
  have HP := Lib.hid putB_ok
  have HF := fun (m N : Nat) (hN : N = h0 + m * 72) => rows_next d h0 (fun i => byB (F i)) hN
  have ho0 : OwnB w base v h0 (cat d h0 (rowsF 72 fun i => byB (F i))) := ho.cast rfl (fun i hi => (cat_lo hi).symm)
  generalize cat d h0 (rowsF 72 fun i => byB (F i)) = D at *
  replace HF := Lib.hid HF
  replace hs := Lib.hid hs
  replace hF := Lib.hid hF
  replace ho0 := Lib.hid ho0
  clear ho
  go_enter Try.func24, Try.ntmps24
  go_wp2_with fail
  go_loopw [11, 0] (fun i s wr => ∃ m N : Nat, m ≤ n ∧ i = .int .i64 m ∧ Hid (N = h0 + m * 72) ∧ Hid (OwnB wr base s N D) ∧ Hid (Below base w wr)) (fun i _ _ => n - (intOf i).toNat)
  case atStart => exact ⟨0, h0, by omega, rfl, by unfold Hid; omega, ho0.out, Below.refl _ _⟩
  case round =>
    obtain ⟨m, N, hm, rfl, hmk, ho, hb⟩ := hrel
    have hsz := hb.out.size
    by_cases hlt : m < n
    · obtain ⟨b, o, rfl, hbl, hc⟩ := hs.out _ hb.out (by omega)
      have hL := mid_B (hc m hlt)
      clear hc
      have hf := Lib.hid (hF.out m)
      have HS := Lib.hid (HF.out m N hmk.out)
      have hbs := Nat.le_trans hbase hsz
      go_wp2_with fail
      refine (HP.out _ hf.out _).mono ?_
      rintro e2 w2 ⟨v2, rfl, ho2, hb2⟩
      obtain ⟨A2, c2, rfl, s2⟩ := ho2.slis
      have ho3 := Lib.hid (OwnB.kept (OwnB.kept ho.out (bel_alloc (Below.refl _ _) _)) hb2)
      have hb3 := Lib.hid ((belb_alloc hb.out hbs _).trans (hb2.mono (Nat.le_trans hbs (bel_alloc (Below.refl _ _) _).size)))
      have hsz2 := hb3.out.size
      replace s2 := Lib.hid s2
      clear ho2 hb2
      go_wp2_with (at_builtin; refine wpList_appB rfl (.tmp 15) (.tmp 18) rfl rfl rfl ho3.out s2.out (by have := hmk.out; omega) (by omega) ?_; intro v5 w5 ho5 hb5)
      go_roundw
      case rel => exact ⟨m + 1, N + 72, by omega, by go_num, (show N + 72 = h0 + (m + 1) * 72 by have := hmk.out; omega), ho5.cast rfl HS.out, hb3.out.trans hb5⟩
      case measure => simp [intOf]; omega
    · obtain rfl : m = n := by omega
      go_wp2_with fail
      go_ret
      exact ⟨_, rfl, by rw [← hmk.out]; exact ho.out, hb.out⟩
end
section
attribute [local go_sem low] loadV_ptr
attribute [local go_sem] storeV_ptr
attribute [local go_sem ↓] load_WT store_WT
set_option maxRecDepth 8000 in
set_option maxHeartbeats 4000000 in
theorem rowsT_any (v : Value) (h0 : Nat) (d : Nat → Int) (A : Option Addr) (n c : Nat) (F : Nat → Nat → Int) (base : Nat) (w : World) (hF : ∀ i, okT (F i)) (hn : n ≤ 5000) (hh : h0 ≤ 1000) (ho : OwnB w base v h0 d) (hbase : base ≤ w.heap.size) (hs : ∀ W, Below base w W → SsIs W A n 16 (fun i => clT (F i))) :
    Calls Try.prog 22 #[v, .slice A n c, .func (.func 23) #[] #[]] w fun r w' => ∃ v', r = .returned v' ∧ OwnB w' base v' (h0 + n * 108) (cat d h0 (rowsF 108 fun i => byT (F i))) ∧ Below base w w' := by
  have HP := Lib.hid putT_ok
  have HF := fun (m N : Nat) (hN : N = h0 + m * 108) => rows_next d h0 (fun i => byT (F i)) hN
  have ho0 : OwnB w base v h0 (cat d h0 (rowsF 108 fun i => byT (F i))) := ho.cast rfl (fun i hi => (cat_lo hi).symm)
  generalize cat d h0 (rowsF 108 fun i => byT (F i)) = D at *
  replace HF := Lib.hid HF
  replace hs := Lib.hid hs
  replace hF := Lib.hid hF
  replace ho0 := Lib.hid ho0
  clear ho
  go_enter Try.func22, Try.ntmps22
  go_wp2_with fail
  go_loopw [11, 0] (fun i s wr => ∃ m N : Nat, m ≤ n ∧ i = .int .i64 m ∧ Hid (N = h0 + m * 108) ∧ Hid (OwnB wr base s N D) ∧ Hid (Below base w wr)) (fun i _ _ => n - (intOf i).toNat)
  case atStart => exact ⟨0, h0, by omega, rfl, by unfold Hid; omega, ho0.out, Below.refl _ _⟩
  case round =>
    obtain ⟨m, N, hm, rfl, hmk, ho, hb⟩ := hrel
    have hsz := hb.out.size
    by_cases hlt : m < n
    · obtain ⟨b, o, rfl, hbl, hc⟩ := hs.out _ hb.out (by omega)
      have hL := mid_T (hc m hlt)
      clear hc
      have hf := Lib.hid (hF.out m)
      have HS := Lib.hid (HF.out m N hmk.out)
      have hbs := Nat.le_trans hbase hsz
      go_wp2_with fail
      refine (HP.out _ hf.out _).mono ?_
      rintro e2 w2 ⟨v2, rfl, ho2, hb2⟩
      obtain ⟨A2, c2, rfl, s2⟩ := ho2.slis
      have ho3 := Lib.hid (OwnB.kept (OwnB.kept ho.out (bel_alloc (Below.refl _ _) _)) hb2)
      have hb3 := Lib.hid ((belb_alloc hb.out hbs _).trans (hb2.mono (Nat.le_trans hbs (bel_alloc (Below.refl _ _) _).size)))
      have hsz2 := hb3.out.size
      replace s2 := Lib.hid s2
      clear ho2 hb2
      go_wp2_with (at_builtin; refine wpList_appB rfl (.tmp 15) (.tmp 18) rfl rfl rfl ho3.out s2.out (by have := hmk.out; omega) (by omega) ?_; intro v5 w5 ho5 hb5)
      go_roundw
      case rel => exact ⟨m + 1, N + 108, by omega, by go_num, (show N + 108 = h0 + (m + 1) * 108 by have := hmk.out; omega), ho5.cast rfl HS.out, hb3.out.trans hb5⟩
      case measure => simp [intOf]; omega
    · obtain rfl : m = n := by omega
      go_wp2_with fail
      go_ret
      exact ⟨_, rfl, by rw [← hmk.out]; exact ho.out, hb.out⟩
end
end Go.Proofs.Ytncampbmnbhikaa
