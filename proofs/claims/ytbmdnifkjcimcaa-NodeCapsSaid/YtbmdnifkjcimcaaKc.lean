/-
  bytes.Compare, key.Cmp and the document's Cmp, walked.
-/
import Derived.Test.YtbmdnifkjcimcaaKeyL
import Derived.Test.YtbmdnifkjcimcaaJ3
import Derived.Lib.Bytealg
import Derived.Lib.BytesEntry
namespace Go.Proofs.Ytbmdnifkjcimcaa
set_option linter.unusedVariables false
set_option linter.unusedSimpArgs false
open Go.RowKit

/-- the bytes of a row -/
def bL (d : Nat → Int) (n : Nat) : List UInt8 := (List.range n).map (fun i => UInt8.ofNat (d i).toNat)
/-- how two rows of bytes stand -/
def cmpB (d : Nat → Int) (n : Nat) (e : Nat → Int) (m : Nat) : Int := Lib.compareBytes (bL d n) (bL e m)
theorem bL_len (d : Nat → Int) (n : Nat) : (bL d n).length = n := by simp [bL]
theorem bL_drop {d : Nat → Int} {n k : Nat} (hk : k < n) : (bL d n).drop k = UInt8.ofNat (d k).toNat :: (bL d n).drop (k + 1) := by
  have h : k < (bL d n).length := by rw [bL_len]; exact hk
  rw [List.drop_eq_getElem_cons h]
  simp [bL]
theorem bL_all (d : Nat → Int) (n : Nat) : (bL d n).drop n = [] := List.drop_eq_nil_of_le (by rw [bL_len]; exact Nat.le_refl _)
theorem u8_lt {a b : Int} (ha : 0 ≤ a ∧ a < 256) (hb : 0 ≤ b ∧ b < 256) : (UInt8.ofNat a.toNat < UInt8.ofNat b.toNat) ↔ a < b := by
  rw [UInt8.lt_iff_toNat_lt]
  simp; omega
theorem cmp_step {d e : Nat → Int} (hd : ∀ i, 0 ≤ d i ∧ d i < 256) (he : ∀ i, 0 ≤ e i ∧ e i < 256) {n m k : Nat} (hn : k < n) (hm : k < m) :
    Lib.compareBytes ((bL d n).drop k) ((bL e m).drop k) = if d k < e k then -1 else if e k < d k then 1 else Lib.compareBytes ((bL d n).drop (k + 1)) ((bL e m).drop (k + 1)) := by
  rw [bL_drop hn, bL_drop hm, Lib.compareBytes]
  simp only [u8_lt (hd k) (he k), u8_lt (he k) (hd k)]
theorem cmp_end {d e : Nat → Int} {n m k : Nat} (h : k = n ∨ k = m) (hn : k ≤ n) (hm : k ≤ m) :
    Lib.compareBytes ((bL d n).drop k) ((bL e m).drop k) = if n < m then -1 else if m < n then 1 else 0 := by
  rcases Nat.lt_trichotomy n m with g | g | g
  · obtain rfl : k = n := by omega
    rw [bL_all, bL_drop (by omega), if_pos g]; rfl
  · subst g
    obtain rfl : k = n := by omega
    rw [bL_all, bL_all]; simp [Lib.compareBytes]
  · obtain rfl : k = m := by omega
    rw [bL_all, bL_drop (by omega), if_neg (by omega), if_pos g]; rfl
theorem cmpB_lt {d e : Nat → Int} (hd : ∀ i, 0 ≤ d i ∧ d i < 256) (he : ∀ i, 0 ≤ e i ∧ e i < 256) {n m : Nat} : ∀ k, k ≤ n → k ≤ m → (∀ j, j < k → d j = e j) → cmpB d n e m = Lib.compareBytes ((bL d n).drop k) ((bL e m).drop k)
  | 0, _, _, _ => by simp [cmpB]
  | k + 1, hn, hm, h => by
    rw [cmpB_lt hd he k (by omega) (by omega) (fun j hj => h j (by omega)), cmp_step hd he (by omega) (by omega), h k (by omega), if_neg (by omega), if_neg (by omega)]
theorem bL_bytes (d : Nat → Int) (n : Nat) : Lib.bytesOf ((List.range n).map d) = bL d n := by
  unfold Lib.bytesOf bL
  rw [List.map_map]
  rfl

section
variable {P : Program} {w : World}
theorem run_bytesSl {A : Option Addr} {n c : Nat} {d : Nat → Int} (hs : SlIs w A n (yV d)) : (Extern.Bytes.bytesOf (.slice A n c)).run P w = .ok ⟨(bL d n).toArray⟩ w := by
  rcases Nat.eq_zero_or_pos n with rfl | h0
  · cases A with
    | none => rfl
    | some a => rfl
  · obtain ⟨b, o, rfl, _, hc⟩ := hs h0
    have hl := Lib.run_loadBytesX (P := P) w ((List.range n).map d) ⟨b, o, none⟩ .empty (fun j x hj => by
      have hjn : j < n := by have := (List.getElem?_eq_some_iff.1 hj).1; simpa using this
      have e : (⟨b, o, none⟩ : Addr).add j = ⟨b, o + j, none⟩ := by unfold Addr.add; split <;> simp_all
      rw [e, hc j hjn]
      simp [hjn] at hj
      rw [← hj]; rfl)
    rw [List.length_map, List.length_range, bL_bytes] at hl
    show (Extern.Bytes.loadBytes _ _ _).run P w = _
    rw [hl]
    simp
theorem run_compareSl {A B : Option Addr} {n c m k : Nat} {d e : Nat → Int} (hs : SlIs w A n (yV d)) (ht : SlIs w B m (yV e)) :
    (Extern.BytealgCompare.compare #[.slice A n c, .slice B m k]).run P w = .ok (.int .i64 (cmpB d n e m)) w := by
  change Sem.run P (do pure (goInt (Extern.BytealgCompare.cmp (← Extern.Bytes.bytesOf (.slice A n c)) (← Extern.Bytes.bytesOf (.slice B m k))))) w = _
  simp only [Sem.run_bind, run_bytesSl hs, run_bytesSl ht, Sem.run_pure, Result.andThen]
  rw [Lib.cmp_eq]
  rfl
end

set_option maxHeartbeats 1000000 in
theorem bcompare_any (A B : Option Addr) (n c m k : Nat) (d e : Nat → Int) (w : World) (hs : SlIs w A n (yV d)) (ht : SlIs w B m (yV e)) : Calls Try.prog 42 #[.slice A n c, .slice B m k] w fun r w' =>
      r = .returned (.int .i64 (cmpB d n e m)) ∧ w' = w := by
  have H := Lib.hid (run_compareSl (P := Try.prog) (c := c) (k := k) hs ht)
  clear hs ht
  generalize cmpB d n e m = v at *
  go_enter Try.func42, Try.ntmps42
  go_wp2_with fail
  rw [run_callFunc_extern Try.func46 (by kernel_rfl) (by kernel_rfl) (by kernel_rfl) (e := Extern.BytealgCompare.compare) (by kernel_rfl), H.out]
  simp only [Result.andThen]
  rw [Oper.upon_value]
  go_wp2
  go_ret
  exact ⟨rfl, rfl⟩

set_option maxHeartbeats 1000000 in
theorem kcmp_any (A B : Option Addr) (n c m k : Nat) (d e : Nat → Int) (w : World) (hs : SlIs w A n (yV d)) (ht : SlIs w B m (yV e)) : Calls Try.prog 29 #[.slice A n c, .slice B m k] w fun r w' =>
      r = .returned (.int .i64 (cmpB d n e m)) ∧ Below w.heap.size w w' := by
  have H := Lib.hid (bcompare_any A B n c m k d e w hs ht)
  clear hs ht
  generalize cmpB d n e m = v at *
  go_enter Try.func29, Try.ntmps29
  go_wp2_with fail
  refine H.out.mono ?_
  rintro r w' ⟨rfl, rfl⟩
  go_wp2_with fail
  go_ret
  exact ⟨rfl, Below.refl _ _⟩

set_option maxHeartbeats 2000000 in
theorem rcmp3_any (n m : Nat) (d e : Nat → Int) (hd : ∀ i, 0 ≤ d i ∧ d i < 256) (he : ∀ i, 0 ≤ e i ∧ e i < 256) (hn : n ≤ maxLen) (hm : m ≤ maxLen) (w : World) : Calls Try.prog 32 #[.string (strF d n), .string (strF e m)] w fun r w' =>
      r = .returned (.int .i64 (cmpB d n e m)) ∧ Below w.heap.size w w' := by
  unfold maxLen at hn hm
  have es : (strF d n).size = n := strF_size d n
  have et : (strF e m).size = m := strF_size e m
  replace hd := Lib.hid hd
  replace he := Lib.hid he
  have H := Lib.hid (fun k h1 h2 h3 => cmpB_lt hd.out he.out (n := n) (m := m) k h1 h2 h3)
  generalize cmpB d n e m = v at *
  go_enter Try.func32, Try.ntmps32
  go_wp2
  go_loopw [5] (fun i wr => ∃ k : Nat, k ≤ n ∧ k ≤ m ∧ i = .int .i64 k ∧ Hid (∀ j, j < k → d j = e j) ∧ Hid (Below w.heap.size w wr)) (fun i _ => n - (intOf i).toNat)
  case atStart => exact ⟨0, by omega, by omega, rfl, fun j hj => by omega, Below.refl _ _⟩
  case round =>
    obtain ⟨k, hk, hk2, rfl, hq, hb⟩ := hrel
    have HV := Lib.hid (H.out k hk hk2 hq.out)
    by_cases hin : k < n ∧ k < m
    · obtain ⟨h1, h2⟩ := hin
      have hsz : k < (strF d n).size := by rw [es]; exact h1
      have htz : k < (strF e m).size := by rw [et]; exact h2
      have q1 := strF_at hsz (hd.out k)
      have q2 := strF_at htz (he.out k)
      have HS := Lib.hid (cmp_step hd.out he.out h1 h2)
      have b1 : decide ((k : Int) < n) = true := decide_eq_true (by omega)
      have b2 : decide ((k : Int) < m) = true := decide_eq_true (by omega)
      have a1 := hd.out k
      have a2 := he.out k
      rcases Int.lt_trichotomy (d k) (e k) with g | g | g
      · have g1 : decide (d k < e k) = true := decide_eq_true g
        replace g := Lib.hid g
        go_wp2
        first | (with_reducible refine rgrow2 (by kernel_rfl) (by kernel_rfl) ?_) | (refine rgrow (by kernel_rfl) (by kernel_rfl) ?_)
        repeat (go_big_quiet_step ((fail)))
        refine wpQuiet_nil ?_
        intro dr
        go_wp2
        go_ret
        exact ⟨(show _ = Ending.returned (Value.int IntKind.i64 v) by rw [HV.out, HS.out, if_pos g.out]; rfl), by have t := hb.out; (repeat (first | exact Below.refl _ _ | assumption | refine below_drewN ?_ _ | refine bel_grow ?_ _ | refine Below.drew ?_ | refine bel_alloc ?_ _ | refine bel_set ?_ (by first | exact Nat.le_refl _ | (simp; done) | (simp; omega) | omega) _ | refine bel_trans ?_ (by assumption)))⟩
      · have g1 : decide (d k < e k) = false := decide_eq_false (by omega)
        have g2 : decide (e k < d k) = false := decide_eq_false (by omega)
        replace g := Lib.hid g
        go_wp2
        first | (with_reducible refine rgrow2 (by kernel_rfl) (by kernel_rfl) ?_) | (refine rgrow (by kernel_rfl) (by kernel_rfl) ?_)
        repeat (go_big_quiet_step ((fail)))
        refine wpQuiet_nil ?_
        intro dr
        go_wp2
        first | (with_reducible refine rgrow2 (by kernel_rfl) (by kernel_rfl) ?_) | (refine rgrow (by kernel_rfl) (by kernel_rfl) ?_)
        repeat (go_big_quiet_step ((fail)))
        refine wpQuiet_nil ?_
        intro dr
        go_wp2
        go_roundw
        case rel =>
          refine ⟨k + 1, by omega, by omega, by go_num, fun j hj => ?_, ?_⟩
          · by_cases h : j = k
            · rw [h]; exact g.out
            · exact hq.out j (by omega)
          · have t := hb.out
            show Below _ _ _
            (repeat (first | exact Below.refl _ _ | assumption | refine below_drewN ?_ _ | refine bel_grow ?_ _ | refine Below.drew ?_ | refine bel_alloc ?_ _ | refine bel_set ?_ (by first | exact Nat.le_refl _ | (simp; done) | (simp; omega) | omega) _ | refine bel_trans ?_ (by assumption)))
        case measure => simp [intOf]; omega
      · have g1 : decide (d k < e k) = false := decide_eq_false (by omega)
        have g2 : decide (e k < d k) = true := decide_eq_true g
        replace g := Lib.hid g
        go_wp2
        first | (with_reducible refine rgrow2 (by kernel_rfl) (by kernel_rfl) ?_) | (refine rgrow (by kernel_rfl) (by kernel_rfl) ?_)
        repeat (go_big_quiet_step ((fail)))
        refine wpQuiet_nil ?_
        intro dr
        go_wp2
        first | (with_reducible refine rgrow2 (by kernel_rfl) (by kernel_rfl) ?_) | (refine rgrow (by kernel_rfl) (by kernel_rfl) ?_)
        repeat (go_big_quiet_step ((fail)))
        refine wpQuiet_nil ?_
        intro dr
        go_wp2
        go_ret
        exact ⟨(show _ = Ending.returned (Value.int IntKind.i64 v) by rw [HV.out, HS.out, if_neg (by have := g.out; omega), if_pos g.out]; rfl), by have t := hb.out; (repeat (first | exact Below.refl _ _ | assumption | refine below_drewN ?_ _ | refine bel_grow ?_ _ | refine Below.drew ?_ | refine bel_alloc ?_ _ | refine bel_set ?_ (by first | exact Nat.le_refl _ | (simp; done) | (simp; omega) | omega) _ | refine bel_trans ?_ (by assumption)))⟩
    · have HE := Lib.hid (cmp_end (d := d) (e := e) (n := n) (m := m) (k := k) (by omega) hk hk2)
      have hb2 := hb.out
      rcases (by omega : k < n ∧ k = m ∨ k = n ∧ k < m ∨ k = n ∧ k = m) with ⟨h1, h2⟩ | ⟨h1, h2⟩ | ⟨h1, h2⟩
      · subst h2
        go_wp2
        go_ret
        exact ⟨(show _ = Ending.returned (Value.int IntKind.i64 v) by rw [HV.out, HE.out, if_neg (by omega), if_pos h1]; rfl), hb2⟩
      · subst h1
        go_wp2
        go_ret
        exact ⟨(show _ = Ending.returned (Value.int IntKind.i64 v) by rw [HV.out, HE.out, if_pos h2]; rfl), hb2⟩
      · subst h1
        subst h2
        go_wp2
        go_ret
        exact ⟨(show _ = Ending.returned (Value.int IntKind.i64 v) by rw [HV.out, HE.out, if_neg (by omega), if_neg (by omega)]; rfl), hb2⟩
end Go.Proofs.Ytbmdnifkjcimcaa
