/-
  What a disk holds; New, act, Fuse, Down, Waits, Writes, Blocks, walked.
-/
import Derived.Test.YtnbfnlpepnbppaaDkB
namespace Go.Proofs.Ytnbfnlpepnbppaa
set_option linter.unusedVariables false
set_option linter.unusedSimpArgs false
open Go.RowKit

/-- a disk: n blocks S, m writes that wait (the places P, the bytes D), the fuse, whether it is down, how many writes there were -/
structure DS where
  n : Nat
  S : Nat → Nat → Int
  m : Nat
  P : Nat → Nat
  D : Nat → Nat → Int
  f : Int
  dn : Bool
  k : Nat
/-- a disk's box at B, its rows sv and wv; G: blocks of its own -/
structure DkAt (w : World) (B : Nat) (G : Nat → Prop) (sv wv : Value) (d : DS) : Prop where
  box : Blk w B 65 #[sv, wv, .int .i64 d.f, .bool d.dn, .int .i64 d.k]
  safe : OwnS w 0 67 512 sv d.n (fun i => bytesL (d.S i))
  waits : OwnS w 0 69 513 wv d.m (fun i => wcl (d.P i) (d.D i))
  gB : G B
  gs : ∀ b, sv.ownBlock = some b → G b ∧ b ≠ B
  gw : ∀ b, wv.ownBlock = some b → G b ∧ b ≠ B
  sw : ∀ b, sv.ownBlock = some b → wv.ownBlock ≠ some b
  lt : ∀ k, G k → k < w.heap.size
def DkIs (w : World) (B : Nat) (G : Nat → Prop) (d : DS) : Prop := ∃ sv wv, DkAt w B G sv wv d
theorem OwnS.tch {S : Nat → Prop} {w w' : World} {base : Nat} {e : TypeId} {k : Nat} {v : Value} {n : Nat} {f : Nat → List Value} (h : OwnS w base e k v n f) (ht : Tch S w w') (hs : ∀ b, v.ownBlock = some b → ¬ S b) : OwnS w' base e k v n f := by
  obtain ⟨hl, h2⟩ := h
  refine ⟨hl, h2.imp id ?_⟩
  rintro ⟨g, cap, cur, rfl, hb, hh, h3⟩
  have hlt : g < w.heap.size := (Array.getElem?_eq_some_iff.1 hh).1
  exact ⟨g, cap, cur, rfl, hb, (ht.block g hlt (hs g rfl)).trans hh, h3⟩
theorem OwnS.ltB {w : World} {base : Nat} {e : TypeId} {k : Nat} {v : Value} {n : Nat} {f : Nat → List Value} (h : OwnS w base e k v n f) : ∀ b, v.ownBlock = some b → b < w.heap.size := by
  obtain ⟨hl, h2⟩ := h
  rcases h2 with ⟨rfl, _⟩ | ⟨g, cap, cur, rfl, hb, hh, h3⟩
  · intro b hb; simp [Value.ownBlock] at hb
  · intro b hb2
    simp [Value.ownBlock] at hb2
    subst hb2
    exact (Array.getElem?_eq_some_iff.1 hh).1
theorem OwnS.congr {w : World} {base : Nat} {e : TypeId} {k : Nat} {v : Value} {n : Nat} {f f' : Nat → List Value} (h : OwnS w base e k v n f) (he : ∀ i, i < n → f i = f' i) : OwnS w base e k v n f' := by
  have e1 : (List.range n).flatMap f = (List.range n).flatMap f' := rowC_congr he
  unfold OwnS at h ⊢
  rw [← e1]; exact h
section
variable {w w' : World} {B : Nat} {G : Nat → Prop} {sv wv : Value} {d : DS}
theorem DkAt.tch {Q : Nat → Prop} (h : DkAt w B G sv wv d) (ht : Tch Q w w') (hq : ∀ k, G k → ¬ Q k) : DkAt w' B G sv wv d :=
  ⟨h.box.tch ht (hq _ h.gB), h.safe.tch ht (fun b e => hq _ (h.gs b e).1), h.waits.tch ht (fun b e => hq _ (h.gw b e).1), h.gB, h.gs, h.gw, h.sw, fun k hk => Nat.lt_of_lt_of_le (h.lt k hk) ht.size⟩
theorem DkAt.kept (h : DkAt w B G sv wv d) (hb : Below w.heap.size w w') : DkAt w' B G sv wv d := h.tch (Q := fun _ => False) (tch_of hb _) (fun _ _ => id)
theorem DkIs.tch {Q : Nat → Prop} (h : DkIs w B G d) (ht : Tch Q w w') (hq : ∀ k, G k → ¬ Q k) : DkIs w' B G d := by
  obtain ⟨sv, wv, h⟩ := h
  exact ⟨sv, wv, h.tch ht hq⟩
theorem DkIs.kept (h : DkIs w B G d) (hb : Below w.heap.size w w') : DkIs w' B G d := h.tch (Q := fun _ => False) (tch_of hb _) (fun _ _ => id)
theorem DkIs.lt (h : DkIs w B G d) : ∀ k, G k → k < w.heap.size := by
  obtain ⟨sv, wv, h⟩ := h
  exact h.lt
theorem DkIs.gB (h : DkIs w B G d) : G B := by
  obtain ⟨sv, wv, h⟩ := h
  exact h.gB
/-- the box alone is turned -/
theorem DkAt.turn {d' : DS} (h : DkAt w B G sv wv d) (ht : Tch (fun k => k = B) w w') (hb : Blk w' B 65 #[sv, wv, .int .i64 d'.f, .bool d'.dn, .int .i64 d'.k]) (e1 : d'.n = d.n) (e2 : d'.S = d.S) (e3 : d'.m = d.m) (e4 : d'.P = d.P) (e5 : d'.D = d.D) : DkAt w' B G sv wv d' :=
  ⟨hb, by rw [e1, e2]; exact h.safe.tch ht (fun b e => (h.gs b e).2), by rw [e3, e4, e5]; exact h.waits.tch ht (fun b e => (h.gw b e).2), h.gB, h.gs, h.gw, h.sw, fun k hk => Nat.lt_of_lt_of_le (h.lt k hk) ht.size⟩
end
def DS.act (d : DS) : DS := if d.f = 0 then { d with dn := true } else if 0 < d.f then { d with f := d.f - 1 } else d
def DS.fuse (d : DS) (z : Int) : DS := if d.dn then d else { d with f := max z (-1) }
def DS.new (n : Nat) : DS := ⟨n, fun _ _ => 0, 0, fun _ => 0, fun _ _ => 0, -1, false, 0⟩
set_option maxHeartbeats 2000000 in
theorem act_any (B : Nat) (G : Nat → Prop) (sv wv : Value) (d : DS) (hf : d.f < 9223372036854775808) (w : World) (h : DkAt w B G sv wv d) :
    Calls Try.prog 25 #[.pointer (some ⟨B, 0, none⟩)] w fun r w' => r = .returned (.bool (decide (d.f = 0))) ∧ DkAt w' B G sv wv d.act ∧ Tch (fun k => k = B) w w' := by
  have hb := h.box
  have hl := hb.lt
  have c2 : w.cell? ⟨B, 2, none⟩ = some (.int .i64 d.f) := Blk.cell hb 2
  have c3 : w.cell? ⟨B, 3, none⟩ = some (.bool d.dn) := Blk.cell hb 3
  have f2 := Blk.frozen hb 2
  have f3 := Blk.frozen hb 3
  replace h := Lib.hid h
  by_cases h0 : d.f = 0
  · have hfin : Hid (DkAt (w.setCell ⟨B, 3, none⟩ (.bool true)) B G sv wv d.act) := Lib.hid (by
      refine h.out.turn ((Tch.refl (fun k => k = B) _).set (p := ⟨B, 3, none⟩) (fun _ => rfl) _) ?_ ?_ ?_ ?_ ?_ ?_ <;> unfold DS.act <;> rw [if_pos h0]
      exact Blk.set' hb 3 _ rfl)
    have kd : decide (d.f = 0) = true := decide_eq_true h0
    rw [kd]
    rw [h0] at c2
    clear hb h0 kd
    go_enter Try.func25, Try.ntmps25
    go_wp2_with fail
    go_ret
    exact ⟨rfl, hfin.out, (Tch.refl (fun k => k = B) _).set (p := ⟨B, 3, none⟩) (fun _ => rfl) _⟩
  · have kd : decide (d.f = 0) = false := decide_eq_false h0
    by_cases h1 : 0 < d.f
    · have hfin : Hid (DkAt (w.setCell ⟨B, 2, none⟩ (.int .i64 (d.f - 1))) B G sv wv d.act) := Lib.hid (by
        refine h.out.turn ((Tch.refl (fun k => k = B) _).set (p := ⟨B, 2, none⟩) (fun _ => rfl) _) ?_ ?_ ?_ ?_ ?_ ?_ <;> unfold DS.act <;> rw [if_neg h0, if_pos h1]
        exact Blk.set' hb 2 _ rfl)
      rw [kd]
      clear hb kd
      generalize d.f = z at *
      go_enter Try.func25, Try.ntmps25
      go_wp2_with fail
      go_ret
      exact ⟨rfl, hfin.out, (Tch.refl (fun k => k = B) _).set (p := ⟨B, 2, none⟩) (fun _ => rfl) _⟩
    · have hfin : Hid (DkAt w B G sv wv d.act) := Lib.hid (by
        unfold DS.act
        rw [if_neg h0, if_neg h1]
        exact h.out)
      rw [kd]
      clear hb kd
      generalize d.f = z at *
      go_enter Try.func25, Try.ntmps25
      go_wp2_with fail
      go_ret
      exact ⟨rfl, hfin.out, Tch.refl _ _⟩
set_option maxHeartbeats 2000000 in
theorem fuse_any (B : Nat) (G : Nat → Prop) (d : DS) (z : Int) (w : World) (h : DkIs w B G d) :
    Calls Try.prog 16 #[.pointer (some ⟨B, 0, none⟩), .int .i64 z] w fun r w' => r = .returned (.tuple #[]) ∧ DkIs w' B G (d.fuse z) ∧ Tch (fun k => k = B) w w' := by
  obtain ⟨sv, wv, h⟩ := h
  have hb := h.box
  have hl := hb.lt
  have c2 : w.cell? ⟨B, 2, none⟩ = some (.int .i64 d.f) := Blk.cell hb 2
  have c3 : w.cell? ⟨B, 3, none⟩ = some (.bool d.dn) := Blk.cell hb 3
  have f2 := Blk.frozen hb 2
  replace h := Lib.hid h
  cases hd : d.dn with
  | true =>
    have hfin : Hid (DkIs w B G (d.fuse z)) := Lib.hid (by unfold DS.fuse; rw [if_pos hd]; exact ⟨sv, wv, h.out⟩)
    rw [hd] at c3
    clear hb hd
    go_enter Try.func16, Try.ntmps16
    go_wp2_with fail
    go_end0
    exact ⟨rfl, hfin.out, Tch.refl _ _⟩
  | false =>
    have hfin : Hid (DkIs (w.setCell ⟨B, 2, none⟩ (.int .i64 (max z (-1)))) B G (d.fuse z)) := Lib.hid (by
      refine ⟨sv, wv, h.out.turn ((Tch.refl (fun k => k = B) _).set (p := ⟨B, 2, none⟩) (fun _ => rfl) _) ?_ ?_ ?_ ?_ ?_ ?_⟩ <;> unfold DS.fuse <;> rw [if_neg (by rw [hd]; simp)]
      exact Blk.set' hb 2 _ rfl)
    rw [hd] at c3
    clear hb hd
    by_cases hz : z < -1
    · rw [show max z (-1) = -1 by omega] at hfin
      go_enter Try.func16, Try.ntmps16
      go_wp2_with fail
      go_end0
      exact ⟨rfl, hfin.out, (Tch.refl (fun k => k = B) _).set (p := ⟨B, 2, none⟩) (fun _ => rfl) _⟩
    · rw [show max z (-1) = z by omega] at hfin
      go_enter Try.func16, Try.ntmps16
      go_wp2_with fail
      go_end0
      exact ⟨rfl, hfin.out, (Tch.refl (fun k => k = B) _).set (p := ⟨B, 2, none⟩) (fun _ => rfl) _⟩
theorem OwnS.form {w : World} {base : Nat} {e : TypeId} {k : Nat} {v : Value} {n : Nat} {f : Nat → List Value} (h : OwnS w base e k v n f) : ∃ A c, v = .slice A n c := by
  obtain ⟨hl, h2⟩ := h
  rcases h2 with ⟨rfl, rfl⟩ | ⟨g, cap, cur, rfl, hb, hh, h3⟩
  · exact ⟨none, 0, rfl⟩
  · exact ⟨_, _, rfl⟩
theorem down_any (B : Nat) (G : Nat → Prop) (d : DS) (w : World) (h : DkIs w B G d) :
    Calls Try.prog 18 #[.pointer (some ⟨B, 0, none⟩)] w fun r w' => r = .returned (.bool d.dn) ∧ w' = w := by
  obtain ⟨sv, wv, h⟩ := h
  have c3 : w.cell? ⟨B, 3, none⟩ = some (.bool d.dn) := Blk.cell h.box 3
  clear h
  go_enter Try.func18, Try.ntmps18
  go_wp2_with fail
  go_ret
  exact ⟨rfl, rfl⟩
theorem waits_any (B : Nat) (G : Nat → Prop) (d : DS) (w : World) (h : DkIs w B G d) :
    Calls Try.prog 22 #[.pointer (some ⟨B, 0, none⟩)] w fun r w' => r = .returned (.int .i64 d.m) ∧ w' = w := by
  obtain ⟨sv, wv, h⟩ := h
  obtain ⟨A, c, rfl⟩ := h.waits.form
  have c1 : w.cell? ⟨B, 1, none⟩ = some (.slice A d.m c) := Blk.cell h.box 1
  clear h
  go_enter Try.func22, Try.ntmps22
  go_wp2_with fail
  go_ret
  exact ⟨rfl, rfl⟩
theorem writes_any (B : Nat) (G : Nat → Prop) (d : DS) (w : World) (h : DkIs w B G d) :
    Calls Try.prog 35 #[.pointer (some ⟨B, 0, none⟩)] w fun r w' => r = .returned (.int .i64 d.k) ∧ w' = w := by
  obtain ⟨sv, wv, h⟩ := h
  have c4 : w.cell? ⟨B, 4, none⟩ = some (.int .i64 d.k) := Blk.cell h.box 4
  clear h
  go_enter Try.func35, Try.ntmps35
  go_wp2_with fail
  go_ret
  exact ⟨rfl, rfl⟩
theorem blocks_any (B : Nat) (G : Nat → Prop) (d : DS) (w : World) (h : DkIs w B G d) :
    Calls Try.prog 36 #[.pointer (some ⟨B, 0, none⟩)] w fun r w' => r = .returned (.int .i64 d.n) ∧ w' = w := by
  obtain ⟨sv, wv, h⟩ := h
  obtain ⟨A, c, rfl⟩ := h.safe.form
  have c1 : w.cell? ⟨B, 0, none⟩ = some (.slice A d.n c) := Blk.cell h.box 0
  clear h
  go_enter Try.func36, Try.ntmps36
  go_wp2_with fail
  go_ret
  exact ⟨rfl, rfl⟩
theorem rep_B (n : Nat) : rowC n (fun _ => bytesL (fun _ => 0)) = List.replicate (n * 512) (.int .u8 0) := by
  have e : bytesL (fun _ => 0) = List.replicate 512 (.int .u8 0) := by unfold bytesL; rw [List.map_const', List.length_range]
  unfold rowC
  induction n with
  | zero => simp
  | succ n ih => rw [List.range_succ, List.flatMap_append, ih, Nat.add_mul]; simp only [List.flatMap_cons, List.flatMap_nil, List.append_nil, e, Nat.one_mul, List.replicate_append_replicate]
theorem made_B (n : Nat) : madeCells zB.cells (n * 512) = (rowC n (fun _ => bytesL (fun _ => 0))).toArray := by
  rw [rep_B]
  have hz : zB.cells = Array.replicate 512 (.int .u8 0) := rfl
  apply Array.ext
  · simp [madeCells]
  · intro i h1 h2
    have hm : i % 512 < 512 := Nat.mod_lt _ (by omega)
    simp [madeCells, hz, hm]
set_option maxHeartbeats 2000000 in
theorem new_bad (z : Int) (hz : z < 8 ∨ 4096 < z) (w : World) : Calls Try.prog 9 #[.int .i64 z] w fun r w' => r = .returned (.tuple #[.pointer none, .int .i64 1]) ∧ w' = w := by
  by_cases h8 : z < 8
  · clear hz
    go_enter Try.func9, Try.ntmps9
    go_wp2_with fail
    go_ret2
    exact ⟨rfl, rfl⟩
  · have h9 : 4096 < z := by omega
    clear hz
    go_enter Try.func9, Try.ntmps9
    go_wp2_with fail
    go_ret2
    exact ⟨rfl, rfl⟩
set_option maxHeartbeats 2000000 in
theorem new_ok (n : Nat) (h8 : 8 ≤ n) (h9 : n ≤ 4096) (w : World) : Calls Try.prog 9 #[.int .i64 n] w fun r w' => ∃ B, r = .returned (.tuple #[.pointer (some ⟨B, 0, none⟩), .int .i64 0]) ∧ DkIs w' B (fun k => w.heap.size ≤ k ∧ k < w'.heap.size) (DS.new n) ∧ Below w.heap.size w w' := by
  obtain ⟨i0, hi0, hz0, hz1, hz2⟩ := info_parts info_B
  have hmk : ∀ W, (Instr.makeSlice 62 (.int .i64 n) (.int .i64 n)).run Try.prog W = .ok (.slice (some ⟨W.heap.size, 0, none⟩) n n) (W.alloc (.cells (rowC n (fun _ => bytesL (fun _ => 0))).toArray 67)) := fun W => by
    have h := run_makeSlice (P := Try.prog) (w := W) 62 67 i0 _ Try.underlying62 hi0 hz0 .i64 .i64 n n (by omega) (by omega) (by rw [hz1]; simp; omega) (by rw [hz2]; omega) (by omega)
    rw [h, hz1]
    simp only [Int.toNat_natCast]
    rw [made_B]
  clear hi0 hz0 hz1 hz2
  go_enter Try.func9, Try.ntmps9
  go_wp2_with fail
  go_ret2
  refine ⟨w.heap.size + 1, rfl, ⟨_, _, ⟨Blk.new' (by simp), OwnS.of_row (F := fun _ => bytesL (fun _ => 0)) ((Blk.new _ _ _).alloc _) (fun _ => bytesL_len _) (fun i _ => rfl) (Nat.zero_le _) (Nat.le_refl _) (by simp [maxLen]; omega), OwnS.nil _ _ _ _ _, ⟨by simp, by simp⟩, fun b hb => ?_, fun b hb => by simp [Value.ownBlock] at hb, fun b _ => by simp [Value.ownBlock], fun k hk => hk.2⟩⟩, ?_⟩
  · simp [Value.ownBlock] at hb
    subst hb
    simp
    omega
  · (repeat (first | exact Below.refl _ _ | assumption | refine below_drewN ?_ _ | refine bel_grow ?_ _ | refine Below.drew ?_ | refine bel_alloc ?_ _ | refine bel_set ?_ (by first | exact Nat.le_refl _ | (simp; done) | (simp; omega) | omega) _ | refine bel_trans ?_ (by assumption)))
end Go.Proofs.Ytnbfnlpepnbppaa
