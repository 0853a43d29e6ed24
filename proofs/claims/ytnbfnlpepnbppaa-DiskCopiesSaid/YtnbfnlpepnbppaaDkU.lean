/-
  The document's disk: what it holds; act, SetFuse, Read, walked.
-/
import Derived.Test.YtnbfnlpepnbppaaDkT
namespace Go.Proofs.Ytnbfnlpepnbppaa
set_option linter.unusedVariables false
set_option linter.unusedSimpArgs false
open Go.RowKit Go.Shelf
attribute [local irreducible] bytesL

/-- a disk of the document's: its rows sv and wv -/
structure RfAt (w : World) (sv wv : Value) (d : DS) : Prop where
  safe : OwnS w 0 9 1 sv d.n (fun i => [.string (strF (d.S i) 512)])
  waits : OwnS w 0 71 2 wv d.m (fun i => [.int .i64 (d.P i), .string (strF (d.D i) 512)])
def rfl5 (sv wv : Value) (d : DS) : List Value := [sv, wv, .int .i64 d.f, .bool d.dn, .int .i64 d.k]
def rfv (sv wv : Value) (d : DS) : Value := .agg #[sv, wv, .int .i64 d.f, .bool d.dn, .int .i64 d.k]
section
variable {w w' : World} {sv wv : Value} {d : DS}
theorem RfAt.kept (h : RfAt w sv wv d) (hb : Below w.heap.size w w') : RfAt w' sv wv d := ⟨h.safe.kept hb, h.waits.kept hb⟩
theorem RfAt.tch {Q : Nat → Prop} (h : RfAt w sv wv d) (ht : Tch Q w w') (hs : ∀ b, sv.ownBlock = some b → ¬ Q b) (hw : ∀ b, wv.ownBlock = some b → ¬ Q b) : RfAt w' sv wv d := ⟨h.safe.tch ht hs, h.waits.tch ht hw⟩
theorem RfAt.same {d' : DS} (h : RfAt w sv wv d) (e1 : d'.n = d.n) (e2 : d'.S = d.S) (e3 : d'.m = d.m) (e4 : d'.P = d.P) (e5 : d'.D = d.D) : RfAt w sv wv d' := ⟨by rw [e1, e2]; exact h.safe, by rw [e3, e4, e5]; exact h.waits⟩
theorem RfAt.form (h : RfAt w sv wv d) : ∃ As cs Aw cw, sv = .slice As d.n cs ∧ wv = .slice Aw d.m cw := by
  obtain ⟨As, cs, e1⟩ := h.safe.form
  obtain ⟨Aw, cw, e2⟩ := h.waits.form
  exact ⟨As, cs, Aw, cw, e1, e2⟩
end
theorem DS.act_fields (d : DS) : d.act.n = d.n ∧ d.act.S = d.S ∧ d.act.m = d.m ∧ d.act.P = d.P ∧ d.act.D = d.D := by
  unfold DS.act
  split
  · exact ⟨rfl, rfl, rfl, rfl, rfl⟩
  · split <;> exact ⟨rfl, rfl, rfl, rfl, rfl⟩
set_option maxHeartbeats 2000000 in
theorem ract_any (As Aw : Option Addr) (n m cs cw : Nat) (d : DS) (hf : -10 < d.f ∧ d.f < 9223372036854775808) (w : World) :
    Calls Try.prog 26 #[rfv (.slice As n cs) (.slice Aw m cw) d] w fun r w' => r = .returned (rfv (.slice As n cs) (.slice Aw m cw) d.act) ∧ Below w.heap.size w w' := by
  obtain ⟨hf1, hf2⟩ := hf
  by_cases h0 : d.f = 0
  · have e : d.act = { d with dn := true } := by unfold DS.act; rw [if_pos h0]
    rw [e]
    unfold rfv
    show Calls _ _ _ _ (fun r w' => r = .returned (.agg #[.slice As n cs, .slice Aw m cw, .int .i64 d.f, .bool true, .int .i64 d.k]) ∧ _)
    rw [h0]
    generalize d.dn = dn at *
    generalize d.k = k at *
    clear e h0 hf1 hf2
    go_enter Try.func26, Try.ntmps26
    go_wp2_with fail
    refine bodyPost_ret (v := .agg #[.slice As n cs, .slice Aw m cw, .int .i64 0, .bool true, .int .i64 k]) (by simp [results, Try.results26, go_sem]) rfl ⟨rfl, by (repeat (first | exact Below.refl _ _ | assumption | refine below_drewN ?_ _ | refine bel_grow ?_ _ | refine Below.drew ?_ | refine bel_alloc ?_ _ | refine bel_set ?_ (by first | exact Nat.le_refl _ | (simp; done) | (simp; omega) | omega) _ | refine bel_trans ?_ (by assumption)))⟩
  · by_cases h1 : 0 < d.f
    · have e : d.act = { d with f := d.f - 1 } := by unfold DS.act; rw [if_neg h0, if_pos h1]
      rw [e]
      unfold rfv
      show Calls _ _ _ _ (fun r w' => r = .returned (.agg #[.slice As n cs, .slice Aw m cw, .int .i64 (d.f - 1), .bool d.dn, .int .i64 d.k]) ∧ _)
      generalize d.dn = dn at *
      generalize d.k = k at *
      generalize d.f = f at *
      clear e
      go_enter Try.func26, Try.ntmps26
      go_wp2_with fail
      refine bodyPost_ret (v := .agg #[.slice As n cs, .slice Aw m cw, .int .i64 (f - 1), .bool dn, .int .i64 k]) (by simp [results, Try.results26, go_sem]) rfl ⟨rfl, by (repeat (first | exact Below.refl _ _ | assumption | refine below_drewN ?_ _ | refine bel_grow ?_ _ | refine Below.drew ?_ | refine bel_alloc ?_ _ | refine bel_set ?_ (by first | exact Nat.le_refl _ | (simp; done) | (simp; omega) | omega) _ | refine bel_trans ?_ (by assumption)))⟩
    · have e : d.act = d := by unfold DS.act; rw [if_neg h0, if_neg h1]
      rw [e]
      unfold rfv
      generalize d.dn = dn at *
      generalize d.k = k at *
      generalize d.f = f at *
      clear e
      go_enter Try.func26, Try.ntmps26
      go_wp2_with fail
      refine bodyPost_ret (v := .agg #[.slice As n cs, .slice Aw m cw, .int .i64 f, .bool dn, .int .i64 k]) (by simp [results, Try.results26, go_sem]) rfl ⟨rfl, by (repeat (first | exact Below.refl _ _ | assumption | refine below_drewN ?_ _ | refine bel_grow ?_ _ | refine Below.drew ?_ | refine bel_alloc ?_ _ | refine bel_set ?_ (by first | exact Nat.le_refl _ | (simp; done) | (simp; omega) | omega) _ | refine bel_trans ?_ (by assumption)))⟩
end Go.Proofs.Ytnbfnlpepnbppaa
