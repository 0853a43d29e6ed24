/-
  Read in all cases; how texts of blocks compare.
-/
import Derived.Test.YtnbfnlpepnbppaaDkI
namespace Go.Proofs.Ytnbfnlpepnbppaa
set_option linter.unusedVariables false
set_option linter.unusedSimpArgs false
open Go.RowKit Go.Shelf
attribute [local irreducible] bytesL

/-- the error's number of Read -/
def DS.rerr (d : DS) (z : Int) : Int := if d.dn = true then 7 else if z < 0 ∨ (d.n : Int) ≤ z then 4 else 0
set_option maxRecDepth 4000 in
set_option maxHeartbeats 4000000 in
theorem read_any (B : Nat) (G : Nat → Prop) (d : DS) (z : Int) (hn : d.n ≤ 4096) (hm : d.m ≤ 100000) (w : World) (h : DkIs w B G d) :
    Calls Try.prog 14 #[.pointer (some ⟨B, 0, none⟩), .int .i64 z] w fun r w' => ∃ v, r = .returned (.tuple #[v, .int .i64 (d.rerr z)]) ∧ (d.rerr z ≠ 0 → v = .slice none 0 0) ∧ (d.rerr z = 0 → OwnS w' w.heap.size 5 1 v 512 (fun j => [.int .u8 (d.cur z.toNat j)])) ∧ Below w.heap.size w w' := by
  by_cases hok : d.dn = false ∧ 0 ≤ z ∧ z < d.n
  · obtain ⟨o1, o2, o3⟩ := hok
    obtain ⟨zn, rfl⟩ : ∃ zn : Nat, z = zn := ⟨z.toNat, by omega⟩
    have he : d.rerr zn = 0 := by unfold DS.rerr; rw [if_neg (by rw [o1]; simp), if_neg (by omega)]
    refine (read_main B G d zn (by omega) o1 hn hm w h).mono ?_
    rintro e w' ⟨v, rfl, ho, hb⟩
    exact ⟨v, by rw [he], fun x => absurd he x, fun _ => by rw [Int.toNat_natCast]; exact ho, hb⟩
  · obtain ⟨sv, wv, h⟩ := h
    obtain ⟨As, cs, rfl, hs1, hs2, _⟩ := h.safe.ssis (fun i => bytesL_len _)
    have hb := h.box
    have hl := hb.lt
    have c0 : w.cell? ⟨B, 0, none⟩ = some (.slice As d.n cs) := Blk.cell hb 0
    have c3 : w.cell? ⟨B, 3, none⟩ = some (.bool d.dn) := Blk.cell hb 3
    have hne : d.rerr z ≠ 0 := by
      unfold DS.rerr
      cases hdn : d.dn with
      | true => simp
      | false => rw [if_neg (by simp), if_pos (by rcases Int.lt_or_le z 0 with x | x; exact Or.inl x; exact Or.inr (by rcases Int.lt_or_le z d.n with y | y; exact absurd ⟨hdn, x, y⟩ hok; exact y))]; simp
    have hfin : Hid (∀ (e : Int) W', e = d.rerr z → Below w.heap.size w W' → ∃ v, Ending.returned (.tuple #[.slice none 0 0, .int .i64 e]) = Ending.returned (.tuple #[v, .int .i64 (d.rerr z)]) ∧ (d.rerr z ≠ 0 → v = .slice none 0 0) ∧ (d.rerr z = 0 → OwnS W' w.heap.size 5 1 v 512 (fun j => [.int .u8 (d.cur z.toNat j)])) ∧ Below w.heap.size w W') := Lib.hid (fun e W' he hbW => ⟨_, by rw [he], fun _ => rfl, fun x => absurd x hne, hbW⟩)
    have her : d.rerr z = if d.dn = true then 7 else 4 := by
      unfold DS.rerr
      cases hdn : d.dn with
      | true => rfl
      | false => rw [if_neg (by simp), if_pos (by rcases Int.lt_or_le z 0 with x | x; exact Or.inl x; exact Or.inr (by rcases Int.lt_or_le z d.n with y | y; exact absurd ⟨hdn, x, y⟩ hok; exact y))]; rfl
    clear hb h hne
    go_enter Try.func14, Try.ntmps14
    go_upto_region 1 with fail
    refine abs_wp (fun X => Below w.heap.size w X ∧ Blk X w.heap.size 3 #[.int .i64 z] ∧ Blk X (w.heap.size + 1) 39 #[.slice none 0 0] ∧ Blk X (w.heap.size + 1 + 1) 25 #[.int .i64 0]) ⟨by (repeat (first | exact Below.refl _ _ | assumption | refine below_drewN ?_ _ | refine bel_grow ?_ _ | refine Below.drew ?_ | refine bel_alloc ?_ _ | refine bel_set ?_ (by first | exact Nat.le_refl _ | (simp; done) | (simp; omega) | omega) _ | refine bel_trans ?_ (by assumption))), ((Blk.new _ _ _).alloc _).alloc _, (Blk.new' (by simp)).alloc _, Blk.new' (by simp)⟩ ?_
    rintro X ⟨hbX, b3, b4, b5⟩
    have k0 := keepc hbX c0
    have k3 := keepc hbX c3
    have kl := Nat.lt_of_lt_of_le hl hbX.size
    have kz : X.cell? ⟨w.heap.size, 0, none⟩ = some (.int .i64 z) := Blk.cell b3 0
    have kzl := b3.lt
    have hlast : ∀ (Y : World) (e : Int), Blk Y (w.heap.size + 1) 39 #[.slice none 0 0] → Blk Y (w.heap.size + 1 + 1) 25 #[.int .i64 0] → Below w.heap.size w Y → Blk ((Y.setCell ⟨w.heap.size + 1, 0, none⟩ (.slice none 0 0)).setCell ⟨w.heap.size + 1 + 1, 0, none⟩ (.int .i64 e)) (w.heap.size + 1) 39 #[.slice none 0 0] ∧ Blk ((Y.setCell ⟨w.heap.size + 1, 0, none⟩ (.slice none 0 0)).setCell ⟨w.heap.size + 1 + 1, 0, none⟩ (.int .i64 e)) (w.heap.size + 1 + 1) 25 #[.int .i64 e] ∧ Below w.heap.size w ((Y.setCell ⟨w.heap.size + 1, 0, none⟩ (.slice none 0 0)).setCell ⟨w.heap.size + 1 + 1, 0, none⟩ (.int .i64 e)) := fun Y e y4 y5 yb =>
      ⟨(Blk.set' y4 0 _ rfl).far (by dsimp only; omega) _, Blk.set' (y5.far (by dsimp only; omega) _) 0 _ rfl, yb.trans ((((Tch.refl (fun k => k = w.heap.size + 1 ∨ k = w.heap.size + 1 + 1) Y).set (p := ⟨w.heap.size + 1, 0, none⟩) (fun _ => Or.inl rfl) _).set (p := ⟨w.heap.size + 1 + 1, 0, none⟩) (fun _ => Or.inr rfl) _).below yb.size (fun k h1 h2 => by omega))⟩
    have n4 := b4.cell 0
    have n5 := b5.cell 0
    have m4 := b4.frozen 0
    have m5 := b5.frozen 0
    have l4 := b4.lt
    have l5 := b5.lt
    clear c0 c3
    cases hdn : d.dn with
    | true =>
      rw [hdn] at k3 her
      rw [if_pos rfl] at her
      have hcl := hlast X 7 b4 b5 hbX
      obtain ⟨v4, v5, hbl⟩ := hcl
      go_wp2_with fail
      exact bodyPost_ret (v := .tuple #[.slice none 0 0, .int .i64 7]) (results_cc Try.results14 rfl rfl (load1 Try.underlying39 rfl (v4.cell 0)) (load1 Try.underlying25 rfl (v5.cell 0))) rfl (hfin.out 7 _ her.symm hbl)
    | false =>
      rw [hdn] at k3 her
      rw [if_neg (by simp)] at her
      have d1 : (decide (z < 0) = true) ∨ (decide (z < 0) = false ∧ decide (((d.n : Nat) : Int) ≤ z) = true) := by
        rcases Int.lt_or_le z 0 with x | x
        · exact Or.inl (decide_eq_true x)
        · exact Or.inr ⟨decide_eq_false (by omega), decide_eq_true (by rcases Int.lt_or_le z d.n with y | y; exact absurd ⟨hdn, x, y⟩ hok; exact y)⟩
      clear hok hdn
      go_upto_region 3 with fail
      rcases d1 with d1 | ⟨d1, d2⟩
      · first | (with_reducible refine rgrow2 (by kernel_rfl) (by kernel_rfl) ?_) | (refine rgrow (by kernel_rfl) (by kernel_rfl) ?_)
        repeat (go_big_quiet_step ((fail)))
        refine wpQuiet_nil ?_
        intro dr
        have r4 := b4.kept (grow_below X dr)
        have r5 := b5.kept (grow_below X dr)
        have p4 := r4.cell 0
        have p5 := r5.cell 0
        have q4 := r4.frozen 0
        have q5 := r5.frozen 0
        have s4 := r4.lt
        have s5 := r5.lt
        have hcl := hlast (Grow X dr) 4 r4 r5 (bel_eld hbX (grow_below X dr))
        obtain ⟨v4, v5, hbl⟩ := hcl
        go_wp2_with fail
        exact bodyPost_ret (v := .tuple #[.slice none 0 0, .int .i64 4]) (results_cc Try.results14 rfl rfl (load1 Try.underlying39 rfl (v4.cell 0)) (load1 Try.underlying25 rfl (v5.cell 0))) rfl (hfin.out 4 _ her.symm hbl)
      · first | (with_reducible refine rgrow2 (by kernel_rfl) (by kernel_rfl) ?_) | (refine rgrow (by kernel_rfl) (by kernel_rfl) ?_)
        repeat (go_big_quiet_step ((fail)))
        refine wpQuiet_nil ?_
        intro dr
        have r4 := b4.kept (grow_below X dr)
        have r5 := b5.kept (grow_below X dr)
        have p4 := r4.cell 0
        have p5 := r5.cell 0
        have q4 := r4.frozen 0
        have q5 := r5.frozen 0
        have s4 := r4.lt
        have s5 := r5.lt
        have hcl := hlast (Grow X dr) 4 r4 r5 (bel_eld hbX (grow_below X dr))
        obtain ⟨v4, v5, hbl⟩ := hcl
        go_wp2_with fail
        exact bodyPost_ret (v := .tuple #[.slice none 0 0, .int .i64 4]) (results_cc Try.results14 rfl rfl (load1 Try.underlying39 rfl (v4.cell 0)) (load1 Try.underlying25 rfl (v5.cell 0))) rfl (hfin.out 4 _ her.symm hbl)
end Go.Proofs.Ytnbfnlpepnbppaa
