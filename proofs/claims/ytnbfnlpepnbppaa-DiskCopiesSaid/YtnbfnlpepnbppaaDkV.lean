/-
  The document's disk: SetFuse, Read, walked.
-/
import Derived.Test.YtnbfnlpepnbppaaDkU
namespace Go.Proofs.Ytnbfnlpepnbppaa
set_option linter.unusedVariables false
set_option linter.unusedSimpArgs false
open Go.RowKit Go.Shelf
attribute [local irreducible] bytesL

set_option maxHeartbeats 2000000 in
theorem rfuse_any (As Aw : Option Addr) (n m cs cw : Nat) (d : DS) (z : Int) (w : World) :
    Calls Try.prog 31 #[rfv (.slice As n cs) (.slice Aw m cw) d, .int .i64 z] w fun r w' => r = .returned (rfv (.slice As n cs) (.slice Aw m cw) (d.fuse z)) ∧ Below w.heap.size w w' := by
  cases hd : d.dn with
  | true =>
    have e : d.fuse z = d := by unfold DS.fuse; rw [if_pos hd]
    rw [e]
    unfold rfv
    rw [hd]
    generalize d.k = k at *
    generalize d.f = f at *
    clear e hd
    go_enter Try.func31, Try.ntmps31
    go_wp2_with fail
    refine bodyPost_ret (v := .agg #[.slice As n cs, .slice Aw m cw, .int .i64 f, .bool true, .int .i64 k]) (by simp [results, Try.results31, go_sem]) rfl ⟨rfl, by (repeat (first | exact Below.refl _ _ | assumption | refine below_drewN ?_ _ | refine bel_grow ?_ _ | refine Below.drew ?_ | refine bel_alloc ?_ _ | refine bel_set ?_ (by first | exact Nat.le_refl _ | (simp; done) | (simp; omega) | omega) _ | refine bel_trans ?_ (by assumption)))⟩
  | false =>
    have e : d.fuse z = { d with f := max z (-1) } := by unfold DS.fuse; rw [if_neg (by rw [hd]; simp)]
    rw [e]
    unfold rfv
    show Calls _ _ _ _ (fun r w' => r = .returned (.agg #[.slice As n cs, .slice Aw m cw, .int .i64 (max z (-1)), .bool d.dn, .int .i64 d.k]) ∧ _)
    rw [hd]
    generalize d.k = k at *
    generalize d.f = f at *
    clear e hd
    by_cases hz : z < 0
    · rw [show max z (-1) = -1 by omega]
      go_enter Try.func31, Try.ntmps31
      go_wp2_with fail
      refine bodyPost_ret (v := .agg #[.slice As n cs, .slice Aw m cw, .int .i64 (-1), .bool false, .int .i64 k]) (by simp [results, Try.results31, go_sem]) rfl ⟨rfl, by (repeat (first | exact Below.refl _ _ | assumption | refine below_drewN ?_ _ | refine bel_grow ?_ _ | refine Below.drew ?_ | refine bel_alloc ?_ _ | refine bel_set ?_ (by first | exact Nat.le_refl _ | (simp; done) | (simp; omega) | omega) _ | refine bel_trans ?_ (by assumption)))⟩
    · rw [show max z (-1) = z by omega]
      go_enter Try.func31, Try.ntmps31
      go_wp2_with fail
      refine bodyPost_ret (v := .agg #[.slice As n cs, .slice Aw m cw, .int .i64 z, .bool false, .int .i64 k]) (by simp [results, Try.results31, go_sem]) rfl ⟨rfl, by (repeat (first | exact Below.refl _ _ | assumption | refine below_drewN ?_ _ | refine bel_grow ?_ _ | refine Below.drew ?_ | refine bel_alloc ?_ _ | refine bel_set ?_ (by first | exact Nat.le_refl _ | (simp; done) | (simp; omega) | omega) _ | refine bel_trans ?_ (by assumption)))⟩
/-- the text that a reader is told -/
def DS.rstr (d : DS) (z : Int) : ByteArray := if d.rerr z = 0 then strF (d.cur z.toNat) 512 else { data := #[] }
theorem ss_at {w : World} {A : Option Addr} {n k : Nat} {f : Nat → List Value} (h : SsIs w A n k f) {i : Nat} (hi : i < n) : ∃ b o, A = some ⟨b, o, none⟩ ∧ b < w.heap.size ∧ ∀ j v, (f i)[j]? = some v → w.cell? ⟨b, o + i * k + j, none⟩ = some v := by
  obtain ⟨b, o, e, hl, hc⟩ := h (by omega)
  exact ⟨b, o, e, hl, fun j v hv => hc i hi j v hv⟩
set_option maxRecDepth 4000 in
set_option maxHeartbeats 4000000 in
theorem rread_any (sv wv : Value) (d : DS) (z : Int) (hn : d.n ≤ 4096) (hm : d.m ≤ 100000) (w : World) (h : RfAt w sv wv d) :
    Calls Try.prog 29 #[rfv sv wv d, .int .i64 z] w fun r w' => r = .returned (.tuple #[.string (d.rstr z), .int .i64 (d.rerr z)]) ∧ Below w.heap.size w w' := by
  obtain ⟨As, cs, rfl, hs1, hs2, hss⟩ := h.safe.ssis (fun _ => rfl)
  obtain ⟨Aw, cw, rfl, hw1, hw2, hww⟩ := h.waits.ssis (fun _ => rfl)
  unfold maxLen at hs2 hw2
  have hrs : ∀ e, e ≠ 0 → d.rerr z = e → d.rstr z = { data := #[] } := fun e h1 h2 => by unfold DS.rstr; rw [if_neg (by rw [h2]; exact h1)]
  unfold rfv
  clear h
  cases hd : d.dn with
  | true =>
    have he : d.rerr z = 7 := by unfold DS.rerr; rw [if_pos hd]
    rw [hrs 7 (by omega) he, he]
    clear hss hww hrs he hd
    generalize d.k = k at *
    generalize d.f = f at *
    go_enter Try.func29, Try.ntmps29
    go_wp2_with fail
    go_ret2
    exact ⟨rfl, by (repeat (first | exact Below.refl _ _ | assumption | refine below_drewN ?_ _ | refine bel_grow ?_ _ | refine Below.drew ?_ | refine bel_alloc ?_ _ | refine bel_set ?_ (by first | exact Nat.le_refl _ | (simp; done) | (simp; omega) | omega) _ | refine bel_trans ?_ (by assumption)))⟩
  | false =>
    by_cases hz0 : z < 0
    · have he : d.rerr z = 4 := by unfold DS.rerr; rw [if_neg (by rw [hd]; simp), if_pos (Or.inl hz0)]
      rw [hrs 4 (by omega) he, he]
      clear hss hww hrs he hd
      generalize d.k = k at *
      generalize d.f = f at *
      go_enter Try.func29, Try.ntmps29
      go_wp2_with fail
      go_ret2
      exact ⟨rfl, by (repeat (first | exact Below.refl _ _ | assumption | refine below_drewN ?_ _ | refine bel_grow ?_ _ | refine Below.drew ?_ | refine bel_alloc ?_ _ | refine bel_set ?_ (by first | exact Nat.le_refl _ | (simp; done) | (simp; omega) | omega) _ | refine bel_trans ?_ (by assumption)))⟩
    · obtain ⟨zn, rfl⟩ : ∃ zn : Nat, z = zn := ⟨z.toNat, by omega⟩
      clear hz0
      by_cases hzn : d.n ≤ zn
      · have he : d.rerr (zn : Int) = 4 := by unfold DS.rerr; rw [if_neg (by rw [hd]; simp), if_pos (Or.inr (by omega))]
        rw [hrs 4 (by omega) he, he]
        clear hss hww hrs he hd
        generalize d.k = k at *
        generalize d.f = f at *
        go_enter Try.func29, Try.ntmps29
        go_wp2_with fail
        go_ret2
        exact ⟨rfl, by (repeat (first | exact Below.refl _ _ | assumption | refine below_drewN ?_ _ | refine bel_grow ?_ _ | refine Below.drew ?_ | refine bel_alloc ?_ _ | refine bel_set ?_ (by first | exact Nat.le_refl _ | (simp; done) | (simp; omega) | omega) _ | refine bel_trans ?_ (by assumption)))⟩
      · have he : d.rerr (zn : Int) = 0 := by unfold DS.rerr; rw [if_neg (by rw [hd]; simp), if_neg (by omega)]
        have hrr : d.rstr (zn : Int) = strF (curD d.S d.P d.D d.m zn) 512 := by unfold DS.rstr; rw [if_pos he]; rfl
        rw [hrr, he]
        clear hrs he hrr hd
        generalize d.k = k at *
        generalize d.f = f at *
        obtain ⟨bs, os, rfl, hls, hcs⟩ := ss_at hss (i := zn) (by omega)
        have cs0 : w.cell? ⟨bs, os + zn, none⟩ = some (.string (strF (d.S zn) 512)) := by have := hcs 0 _ rfl; simpa using this
        clear hss hcs
        replace hww := Lib.hid hww
        go_enter Try.func29, Try.ntmps29
        go_upto_region 1 with fail
        refine abs_wp (fun X => Below w.heap.size w X ∧ Blk X w.heap.size 31 #[.slice (some ⟨bs, os, none⟩) d.n cs, .slice Aw d.m cw, .int .i64 f, .bool false, .int .i64 k]) ⟨bel_alloc (Below.refl _ _) _, Blk.new _ _ _⟩ ?_
        rintro X ⟨hbX, gX⟩
        have t0 : X.cell? ⟨bs, os + zn, none⟩ = some (.string (strF (d.S zn) 512)) := keepc hbX cs0
        have x0 : X.cell? ⟨w.heap.size, 0, none⟩ = some (.slice (some ⟨bs, os, none⟩) d.n cs) := gX.cell 0
        have x1 : X.cell? ⟨w.heap.size, 1, none⟩ = some (.slice Aw d.m cw) := gX.cell 1
        have x3 : X.cell? ⟨w.heap.size, 3, none⟩ = some (.bool false) := gX.cell 3
        replace hww := Lib.hid (hww.out.below hbX)
        replace hbX := Lib.hid hbX
        clear gX cs0
        go_wp2_with fail
        go_loopw [6, 7] (fun s i wr => ∃ (j : Nat), j ≤ d.m ∧ i = .int .i64 j ∧ s = .string (strF (curD d.S d.P d.D j zn) 512) ∧ wr = X) (fun _ i _ => d.m - (intOf i).toNat)
        case atStart => exact ⟨0, by omega, rfl, rfl, rfl⟩
        case round =>
          obtain ⟨j, hj, rfl, rfl, rfl⟩ := hrel
          by_cases hlt : j < d.m
          · obtain ⟨bw, ow, rfl, hlw, hcw⟩ := ss_at hww.out hlt
            have y0 : wr.cell? ⟨bw, ow + j * 2, none⟩ = some (.int .i64 (d.P j)) := by have := hcw 0 _ rfl; simpa using this
            have y1 : wr.cell? ⟨bw, ow + j * 2 + 1, none⟩ = some (.string (strF (d.D j) 512)) := hcw 1 _ rfl
            have hcu : curD d.S d.P d.D (j + 1) zn = if d.P j = zn then d.D j else curD d.S d.P d.D j zn := rfl
            clear hcw
            by_cases hp : d.P j = zn
            · rw [if_pos hp] at hcu
              rw [hp] at y0
              rw [← hcu] at y1
              generalize curD d.S d.P d.D j zn = q at *
              generalize hq2 : curD d.S d.P d.D (j + 1) zn = q2 at *
              clear hcu hp
              go_wp2_with fail
              go_roundw
              case rel => exact ⟨j + 1, by omega, by go_num, by rw [hq2], trivial⟩
              case measure => simp [intOf]; omega
            · rw [if_neg hp] at hcu
              generalize hq : curD d.S d.P d.D j zn = q at *
              have hp2 : ¬ ((d.P j : Int) = (zn : Int)) := by omega
              generalize d.P j = pj at *
              go_wp2_with fail
              go_roundw
              case rel => exact ⟨j + 1, by omega, by go_num, by rw [hcu], trivial⟩
              case measure => simp [intOf]; omega
          · obtain rfl : j = d.m := by omega
            generalize hq : strF (curD d.S d.P d.D d.m zn) 512 = q at *
            go_wp2_with fail
            go_ret2
            exact ⟨by rw [hq]; rfl, hbX.out⟩
end Go.Proofs.Ytnbfnlpepnbppaa
