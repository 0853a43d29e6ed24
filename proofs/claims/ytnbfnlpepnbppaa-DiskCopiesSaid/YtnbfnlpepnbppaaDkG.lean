/-
  Copy and full, walked.
-/
import Derived.Test.YtnbfnlpepnbppaaDkF
namespace Go.Proofs.Ytnbfnlpepnbppaa
set_option linter.unusedVariables false
set_option linter.unusedSimpArgs false
open Go.RowKit
attribute [local irreducible] bytesL

theorem OwnS.base0 {w : World} {base : Nat} {e : TypeId} {k : Nat} {v : Value} {n : Nat} {f : Nat → List Value} (h : OwnS w base e k v n f) : OwnS w 0 e k v n f :=
  ⟨h.1, h.2.imp id (fun ⟨g, cap, cur, a, _, c⟩ => ⟨g, cap, cur, a, Nat.zero_le _, c⟩)⟩
set_option maxHeartbeats 4000000 in
theorem copy_any (B : Nat) (G : Nat → Prop) (d : DS) (hn : d.n ≤ 4096) (hm : d.m ≤ 100000) (w : World) (h : DkIs w B G d) :
    Calls Try.prog 23 #[.pointer (some ⟨B, 0, none⟩)] w fun r w' => ∃ B', r = .returned (.pointer (some ⟨B', 0, none⟩)) ∧ DkIs w' B' (fun k => w.heap.size ≤ k ∧ k < w'.heap.size) d ∧ Below w.heap.size w w' := by
  obtain ⟨sv, wv, h⟩ := h
  obtain ⟨As, cs, rfl, hs1, hs2, hs3⟩ := h.safe.ssis (fun i => bytesL_len _)
  obtain ⟨Aw, cw, rfl, hw1, hw2, hw3⟩ := h.waits.ssis (fun i => wcl_len _ _)
  have hb := h.box
  have hl := hb.lt
  have c0 : w.cell? ⟨B, 0, none⟩ = some (.slice As d.n cs) := Blk.cell hb 0
  have c1 : w.cell? ⟨B, 1, none⟩ = some (.slice Aw d.m cw) := Blk.cell hb 1
  have c2 : w.cell? ⟨B, 2, none⟩ = some (.int .i64 d.f) := Blk.cell hb 2
  have c3 : w.cell? ⟨B, 3, none⟩ = some (.bool d.dn) := Blk.cell hb 3
  have c4 : w.cell? ⟨B, 4, none⟩ = some (.int .i64 d.k) := Blk.cell hb 4
  have cS := Lib.hid (fun W (hW : Below w.heap.size w W) => clone_Bl_any As d.n cs (fun i => bytesL (d.S i)) (fun _ => bytesL_len _) (fun _ => bytesL_one _) (by omega) W (hs3.below hW))
  have cW := Lib.hid (fun W (hW : Below w.heap.size w W) => clone_Wr_any Aw d.m cw (fun i => wcl (d.P i) (d.D i)) (fun _ => wcl_len _ _) (fun _ => wcl_one _ _) (by omega) W (hw3.below hW))
  clear hs3 hw3 h
  go_enter Try.func23, Try.ntmps23
  go_upto_region 2 with fail
  refine abs_wp (fun X => Below w.heap.size w X ∧ Blk X w.heap.size 65 #[.slice As d.n cs, .slice Aw d.m cw, .int .i64 d.f, .bool d.dn, .int .i64 d.k] ∧ X.heap.size = w.heap.size + 1) ⟨bel_alloc (Below.refl _ _) _, Blk.new _ _ _, by simp⟩ ?_
  rintro X ⟨hbX, gX, hsX⟩
  have x0 := keepc hbX c0
  have x1 := keepc hbX c1
  have xl := Nat.lt_of_lt_of_le hl hbX.size
  clear c0 c1 c2 c3 c4 hb
  replace hbX := Lib.hid hbX
  replace gX := Lib.hid gX
  go_region_with (first
    | (go_at_call 33
       refine (cS.out _ hbX.out.drew).mono ?_
       rintro e3 w3 ⟨v3, rfl, ho3, hb3⟩
       obtain ⟨A3, c3, rfl⟩ := ho3.form
       have z1 : w3.cell? ⟨B, 1, none⟩ = some (.slice Aw d.m cw) := keepc hb3 x1
       have zl : B < w3.heap.size := Nat.lt_of_lt_of_le xl hb3.size
       have hb3' := Lib.hid (hbX.out.drew.trans (hb3.mono hbX.out.size))
       have g3 := Lib.hid (gX.out.drew.kept hb3)
       have hs3 := hb3.size
       replace ho3 := Lib.hid ho3
       clear hb3 cS)
    | (go_at_call 34
       refine (cW.out _ hb3'.out).mono ?_
       rintro e4 w4 ⟨v4, rfl, ho4, hb4⟩
       obtain ⟨A4, c4, rfl⟩ := ho4.form
       have hb4' := Lib.hid (hb3'.out.trans (hb4.mono hb3'.out.size))
       have g4 := Lib.hid (g3.out.kept hb4)
       have n0 := g4.out.cell 0
       have n1 := g4.out.cell 1
       have m0 := g4.out.frozen 0
       have m1 := g4.out.frozen 1
       have nl := g4.out.lt
       have ho3' := Lib.hid (ho3.out.kept hb4)
       have hs4 := hb4.size
       replace ho4 := Lib.hid ho4
       clear hb4 cW))
  all_goals (
    have htT := ((Tch.refl (fun k => k = w.heap.size) w4).set (p := ⟨w.heap.size, 0, none⟩) (fun _ => rfl) (.slice A3 d.n c3)).set (p := ⟨w.heap.size, 1, none⟩) (fun _ => rfl) (.slice A4 d.m c4)
    have hbB : Below w.heap.size w ((w4.setCell ⟨w.heap.size, 0, none⟩ (.slice A3 d.n c3)).setCell ⟨w.heap.size, 1, none⟩ (.slice A4 d.m c4)) := hb4'.out.trans (htT.below (by have := hb4'.out.size; exact this) (fun k h1 h2 => by omega))
    have l3 : ∀ b, (Value.slice A3 d.n c3).ownBlock = some b → X.heap.size ≤ b ∧ b < w3.heap.size := fun b x => ⟨(ho3.out.lt b x).1, OwnS.ltB ho3.out b x⟩
    have l4 : ∀ b, (Value.slice A4 d.m c4).ownBlock = some b → w3.heap.size ≤ b ∧ b < w4.heap.size := fun b x => ⟨(ho4.out.lt b x).1, OwnS.ltB ho4.out b x⟩
    have hszT := htT.size
    have hsX3 : X.heap.size ≤ w3.heap.size := hs3
    have hfin : Hid (DkIs ((w4.setCell ⟨w.heap.size, 0, none⟩ (.slice A3 d.n c3)).setCell ⟨w.heap.size, 1, none⟩ (.slice A4 d.m c4)) w.heap.size (fun k => w.heap.size ≤ k ∧ k < ((w4.setCell ⟨w.heap.size, 0, none⟩ (.slice A3 d.n c3)).setCell ⟨w.heap.size, 1, none⟩ (.slice A4 d.m c4)).heap.size) d) := Lib.hid ⟨_, _, Blk.set' (Blk.set' g4.out 0 _ rfl) 1 _ rfl, ho3'.out.base0.tch htT (fun b x y => by have := l3 b x; omega), ho4.out.base0.tch htT (fun b x y => by have := l4 b x; omega), ⟨Nat.le_refl _, by omega⟩, fun b x => by have := l3 b x; omega, fun b x => by have := l4 b x; omega, fun b x y => by have := l3 b x; have := l4 b y; omega, fun k hk => hk.2⟩
    clear htT g4 g3 ho3 ho3' ho4 n0 n1 m0 m1
    go_wp2_with fail
    go_ret
    exact ⟨w.heap.size, rfl, hfin.out, hbB⟩)
def updI (d : Nat → Int) (i : Nat) (x : Int) : Nat → Int := fun j => if j = i then x else d j
theorem bytesL_set {d : Nat → Int} {i : Nat} {x : Int} : (bytesL d).toArray.setIfInBounds i (.int .u8 x) = (bytesL (updI d i x)).toArray := by
  apply Array.ext'
  rw [Array.toList_setIfInBounds]
  show (bytesL d).set i (.int .u8 x) = bytesL (updI d i x)
  apply List.ext_getElem?
  intro j
  by_cases hj : j < 512
  · rw [bytesL_at _ hj, List.getElem?_set]
    unfold updI
    by_cases e : i = j
    · rw [if_pos e, if_pos e.symm, if_pos (by rw [bytesL_len]; omega)]
    · rw [if_neg e, if_neg (fun h => e h.symm), bytesL_at _ hj]
  · rw [List.getElem?_eq_none (by rw [List.length_set, bytesL_len]; omega), List.getElem?_eq_none (by rw [bytesL_len]; omega)]
/-- a row of 512 bytes -/
def RowB (w : World) (g : Nat) (d : Nat → Int) : Prop := Blk w g 5 (bytesL d).toArray
section
variable {w w' : World} {g : Nat} {d : Nat → Int}
theorem RowB.cell (h : RowB w g d) {i : Nat} (hi : i < 512) : w.cell? ⟨g, i, none⟩ = some (.int .u8 (d i)) := by
  rw [Blk.cell h i, List.getElem?_toArray, bytesL_at d hi]
theorem RowB.frozen (h : RowB w g d) (i : Nat) : w.frozen? ⟨g, i, none⟩ = false := Blk.frozen h i
theorem RowB.lt (h : RowB w g d) : g < w.heap.size := Blk.lt h
theorem RowB.kept (h : RowB w g d) (hb : Below w.heap.size w w') : RowB w' g d := Blk.kept h hb
theorem RowB.tch {S : Nat → Prop} (h : RowB w g d) (ht : Tch S w w') (hs : ¬ S g) : RowB w' g d := Blk.tch h ht hs
theorem RowB.set (h : RowB w g d) (i : Nat) (x : Int) : RowB (w.setCell ⟨g, i, none⟩ (.int .u8 x)) g (updI d i x) := Blk.set' h i _ bytesL_set
theorem RowB.congr {e : Nat → Int} (h : RowB w g d) (he : ∀ i, i < 512 → d i = e i) : RowB w g e := by
  unfold RowB at h ⊢
  rw [← bytesL_congr he]; exact h
theorem RowB.slis (h : RowB w g d) : SlIs w (some ⟨g, 0, none⟩) 512 (fun j => .int .u8 (d j)) := fun _ => ⟨g, 0, rfl, h.lt, fun j hj => by rw [Nat.zero_add]; exact h.cell hj⟩
end
def fullD (y m : Int) : Nat → Int := fun i => if i = 0 then m / 256 else if i = 1 then m % 256 else y
theorem run_mkB (W : World) : (Instr.makeSlice 39 (.int .i64 512) (.int .i64 512)).run Try.prog W = .ok (.slice (some ⟨W.heap.size, 0, none⟩) 512 512) (W.alloc (.cells (bytesL (fun _ => 0)).toArray 5)) := by
  obtain ⟨i0, hi0, hz0, hz1, hz2⟩ := info_parts info_u8
  have h := run_makeSlice (P := Try.prog) (w := W) 39 5 i0 _ Try.underlying39 hi0 hz0 .i64 .i64 512 512 (by omega) (by omega) (by rw [hz1]; decide) (by rw [hz2]; omega) (by omega)
  rw [h, hz1]
  have e : madeCells (Value.int .u8 0).cells ((512 : Int).toNat * 1) = (bytesL (fun _ => 0)).toArray := by
    apply Array.ext'
    apply List.ext_getElem?
    intro j
    show _ = (bytesL (fun _ => 0))[j]?
    have hsz : (madeCells (Value.int .u8 0).cells ((512 : Int).toNat * 1)).size = 512 := by simp [madeCells]
    by_cases hj : j < 512
    · rw [bytesL_at _ hj, Array.getElem?_toList, Array.getElem?_eq_getElem (by rw [hsz]; exact hj)]
      simp [madeCells, Value.cells, Nat.mod_one]
    · rw [List.getElem?_eq_none (by rw [Array.length_toList, hsz]; omega), List.getElem?_eq_none (by rw [bytesL_len]; omega)]
  rw [e]
  rfl
set_option maxRecDepth 8000 in
set_option maxHeartbeats 2000000 in
theorem full_any (y m : Int) (hm : 0 ≤ m ∧ m < 65536) (w : World) :
    Calls Try.prog 11 #[.int .u8 y, .int .u16 m] w fun r w' => ∃ g, r = .returned (.slice (some ⟨g, 0, none⟩) 512 512) ∧ RowB w' g (fullD y m) ∧ w.heap.size ≤ g ∧ Below w.heap.size w w' := by
  have hmk := run_mkB
  obtain ⟨m1, m2⟩ := hm
  go_enter Try.func11, Try.ntmps11
  go_upto_region 2 with fail
  refine abs_wp (fun X => Below w.heap.size w X ∧ RowB X w.heap.size (fun _ => 0)) ⟨bel_alloc (Below.refl _ _) _, Blk.new _ _ _⟩ ?_
  rintro X ⟨hbX, gX⟩
  replace hbX := Lib.hid hbX
  replace gX := Lib.hid gX
  clear hmk
  go_wp2_with fail
  go_loopw [10] (fun i wr => ∃ (j : Nat) (d : Nat → Int), j ≤ 512 ∧ i = .int .i64 j ∧ Hid (RowB wr w.heap.size d) ∧ Hid (∀ x, x < j → d x = y) ∧ Hid (Below w.heap.size w wr)) (fun i _ => 512 - (intOf i).toNat)
  case atStart => exact ⟨0, fun _ => 0, by omega, rfl, gX, Lib.hid (fun x h => by omega), hbX⟩
  case round =>
    clear hbX gX
    obtain ⟨j, d, hj, rfl, hR, hd, hb⟩ := hrel
    have hl := hR.out.lt
    by_cases hlt : j < 512
    · have cj := hR.out.cell hlt
      have fj := hR.out.frozen j
      go_wp2_with fail
      go_roundw
      case rel => exact ⟨j + 1, updI d j y, by omega, by go_num, Lib.hid (hR.out.set j y), Lib.hid (fun x hx => by unfold updI; split; rfl; exact hd.out x (by omega)), Lib.hid (by have := hb.out; (repeat (first | exact Below.refl _ _ | assumption | refine below_drewN ?_ _ | refine bel_grow ?_ _ | refine Below.drew ?_ | refine bel_alloc ?_ _ | refine bel_set ?_ (by first | exact Nat.le_refl _ | (simp; done) | (simp; omega) | omega) _ | refine bel_trans ?_ (by assumption))))⟩
      case measure => simp [intOf]; omega
    · obtain rfl : j = 512 := by omega
      have k0 := hR.out.cell (show 0 < 512 by omega)
      have k1 := hR.out.cell (show 1 < 512 by omega)
      have f0 := hR.out.frozen 0
      have f1 := hR.out.frozen 1
      have hfin : Hid (RowB ((wr.setCell ⟨w.heap.size, 0, none⟩ (.int .u8 (m / 256))).setCell ⟨w.heap.size, 1, none⟩ (.int .u8 (m % 256))) w.heap.size (fullD y m) ∧ Below w.heap.size w ((wr.setCell ⟨w.heap.size, 0, none⟩ (.int .u8 (m / 256))).setCell ⟨w.heap.size, 1, none⟩ (.int .u8 (m % 256)))) := Lib.hid (by
        refine ⟨((hR.out.set 0 (m / 256)).set 1 (m % 256)).congr (fun i hi => ?_), by have := hb.out; (repeat (first | exact Below.refl _ _ | assumption | refine below_drewN ?_ _ | refine bel_grow ?_ _ | refine Below.drew ?_ | refine bel_alloc ?_ _ | refine bel_set ?_ (by first | exact Nat.le_refl _ | (simp; done) | (simp; omega) | omega) _ | refine bel_trans ?_ (by assumption)))⟩
        unfold updI fullD
        by_cases e0 : i = 0
        · subst e0; rfl
        · by_cases e1 : i = 1
          · subst e1; rfl
          · rw [if_neg e1, if_neg e0, if_neg e0, if_neg e1]; exact hd.out i (by omega))
      clear hR hd hb
      go_wp2_with fail
      go_ret
      exact ⟨w.heap.size, rfl, hfin.out.1, Nat.le_refl _, hfin.out.2⟩
end Go.Proofs.Ytnbfnlpepnbppaa
