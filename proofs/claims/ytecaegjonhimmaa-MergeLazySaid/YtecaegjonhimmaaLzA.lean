/-
  MergeLazy's source: the function that counts what is taken, walked.
-/
import Derived.Test.YtecaegjonhimmaaMgW
namespace Go.Proofs.Ytecaegjonhimmaa
set_option linter.unusedVariables false
set_option linter.unusedSimpArgs false
open Go.RowKit Go.Shelf

def sideX (x : Nat → Int) (i : Nat) : Nat → Int := fun k => if k = 3 then (i : Int) else x k
theorem SrcIs.kept {w w' : World} {bx rb : Nat} {l : List (Nat → Int)} (h : SrcIs w bx rb l) (hb : Below w.heap.size w w') : SrcIs w' bx rb l := h.tch (S := fun _ => False) (tch_of hb _) id id
theorem itV_side (x : Nat → Int) (i : Nat) : itV (sideX x i) = .agg #[.int .u64 (x 0), .int .u64 (x 1), .int .u64 (x 2), .int .u8 i] := rfl
set_option maxHeartbeats 4000000 in
theorem lz_any (K nb ib tb tk bx rb i : Nat) (l : List (Nat → Int)) (p : Nat → Nat) (hi : i < K) (hK : K ≤ 20) (hp : p i ≤ 1000) (w : World) (hn : Blk w nb 36 #[srcV bx]) (hib : Blk w ib 3 #[.int .i64 i]) (htb : Blk w tb 49 #[.slice (some ⟨tk, 0, none⟩) K K]) (htk : NRow w tk K p) (hs : SrcIs w bx rb l) (hrb : rb < w.heap.size) (e1 : bx ≠ tk) (e2 : rb ≠ tk) (e4 : ib ≠ bx) (e5 : ib ≠ tk) (e6 : tb ≠ bx) (e7 : tb ≠ tk) :
    Calls Try.prog 17 #[.pointer (some ⟨nb, 0, none⟩), .pointer (some ⟨tb, 0, none⟩), .pointer (some ⟨ib, 0, none⟩)] w fun r w' => r = .returned (.tuple #[itV (sideX (atL l 0) i), .bool (decide (0 < l.length))]) ∧ SrcIs w' bx rb (l.drop 1) ∧ NRow w' tk K (if 0 < l.length then updN p i (p i + 1) else p) ∧ Tch (fun k => k = bx ∨ k = tk) w w' := by
  have cO := Lib.hid (fun W (hW : Below w.heap.size w W) => of1_any bx rb l W (hs.kept hW))
  have nbl := hn.lt
  have n0 : w.cell? ⟨nb, 0, none⟩ = some (.func (.func 22) #[] #[.pointer (some ⟨bx, 0, none⟩)]) := Blk.cell hn 0
  have hbl := hs.lt
  have tkl := htk.lt
  have tbl := htb.lt
  have ibl := hib.lt
  replace hib := Lib.hid hib
  replace htb := Lib.hid htb
  replace htk := Lib.hid htk
  clear hn hs
  go_enter Try.func17, Try.ntmps17
  go_wp2_with fail
  refine (cO.out _ (bel_alloc (Below.refl _ _) _)).mono ?_
  rintro e2 w2 ⟨rfl, hs2, ht2⟩
  have hR2 := (Blk.new w 34 #[.int .u64 0, .int .u64 0, .int .u64 0, .int .u8 0]).tch ht2 (by omega)
  have hi2 := (hib.out.alloc _).tch ht2 e4
  have ht2b := (htb.out.alloc _).tch ht2 e6
  have hk2 : NRow w2 tk K p := (htk.out.kept (bel_alloc (Below.refl _ _) _)).tch ht2 (Ne.symm e1)
  have hsz := ht2.size
  simp at hsz
  have htc := Lib.hid ((tch_of (bel_alloc (Below.refl _ w) _) (fun k => k = bx)).trans2 ht2 (fun k _ h => h))
  replace hs2 := Lib.hid hs2
  clear ht2 cO
  obtain ⟨x, hx⟩ : ∃ x, x = atL l 0 := ⟨_, rfl⟩
  rw [← hx]
  replace hx := Lib.hid hx
  unfold itV
  go_upto_region 2 with fail
  refine abs_wp (fun Y => Below w2.heap.size w2 Y ∧ Blk Y w2.heap.size 34 #[.int .u64 (x 0), .int .u64 (x 1), .int .u64 (x 2), .int .u8 (x 3)]) ⟨bel_alloc (Below.refl _ _) _, Blk.new _ _ _⟩ ?_
  rintro Y ⟨hbY, gY⟩
  have hszY := hbY.size
  have qR := hR2.kept hbY
  have qi := (hi2.kept hbY).cell 0
  have qt := (ht2b.kept hbY).cell 0
  have qk := (hk2.kept hbY)
  have qkc := qk.cell hi
  have qkf := qk.frozen i
  have qkl := qk.lt
  have gYl := gY.lt
  have y0 := (gY).cell 0
  have y1 := (gY).cell 1
  have y2 := (gY).cell 2
  have y3 := (gY).cell 3
  have yf0 := (gY).frozen 0
  have yf1 := (gY).frozen 1
  have yf2 := (gY).frozen 2
  have yf3 := (gY).frozen 3
  have yl := (gY).lt
  have q0 := (qR).cell 0
  have q1 := (qR).cell 1
  have q2 := (qR).cell 2
  have q3 := (qR).cell 3
  have qf0 := (qR).frozen 0
  have qf1 := (qR).frozen 1
  have qf2 := (qR).frozen 2
  have qf3 := (qR).frozen 3
  have ql := (qR).lt
  replace qk := Lib.hid qk
  replace qR := Lib.hid qR
  replace gY := Lib.hid gY
  replace hbY := Lib.hid hbY
  clear hR2 hi2 ht2b hk2
  by_cases hl : 0 < l.length
  · have kd : decide (0 < l.length) = true := decide_eq_true hl
    rw [kd]
    go_wp2_with fail
    refine abs_post (fun Z => Tch (fun k => k = tk ∨ w.heap.size ≤ k) Y Z ∧ NRow Z tk K (updN p i (p i + 1)) ∧ Blk Z w.heap.size 34 #[.int .u64 (x 0), .int .u64 (x 1), .int .u64 (x 2), .int .u8 i]) ⟨((((((Tch.refl _ Y).set (p := ⟨tk, i, none⟩) (fun _ => Or.inl rfl) _).set (p := ⟨w2.heap.size, 3, none⟩) (fun _ => Or.inr (by dsimp only; omega)) _).set (p := ⟨w.heap.size, 0, none⟩) (fun _ => Or.inr (Nat.le_refl _)) _).set (p := ⟨w.heap.size, 1, none⟩) (fun _ => Or.inr (Nat.le_refl _)) _).set (p := ⟨w.heap.size, 2, none⟩) (fun _ => Or.inr (Nat.le_refl _)) _).set (p := ⟨w.heap.size, 3, none⟩) (fun _ => Or.inr (Nat.le_refl _)) _, ?hN, ?hR⟩ ?_
    case hN =>
      have hN : NRow (Y.setCell ⟨tk, i, none⟩ (.int .i64 ((p i : Int) + 1))) tk K (updN p i (p i + 1)) := by
        have := qk.out.set i (p i + 1)
        rw [show ((p i + 1 : Nat) : Int) = (p i : Int) + 1 by omega] at this
        exact this
      exact Blk.far (Blk.far (Blk.far (Blk.far (Blk.far hN (by dsimp only; omega) _) (by dsimp only; omega) _) (by dsimp only; omega) _) (by dsimp only; omega) _) (by dsimp only; omega) _
    case hR =>
      have qR' := ((((((qR.out.far (p := ⟨tk, i, none⟩) (by dsimp only; omega) (.int .i64 ((p i : Int) + 1))).far (p := ⟨w2.heap.size, 3, none⟩) (by dsimp only; omega) (.int .u8 i)).set_ 0 (.int .u64 (x 0))).set_ 1 (.int .u64 (x 1))).set_ 2 (.int .u64 (x 2))).set_ 3 (.int .u8 i))
      simpa using qR'
    rintro Z ⟨hTZ, hNZ, hRZ⟩
    have HLV := loadVar_blk (ty := 34) Try.underlying34 rfl (by kernel_rfl) hRZ rfl
    have hS2 := hs2.out
    rw [List.drop_one] at hS2
    refine bodyPost_ret (v := .tuple #[.agg #[.int .u64 (x 0), .int .u64 (x 1), .int .u64 (x 2), .int .u8 i], .bool true]) (results_ct Try.results17 rfl HLV) rfl ⟨by rw [← hx.out]; rfl, (hS2.kept hbY.out).tch hTZ (fun h => ?_) (fun h => ?_), hNZ, ((htc.out.mono (fun k _ h => Or.inl h)).trans2 (tch_of hbY.out (fun _ => False)) (fun k _ h => h.elim)).trans2 hTZ (fun k hk h => ?_)⟩
    · rcases h with h | h
      · exact e1 h
      · omega
    · rcases h with h | h
      · exact e2 h
      · omega
    · rcases h with h | h
      · exact Or.inr h
      · omega
  · have kd : decide (0 < l.length) = false := decide_eq_false hl
    rw [kd]
    go_wp2_with fail
    refine abs_post (fun Z => Tch (fun k => k = tk ∨ w.heap.size ≤ k) Y Z ∧ NRow Z tk K (p) ∧ Blk Z w.heap.size 34 #[.int .u64 (x 0), .int .u64 (x 1), .int .u64 (x 2), .int .u8 i]) ⟨(((((Tch.refl _ Y).set (p := ⟨w2.heap.size, 3, none⟩) (fun _ => Or.inr (by dsimp only; omega)) _).set (p := ⟨w.heap.size, 0, none⟩) (fun _ => Or.inr (Nat.le_refl _)) _).set (p := ⟨w.heap.size, 1, none⟩) (fun _ => Or.inr (Nat.le_refl _)) _).set (p := ⟨w.heap.size, 2, none⟩) (fun _ => Or.inr (Nat.le_refl _)) _).set (p := ⟨w.heap.size, 3, none⟩) (fun _ => Or.inr (Nat.le_refl _)) _, ?hN, ?hR⟩ ?_
    case hN =>
      have hN := qk.out
      exact Blk.far (Blk.far (Blk.far (Blk.far (Blk.far hN (by dsimp only; omega) _) (by dsimp only; omega) _) (by dsimp only; omega) _) (by dsimp only; omega) _) (by dsimp only; omega) _
    case hR =>
      have qR' := (((((qR.out.far (p := ⟨w2.heap.size, 3, none⟩) (by dsimp only; omega) (.int .u8 i)).set_ 0 (.int .u64 (x 0))).set_ 1 (.int .u64 (x 1))).set_ 2 (.int .u64 (x 2))).set_ 3 (.int .u8 i))
      simpa using qR'
    rintro Z ⟨hTZ, hNZ, hRZ⟩
    have HLV := loadVar_blk (ty := 34) Try.underlying34 rfl (by kernel_rfl) hRZ rfl
    have hS2 := hs2.out
    rw [List.drop_one] at hS2
    refine bodyPost_ret (v := .tuple #[.agg #[.int .u64 (x 0), .int .u64 (x 1), .int .u64 (x 2), .int .u8 i], .bool false]) (results_ct Try.results17 rfl HLV) rfl ⟨by rw [← hx.out]; rfl, (hS2.kept hbY.out).tch hTZ (fun h => ?_) (fun h => ?_), hNZ, ((htc.out.mono (fun k _ h => Or.inl h)).trans2 (tch_of hbY.out (fun _ => False)) (fun k _ h => h.elim)).trans2 hTZ (fun k hk h => ?_)⟩
    · rcases h with h | h
      · exact e1 h
      · omega
    · rcases h with h | h
      · exact e2 h
      · omega
    · rcases h with h | h
      · exact Or.inr h
      · omega
end Go.Proofs.Ytecaegjonhimmaa
