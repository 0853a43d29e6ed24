/-
  node.leaf, walked.
-/
import Derived.Test.YtbmdnifkjcimcaaNr
namespace Go.Proofs.Ytbmdnifkjcimcaa
set_option linter.unusedVariables false
set_option linter.unusedSimpArgs false
open Go.RowKit

theorem info_sl : (Try.prog.info? 29).map (fun i => (i.zero, i.size, i.bytes)) = some (some (.slice none 0 0), 1, 24) := by kernel_rfl
set_option maxRecDepth 8000 in
set_option maxHeartbeats 8000000 in
theorem leaf_yes (B : Option Addr) (l c count k v : Nat) (y : Nat → Int) (w : World) (hl : l = count * (k + v)) (hl5 : l ≤ 498) (hk : 1 ≤ k ∧ k ≤ 24) (hv : v ≤ 108) (hlc : l ≤ c) (hc : c ≤ maxLen) (hs : SlIs w B l (yV y)) :
    Calls Try.prog 36 #[.slice B l c, .int .i64 count, .int .i64 k, .int .i64 v] w fun e w' => ∃ A1 c1 A2 c2, e = .returned (.tuple #[.agg #[.bool true, .slice A1 count c1, .slice A2 count c2, .slice none 0 0], .bool true]) ∧
      (∀ Z, Above w.heap.size w' Z → RsIs Z A1 count (fun _ => k) (fun i => shf y (i * (k + v))) ∧ RsIs Z A2 count (fun _ => v) (fun i => shf y (i * (k + v) + k))) ∧ Below w.heap.size w w' := by
  have hcount : count ≤ 498 := by
    have : count * 1 ≤ count * (k + v) := Nat.mul_le_mul_left _ (by omega)
    omega
  have hmul : ((count : Int) * ((k : Int) + v)) = (l : Int) := by rw [hl]; push_cast; rfl
  have HT := Lib.hid (fun w => taker_any B l c w)
  have d1 : ((l : Int) != wrap64 ((count : Int) * ((k : Int) + v))) = false := by
    rw [hmul]
    have : wrap64 (l : Int) = l := by unfold wrap64; omega
    rw [this]; simp
  have hb0 := Below.refl w.heap.size w
  obtain ⟨KK, hKK⟩ : ∃ KK : Nat → Nat → Int, KK = fun i => shf y (i * (k + v)) := ⟨_, rfl⟩
  obtain ⟨KV, hKV⟩ : ∃ KV : Nat → Nat → Int, KV = fun i => shf y (i * (k + v) + k) := ⟨_, rfl⟩
  rw [← hKK, ← hKV]
  replace hKK := Lib.hid hKK
  replace hKV := Lib.hid hKV
  replace hs := Lib.hid hs
  replace hl := Lib.hid hl
  replace hmul := Lib.hid hmul
  replace hc := Lib.hid hc
  go_enter Try.func36, Try.ntmps36
  go_wp2_with fail
  refine (HT.out _).mono ?_
  rintro e1 w1 ⟨rfl, rfl⟩
  go_upto_region 5 with fail
  replace hb0 := Lib.hid hb0
  refine abs_wp (fun Y_ => Below w.heap.size w Y_ ∧ Blk Y_ (w.heap.size) 28 #[.bool false, .slice none 0 0, .slice none 0 0, .slice none 0 0] ∧ Blk Y_ (w.heap.size + 1) 28 #[.bool true, .slice none 0 0, .slice none 0 0, .slice none 0 0] ∧ Blk Y_ (w.heap.size + 1 + 1) 29 #[.slice B l c]) ?_ ?_
  · have t_B := hb0.out
    refine ⟨by (repeat (first | with_reducible exact Below.refl _ _ | with_reducible assumption | (with_reducible refine bel_set ?_ (by first | exact Nat.le_refl _ | (simp; done) | (simp; omega) | omega) _) | with_reducible refine bel_grow ?_ _ | with_reducible refine Below.drew ?_ | with_reducible refine bel_alloc ?_ _ | with_reducible refine bel_eld ?_ (by assumption))), ?_, ?_, ?_⟩
    · (repeat (first | with_reducible assumption | (with_reducible refine Blk.new' ?_; first | with_reducible rfl | (simp; done)) | with_reducible refine Blk.alloc ?_ _ | with_reducible refine Blk.grow ?_ _ | with_reducible refine Blk.drew ?_ | with_reducible refine Blk.drewN ?_ _ | (with_reducible refine Blk.far ?_ (by first | (dsimp only; omega) | (simp; omega)) _) | (with_reducible apply Blk.two) | (with_reducible refine Blk.kept ?_ (by assumption)) | (with_reducible refine Blk.setRow ?_ (by first | rfl | (simp; done))) | (with_reducible refine Blk.setRow_far ?_ (by first | omega | (simp; omega)) _) | (with_reducible refine Blk.set' ?_ _ _ (by first | rfl | (simp; done)))))
    · (repeat (first | with_reducible assumption | (with_reducible refine Blk.new' ?_; first | with_reducible rfl | (simp; done)) | with_reducible refine Blk.alloc ?_ _ | with_reducible refine Blk.grow ?_ _ | with_reducible refine Blk.drew ?_ | with_reducible refine Blk.drewN ?_ _ | (with_reducible refine Blk.far ?_ (by first | (dsimp only; omega) | (simp; omega)) _) | (with_reducible apply Blk.two) | (with_reducible refine Blk.kept ?_ (by assumption)) | (with_reducible refine Blk.setRow ?_ (by first | rfl | (simp; done))) | (with_reducible refine Blk.setRow_far ?_ (by first | omega | (simp; omega)) _) | (with_reducible refine Blk.set' ?_ _ _ (by first | rfl | (simp; done)))))
    · (repeat (first | with_reducible assumption | (with_reducible refine Blk.new' ?_; first | with_reducible rfl | (simp; done)) | with_reducible refine Blk.alloc ?_ _ | with_reducible refine Blk.grow ?_ _ | with_reducible refine Blk.drew ?_ | with_reducible refine Blk.drewN ?_ _ | (with_reducible refine Blk.far ?_ (by first | (dsimp only; omega) | (simp; omega)) _) | (with_reducible apply Blk.two) | (with_reducible refine Blk.kept ?_ (by assumption)) | (with_reducible refine Blk.setRow ?_ (by first | rfl | (simp; done))) | (with_reducible refine Blk.setRow_far ?_ (by first | omega | (simp; omega)) _) | (with_reducible refine Blk.set' ?_ _ _ (by first | rfl | (simp; done)))))
  clear hb0
  rintro X ⟨hB_1, f_a, f_n, f_p⟩
  have a_0 : X.cell? ⟨w.heap.size, 0, none⟩ = some (.bool false) := (f_a).cell 0
  have a_1 : X.cell? ⟨w.heap.size, 1, none⟩ = some (.slice none 0 0) := (f_a).cell 1
  have a_2 : X.cell? ⟨w.heap.size, 2, none⟩ = some (.slice none 0 0) := (f_a).cell 2
  have a_3 : X.cell? ⟨w.heap.size, 3, none⟩ = some (.slice none 0 0) := (f_a).cell 3
  have a_f0 := (f_a).frozen 0
  have a_f1 := (f_a).frozen 1
  have a_f2 := (f_a).frozen 2
  have a_f3 := (f_a).frozen 3
  have a_l := (f_a).lt
  replace f_a := Lib.hid f_a
  have n_0 : X.cell? ⟨w.heap.size + 1, 0, none⟩ = some (.bool true) := (f_n).cell 0
  have n_1 : X.cell? ⟨w.heap.size + 1, 1, none⟩ = some (.slice none 0 0) := (f_n).cell 1
  have n_2 : X.cell? ⟨w.heap.size + 1, 2, none⟩ = some (.slice none 0 0) := (f_n).cell 2
  have n_3 : X.cell? ⟨w.heap.size + 1, 3, none⟩ = some (.slice none 0 0) := (f_n).cell 3
  have n_f0 := (f_n).frozen 0
  have n_f1 := (f_n).frozen 1
  have n_f2 := (f_n).frozen 2
  have n_f3 := (f_n).frozen 3
  have n_l := (f_n).lt
  replace f_n := Lib.hid f_n
  have p_0 : X.cell? ⟨w.heap.size + 1 + 1, 0, none⟩ = some (.slice B l c) := (f_p).cell 0
  have p_f0 := (f_p).frozen 0
  have p_l := (f_p).lt
  replace f_p := Lib.hid f_p
  replace hB_1 := Lib.hid hB_1
  have hnX : Hid (w.heap.size + 1 < X.heap.size) := Lib.hid n_l
  have hgX : Hid (w.heap.size + 1 + 1 < X.heap.size) := Lib.hid p_l
  clear a_0 a_1 a_2 a_3 a_f0 a_f1 a_f2 a_f3 n_0 n_1 n_2 n_3 n_f0 n_f1 n_f2 n_f3 p_0 p_f0 a_l n_l p_l
  go_wp2_with fail
  go_loopw [25] (fun i wr => ∃ (m : Nat) (a b : Value) (B1 : Option Addr) (r c1 : Nat), m ≤ count ∧ i = .int .i64 m ∧ Hid (r + m * (k + v) = l ∧ r ≤ c1 ∧ c1 ≤ maxLen) ∧ Hid (Two wr X.heap.size a m k KK b m v KV) ∧ Hid (Blk wr (w.heap.size + 1) 28 #[.bool true, a, b, .slice none 0 0]) ∧ Hid (Blk wr (w.heap.size + 1 + 1) 29 #[.slice B1 r c1]) ∧ Hid (Blk wr w.heap.size 28 #[.bool false, .slice none 0 0, .slice none 0 0, .slice none 0 0]) ∧ Hid (Below w.heap.size w wr) ∧ Hid (X.heap.size ≤ wr.heap.size) ∧ Hid (SlIs w B1 r (yV (shf y (m * (k + v)))))) (fun i _ => count - (intOf i).toNat)
  case atStart => exact ⟨0, .slice none 0 0, .slice none 0 0, B, l, c, by omega, rfl, ⟨by omega, hlc, hc.out⟩, Two.nil _ _ _ _ _ _, f_n.out, f_p.out, f_a.out, hB_1.out, Nat.le_refl _, by
    show SlIs w B l _
    refine hs.out.congr (fun i hi => ?_)
    unfold yV shf; simp⟩
  case round =>
    clear f_n f_p f_a hB_1
    obtain ⟨m, a, b, B1, r, c1, hm, rfl, hrr, hTwo, hQN, hQG, hQR, hbw, hZ, hS1⟩ := hrel
    by_cases hlt : m < count
    · have hkv : k + v ≤ r := by
        have h1 := hrr.out.1
        have h2 := hl.out
        have h3 : (m + 1) * (k + v) ≤ count * (k + v) := Nat.mul_le_mul_right _ (by omega)
        rw [Nat.succ_mul] at h3
        omega
      have hrl : r ≤ l := by have h1 := hrr.out.1; omega
      have hrc1 := hrr.out.2.1
      have hk7 : Hid (k ≤ r) := Lib.hid (by omega)
      have hrc7 : Hid (r ≤ c1) := Lib.hid hrc1
      have hcm7 : Hid (c1 ≤ maxLen) := Lib.hid hrr.out.2.2
      have hr67 : Hid (r ≤ 1000000) := Lib.hid (by omega)
      have hk8 : Hid (v ≤ r - k) := Lib.hid (by omega)
      have hrc8 : Hid (r - k ≤ c1 - k) := Lib.hid (by omega)
      have hcm8 : Hid (c1 - k ≤ maxLen) := Lib.hid (by have := hrr.out.2.2; omega)
      have hr68 : Hid (r - k ≤ 1000000) := Lib.hid (by omega)
      have hKKm : Hid (KK m = shf y (m * (k + v))) := by rw [hKK.out]; exact Lib.hid rfl
      have hKVm : Hid (KV m = shf (shf y (m * (k + v))) k) := by rw [hKV.out, shf_shf]; exact Lib.hid rfl
      have hend : Hid (r - k - v + (m + 1) * (k + v) = l ∧ r - k - v ≤ c1 - k - v ∧ c1 - k - v ≤ maxLen) := Lib.hid ⟨by rw [Nat.succ_mul]; have h1 := hrr.out.1; omega, by omega, by have := hrr.out.2.2; omega⟩
      clear hrr hkv hrl hrc1
      obtain ⟨U, U', h1, h2, h3, h4, h5⟩ := hTwo.out
      have h1d : OwnV wr.drew X.heap.size 29 a m U := h1
      have h2d : ∀ i, i < m → OwnB wr.drew X.heap.size (U i) k (KK i) := h2
      have h3d : OwnV wr.drew X.heap.size 29 b m U' := h3
      have h4d : ∀ i, i < m → OwnB wr.drew X.heap.size (U' i) v (KV i) := h4
      clear h1 h2 h3 h4
      replace h1d := Lib.hid h1d
      replace h2d := Lib.hid h2d
      replace h3d := Lib.hid h3d
      replace h4d := Lib.hid h4d
      replace h5 := Lib.hid h5
      have x0 := (hQN.out).cell 0
      have x1 := (hQN.out).cell 1
      have x2 := (hQN.out).cell 2
      have x3 := (hQN.out).cell 3
      have xf0 := (hQN.out).frozen 0
      have xf1 := (hQN.out).frozen 1
      have xf2 := (hQN.out).frozen 2
      have xf3 := (hQN.out).frozen 3
      have xl := (hQN.out).lt
      go_upto_region 7 with fail
      go_region_law (first
        | (go_simp; go_at_call 47; refine (take_any w B1 r c1 k (shf y (m * (k + v))) (w.heap.size + 1 + 1) _ hk7.out hrc7.out hcm7.out hr67.out hS1.out (Below.drew hbw.out) (Blk.drew hQG.out)).mono ?_; rintro e9 w9 ⟨x9, B7, w87, rfl, hx9, hs9, hb8, rfl⟩; have hx9s := hx9.byS; obtain ⟨A9, c9, rfl, _, _, _⟩ := hx9s; have kn8 : Blk w87 (w.heap.size + 1) 28 #[.bool true, a, b, .slice none 0 0] := (Blk.drew hQN.out).kept hb8; have kg8 : Blk w87 (w.heap.size + 1 + 1) 29 #[.slice B1 r c1] := (Blk.drew hQG.out).kept hb8; have y0 : w87.cell? ⟨w.heap.size + 1, 1, none⟩ = some a := kn8.cell 1; have yf := kn8.frozen 1; have yl := kn8.lt; replace kn8 := Lib.hid kn8; replace kg8 := Lib.hid kg8; replace hx9 := Lib.hid hx9; replace hs9 := Lib.hid hs9; replace hb8 := Lib.hid hb8)
        | (refine step_appV2 (x := .slice A9 k c9) rfl (.tmp 28) (.tmp 32) (t := 25) (e := 29) Try.underlying25 info_sl rfl (by omega) rfl rfl rfl (OwnV.kept (OwnV.far (p := ⟨(w.heap.size + 1 + 1), 0, none⟩) (OwnV.kept (OwnV.updF h1d.out (.slice A9 k c9)) hb8.out) hgX.out _) (bel_alloc (Below.refl _ _) _)) ((Blk.new' (by simp)).cell 0) (updF_self U m (.slice A9 k c9)) rfl (by omega) (by have z1 := hZ.out; have z2 := hb8.out.size; have z3 : wr.drew.heap.size = wr.heap.size := rfl; simp; omega) ?_; intro vv w7 ho1 hgr hor; obtain ⟨AN7, cN7, rfl, _, _, _⟩ := OwnV.slis ho1; have hsz8 : X.heap.size ≤ ((w87.setCell ⟨(w.heap.size + 1 + 1), 0, none⟩ (.slice B7 (r - k) (c1 - k))).alloc (.cells #[.slice A9 k c9] 29)).heap.size := (by have z1 := hZ.out; have z2 := hb8.out.size; have z3 : wr.drew.heap.size = wr.heap.size := rfl; simp; omega); have hb1 := Below.grown (Below.refl X.heap.size _) hgr hsz8 (fun j hj => (h1d.out.lt j hj).1); have kn1 : Blk w7 (w.heap.size + 1) 28 #[.bool true, a, b, .slice none 0 0] := Blk.lowb (Blk.alloc (Blk.far kn8.out (by dsimp only; omega) _) _) hb1 hnX.out; have y1 : w7.cell? ⟨w.heap.size + 1, 1, none⟩ = some a := kn1.cell 1; have y1f := kn1.frozen 1; have y1l := kn1.lt; replace kn1 := Lib.hid kn1; replace ho1 := Lib.hid ho1; replace hgr := Lib.hid hgr; replace hor := Lib.hid hor; replace hb1 := Lib.hid hb1; replace hsz8 := Lib.hid hsz8))
      all_goals (
        go_upto_region 8 with fail
        have hxc : OwnB w87 wr.drew.heap.size (.slice A9 k c9) k (KK m) := by rw [hKKm.out]; exact hx9.out
        have T7 := Lib.hid (Two.next (g := w.heap.size + 1 + 1) (n0 := w.heap.size + 1) (j := 1) h1d.out h2d.out h3d.out h4d.out h5.out hb8.out hxc hZ.out kg8.out (by decide) hgX.out ho1.out hgr.out hor.out kn1.out (by decide) hnX.out (.slice AN7 (m + 1) cN7))
        have QN7 := Lib.hid (show Blk (w7.setCell ⟨w.heap.size + 1, 1, none⟩ (.slice AN7 (m + 1) cN7)) (w.heap.size + 1) 28 #[.bool true, .slice AN7 (m + 1) cN7, b, .slice none 0 0] from Blk.set' kn1.out 1 (.slice AN7 (m + 1) cN7) rfl)
        have QG7 := Lib.hid (show Blk (w7.setCell ⟨w.heap.size + 1, 1, none⟩ (.slice AN7 (m + 1) cN7)) (w.heap.size + 1 + 1) 29 #[.slice B7 (r - k) (c1 - k)] from Blk.far (Blk.lowb (Blk.alloc (Blk.set' kg8.out 0 _ rfl) _) hb1.out hgX.out) (by dsimp only; omega) _)
        have QR7 := Lib.hid (show Blk (w7.setCell ⟨w.heap.size + 1, 1, none⟩ (.slice AN7 (m + 1) cN7)) w.heap.size 28 #[.bool false, .slice none 0 0, .slice none 0 0, .slice none 0 0] from Blk.far (Blk.lowb (Blk.alloc (Blk.far ((Blk.drew hQR.out).kept hb8.out) (by dsimp only; omega) _) _) hb1.out (by have := hnX.out; omega)) (by dsimp only; omega) _)
        have BB7 : Hid (Below w.heap.size w (w7.setCell ⟨w.heap.size + 1, 1, none⟩ (.slice AN7 (m + 1) cN7))) := by
          have t1 : Below w.heap.size w w87 := bel_eld (Below.drew hbw.out) hb8.out
          have t2 : Below w.heap.size w ((w87.setCell ⟨w.heap.size + 1 + 1, 0, none⟩ (.slice B7 (r - k) (c1 - k))).alloc (.cells #[.slice A9 k c9] 29)) := bel_alloc (bel_set t1 (by dsimp only; omega) _) _
          exact bel_set (t2.trans (hb1.out.mono (by have := hnX.out; omega))) (by dsimp only; omega) _
        have ZZ7 : Hid (X.heap.size ≤ (w7.setCell ⟨w.heap.size + 1, 1, none⟩ (.slice AN7 (m + 1) cN7)).heap.size) := by
          have t1 := hb1.out.size
          have t2 := hsz8.out
          show _ ≤ _
          simp at t1 t2 ⊢
          omega
        have SS7 := hs9
        clear h1d h2d h3d h4d h5 hb8 hx9 hs9 kg8 kn8 ho1 hgr hor kn1 hb1 hsz8 hxc x0 x1 x2 x3 xf0 xf1 xf2 xf3 xl y0 yf yl y1 y1f y1l
        generalize w7.setCell ⟨w.heap.size + 1, 1, none⟩ (.slice AN7 (m + 1) cN7) = w2 at *
        obtain ⟨U, U', h1, h2, h3, h4, h5⟩ := T7.out.swap
        have h1d : OwnV w2.drew X.heap.size 29 b m U := h1
        have h2d : ∀ i, i < m → OwnB w2.drew X.heap.size (U i) v (KV i) := h2
        have h3d : OwnV w2.drew X.heap.size 29 (.slice AN7 (m + 1) cN7) (m + 1) U' := h3
        have h4d : ∀ i, i < (m + 1) → OwnB w2.drew X.heap.size (U' i) k (KK i) := h4
        clear h1 h2 h3 h4
        replace h1d := Lib.hid h1d
        replace h2d := Lib.hid h2d
        replace h3d := Lib.hid h3d
        replace h4d := Lib.hid h4d
        replace h5 := Lib.hid h5
        have x0 := (QN7.out).cell 0
        have x1 := (QN7.out).cell 1
        have x2 := (QN7.out).cell 2
        have x3 := (QN7.out).cell 3
        have xf0 := (QN7.out).frozen 0
        have xf1 := (QN7.out).frozen 1
        have xf2 := (QN7.out).frozen 2
        have xf3 := (QN7.out).frozen 3
        have xl := (QN7.out).lt
        go_upto_region 8 with fail
        go_region_law (first
          | (go_simp; go_at_call 47; refine (take_any w B7 (r - k) (c1 - k) v (shf (shf y (m * (k + v))) k) (w.heap.size + 1 + 1) _ hk8.out hrc8.out hcm8.out hr68.out SS7.out (Below.drew BB7.out) (Blk.drew QG7.out)).mono ?_; rintro e9 w9 ⟨x9, B8, w89, rfl, hx9, hs9, hb8, rfl⟩; have hx9s := hx9.byS; obtain ⟨A9, c9, rfl, _, _, _⟩ := hx9s; have kn8 : Blk w89 (w.heap.size + 1) 28 #[.bool true, .slice AN7 (m + 1) cN7, b, .slice none 0 0] := (Blk.drew QN7.out).kept hb8; have kg8 : Blk w89 (w.heap.size + 1 + 1) 29 #[.slice B7 (r - k) (c1 - k)] := (Blk.drew QG7.out).kept hb8; have y0 : w89.cell? ⟨w.heap.size + 1, 2, none⟩ = some b := kn8.cell 2; have yf := kn8.frozen 2; have yl := kn8.lt; replace kn8 := Lib.hid kn8; replace kg8 := Lib.hid kg8; replace hx9 := Lib.hid hx9; replace hs9 := Lib.hid hs9; replace hb8 := Lib.hid hb8)
          | (refine step_appV2 (x := .slice A9 v c9) rfl (.tmp 36) (.tmp 40) (t := 25) (e := 29) Try.underlying25 info_sl rfl (by omega) rfl rfl rfl (OwnV.kept (OwnV.far (p := ⟨(w.heap.size + 1 + 1), 0, none⟩) (OwnV.kept (OwnV.updF h1d.out (.slice A9 v c9)) hb8.out) hgX.out _) (bel_alloc (Below.refl _ _) _)) ((Blk.new' (by simp)).cell 0) (updF_self U m (.slice A9 v c9)) rfl (by omega) (by have z1 := ZZ7.out; have z2 := hb8.out.size; have z3 : w2.drew.heap.size = w2.heap.size := rfl; simp; omega) ?_; intro vv wq ho1 hgr hor; obtain ⟨AN8, cN8, rfl, _, _, _⟩ := OwnV.slis ho1; have hsz8 : X.heap.size ≤ ((w89.setCell ⟨(w.heap.size + 1 + 1), 0, none⟩ (.slice B8 ((r - k) - v) ((c1 - k) - v))).alloc (.cells #[.slice A9 v c9] 29)).heap.size := (by have z1 := ZZ7.out; have z2 := hb8.out.size; have z3 : w2.drew.heap.size = w2.heap.size := rfl; simp; omega); have hb1 := Below.grown (Below.refl X.heap.size _) hgr hsz8 (fun j hj => (h1d.out.lt j hj).1); have kn1 : Blk wq (w.heap.size + 1) 28 #[.bool true, .slice AN7 (m + 1) cN7, b, .slice none 0 0] := Blk.lowb (Blk.alloc (Blk.far kn8.out (by dsimp only; omega) _) _) hb1 hnX.out; have y1 : wq.cell? ⟨w.heap.size + 1, 2, none⟩ = some b := kn1.cell 2; have y1f := kn1.frozen 2; have y1l := kn1.lt; replace kn1 := Lib.hid kn1; replace ho1 := Lib.hid ho1; replace hgr := Lib.hid hgr; replace hor := Lib.hid hor; replace hb1 := Lib.hid hb1; replace hsz8 := Lib.hid hsz8))
        all_goals (
          go_upto_region 9 with fail
          have hxc : OwnB w89 w2.drew.heap.size (.slice A9 v c9) v (KV m) := by rw [hKVm.out]; exact hx9.out
          have T8 := Lib.hid (Two.next (g := w.heap.size + 1 + 1) (n0 := w.heap.size + 1) (j := 2) h1d.out h2d.out h3d.out h4d.out h5.out hb8.out hxc ZZ7.out kg8.out (by decide) hgX.out ho1.out hgr.out hor.out kn1.out (by decide) hnX.out (.slice AN8 (m + 1) cN8))
          have QN8 := Lib.hid (show Blk (wq.setCell ⟨w.heap.size + 1, 2, none⟩ (.slice AN8 (m + 1) cN8)) (w.heap.size + 1) 28 #[.bool true, .slice AN7 (m + 1) cN7, .slice AN8 (m + 1) cN8, .slice none 0 0] from Blk.set' kn1.out 2 (.slice AN8 (m + 1) cN8) rfl)
          have QG8 := Lib.hid (show Blk (wq.setCell ⟨w.heap.size + 1, 2, none⟩ (.slice AN8 (m + 1) cN8)) (w.heap.size + 1 + 1) 29 #[.slice B8 ((r - k) - v) ((c1 - k) - v)] from Blk.far (Blk.lowb (Blk.alloc (Blk.set' kg8.out 0 _ rfl) _) hb1.out hgX.out) (by dsimp only; omega) _)
          have QR8 := Lib.hid (show Blk (wq.setCell ⟨w.heap.size + 1, 2, none⟩ (.slice AN8 (m + 1) cN8)) w.heap.size 28 #[.bool false, .slice none 0 0, .slice none 0 0, .slice none 0 0] from Blk.far (Blk.lowb (Blk.alloc (Blk.far ((Blk.drew QR7.out).kept hb8.out) (by dsimp only; omega) _) _) hb1.out (by have := hnX.out; omega)) (by dsimp only; omega) _)
          have BB8 : Hid (Below w.heap.size w (wq.setCell ⟨w.heap.size + 1, 2, none⟩ (.slice AN8 (m + 1) cN8))) := by
            have t1 : Below w.heap.size w w89 := bel_eld (Below.drew BB7.out) hb8.out
            have t2 : Below w.heap.size w ((w89.setCell ⟨w.heap.size + 1 + 1, 0, none⟩ (.slice B8 ((r - k) - v) ((c1 - k) - v))).alloc (.cells #[.slice A9 v c9] 29)) := bel_alloc (bel_set t1 (by dsimp only; omega) _) _
            exact bel_set (t2.trans (hb1.out.mono (by have := hnX.out; omega))) (by dsimp only; omega) _
          have ZZ8 : Hid (X.heap.size ≤ (wq.setCell ⟨w.heap.size + 1, 2, none⟩ (.slice AN8 (m + 1) cN8)).heap.size) := by
            have t1 := hb1.out.size
            have t2 := hsz8.out
            show _ ≤ _
            simp at t1 t2 ⊢
            omega
          have SS8 := hs9
          clear h1d h2d h3d h4d h5 hb8 hx9 hs9 kg8 kn8 ho1 hgr hor kn1 hb1 hsz8 hxc x0 x1 x2 x3 xf0 xf1 xf2 xf3 xl y0 yf yl y1 y1f y1l
          generalize wq.setCell ⟨w.heap.size + 1, 2, none⟩ (.slice AN8 (m + 1) cN8) = w3 at *
          go_wp2_with fail
          go_roundw
          case rel => exact ⟨m + 1, .slice AN7 (m + 1) cN7, .slice AN8 (m + 1) cN8, B8, r - k - v, c1 - k - v, by omega, by go_num, hend.out, T8.out.swap, QN8.out, QG8.out, QR8.out, BB8.out, ZZ8.out, by
            have h := SS8.out
            rw [shf_shf, shf_shf] at h
            have e : m * (k + v) + (k + v) = (m + 1) * (k + v) := (Nat.succ_mul _ _).symm
            rw [e] at h
            exact h⟩
          case measure => simp [intOf]; omega))
    · obtain rfl : count = m := by omega
      obtain ⟨U, U', h1, h2, h3, h4, h5⟩ := hTwo.out
      obtain ⟨A1, e1, rfl, _⟩ := rows_is h1 h2
      obtain ⟨A2, e2, rfl, _⟩ := rows_is h3 h4
      have hlw : w.heap.size < X.heap.size := by have := hnX.out; omega
      have kb := fun u0 u1 u2 u3 => (KB.set (p := ⟨w.heap.size, 0, none⟩) hQR.out (by decide) u0).trans ((KB.set (p := ⟨w.heap.size, 1, none⟩) (hQR.out.set_ 0 u0) (by decide) u1).trans ((KB.set (p := ⟨w.heap.size, 2, none⟩) ((hQR.out.set_ 0 u0).set_ 1 u1) (by decide) u2).trans (KB.set (p := ⟨w.heap.size, 3, none⟩) (((hQR.out.set_ 0 u0).set_ 1 u1).set_ 2 u2) (by decide) u3)))
      have g1 := fun u0 u1 u2 u3 => ((((OwnV.far (p := ⟨w.heap.size, 0, none⟩) h1 hlw u0).far (p := ⟨w.heap.size, 1, none⟩) hlw u1).far (p := ⟨w.heap.size, 2, none⟩) hlw u2).far (p := ⟨w.heap.size, 3, none⟩) hlw u3)
      have g3 := fun u0 u1 u2 u3 => ((((OwnV.far (p := ⟨w.heap.size, 0, none⟩) h3 hlw u0).far (p := ⟨w.heap.size, 1, none⟩) hlw u1).far (p := ⟨w.heap.size, 2, none⟩) hlw u2).far (p := ⟨w.heap.size, 3, none⟩) hlw u3)
      have f1 := fun u0 u1 u2 u3 Z hZ => rows_is ((g1 u0 u1 u2 u3).above (X := Z) hZ) (fun i hi => ((h2 i hi).kb (kb u0 u1 u2 u3)).above hZ)
      have f3 := fun u0 u1 u2 u3 Z hZ => rows_is ((g3 u0 u1 u2 u3).above (X := Z) hZ) (fun i hi => ((h4 i hi).kb (kb u0 u1 u2 u3)).above hZ)
      clear h1 h2 h3 h4 h5 hTwo g1 g3 kb hrr hS1 d1
      replace f1 := Lib.hid f1
      replace f3 := Lib.hid f3
      have x0 := (hQN.out).cell 0
      have x1 := (hQN.out).cell 1
      have x2 := (hQN.out).cell 2
      have x3 := (hQN.out).cell 3
      have xf0 := (hQN.out).frozen 0
      have xf1 := (hQN.out).frozen 1
      have xf2 := (hQN.out).frozen 2
      have xf3 := (hQN.out).frozen 3
      have xl := (hQN.out).lt
      have z0 := (hQR.out).cell 0
      have z1 := (hQR.out).cell 1
      have z2 := (hQR.out).cell 2
      have z3 := (hQR.out).cell 3
      have zf0 := (hQR.out).frozen 0
      have zf1 := (hQR.out).frozen 1
      have zf2 := (hQR.out).frozen 2
      have zf3 := (hQR.out).frozen 3
      have zl := (hQR.out).lt
      go_wp2_with fail
      have hq := (((hQR.out.set_ 0 (.bool true)).set_ 1 (.slice A1 count e1)).set_ 2 (.slice A2 count e2)).set_ 3 (.slice none 0 0)
      have r0 := hq.cell 0
      have r1 := hq.cell 1
      have r2 := hq.cell 2
      have r3 := hq.cell 3
      have rl := hq.lt
      simp at r0 r1 r2 r3 rl
      have tb := hbw.out
      refine bodyPost_ret (v := .tuple #[.agg #[.bool true, .slice A1 count e1, .slice A2 count e2, .slice none 0 0], .bool true]) (by simp [results, Try.results36, go_sem, r0, r1, r2, r3, rl]) rfl ⟨A1, e1, A2, e2, rfl, (fun Z hZ => by
        obtain ⟨A1', e1', q1, _, _, hR1⟩ := f1.out (.bool true) (.slice A1 count e1) (.slice A2 count e2) (.slice none 0 0) Z (hZ.mono (by omega))
        obtain ⟨A2', e2', q2, _, _, hR2⟩ := f3.out (.bool true) (.slice A1 count e1) (.slice A2 count e2) (.slice none 0 0) Z (hZ.mono (by omega))
        cases q1
        cases q2
        exact ⟨hR1, hR2⟩), ?_⟩
      (repeat (first | exact Below.refl _ _ | assumption | refine below_drewN ?_ _ | refine bel_grow ?_ _ | refine Below.drew ?_ | refine bel_alloc ?_ _ | refine bel_set ?_ (by first | exact Nat.le_refl _ | (simp; done) | (simp; omega) | omega) _ | refine bel_trans ?_ (by assumption)))
end Go.Proofs.Ytbmdnifkjcimcaa
