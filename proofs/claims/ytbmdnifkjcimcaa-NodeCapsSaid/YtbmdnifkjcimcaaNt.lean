/-
  node.inner, walked.
-/
import Derived.Test.YtbmdnifkjcimcaaNs
import Derived.Test.YtbmdnifkjcimcaaJ3
import Derived.Test.YtbmdnifkjcimcaaNt0
import Derived.Test.YtbmdnifkjcimcaaLate
namespace Go.Proofs.Ytbmdnifkjcimcaa
set_option linter.unusedVariables false
set_option linter.unusedSimpArgs false
open Go.RowKit

theorem OwnB.base_le {w : World} {base b o n c : Nat} {d : Nat → Int} (h : OwnB w base (.slice (some ⟨b, o, none⟩) n c) n d) : base ≤ b := by
  obtain ⟨_, h2⟩ := h
  rcases h2 with ⟨e, _⟩ | ⟨g, cap, cur, e, hb, _⟩
  · cases e
  · cases e; exact hb
theorem drew_hsN (w : World) : w.drew.heap.size = w.heap.size := rfl
theorem keepdN {W : World} {p : Addr} {v : Value} (h : W.cell? p = some v) : W.drew.cell? p = some v := h
theorem keepal {w : World} {p : Addr} {v : Value} (o : Obj) (h : w.cell? p = some v) : (w.alloc o).cell? p = some v := keepc (bel_alloc (Below.refl _ _) _) h
set_option maxRecDepth 8000 in
set_option maxHeartbeats 8000000 in
theorem inner_yes (B : Option Addr) (l c n k : Nat) (y : Nat → Int) (w : World) (hl : l = 4 + n * 4 + n * k) (hl5 : l ≤ 498) (hk : 1 ≤ k ∧ k ≤ 24) (hlc : l ≤ c) (hc : c ≤ maxLen) (hy : ∀ i, 0 ≤ y i ∧ y i < 256) (hs : SlIs w B l (yV y)) :
    Calls Try.prog 37 #[.slice B l c, .int .i64 ((n : Int) + 1), .int .i64 k] w fun e w' => ∃ A1 c1 A3 c3, e = .returned (.tuple #[.agg #[.bool false, .slice A1 n c1, .slice none 0 0, .slice A3 (n + 1) c3], .bool true]) ∧
      (∀ Z, Above w.heap.size w' Z → RsIs Z A1 n (fun _ => k) (fun i => shf y (4 + n * 4 + i * k)) ∧ SlIs Z A3 (n + 1) (fun i => .int .u32 (num y (i * 4) 4))) ∧ Below w.heap.size w w' := by
  have hcount : n ≤ 498 := by omega
  have hmul : ((n : Int) * (k : Int)) = ((n * k : Nat) : Int) := by push_cast; rfl
  have hP : n * k ≤ 498 := by omega
  have d1 : ((l : Int) != wrap64 (((n : Int) + 1) * 4 + wrap64 ((n : Int) * (k : Int)))) = false := by
    rw [hmul, hl]
    generalize n * k = P at *
    have e1 : wrap64 (P : Int) = P := by unfold wrap64; omega
    have e2 : wrap64 (((n : Int) + 1) * 4 + P) = ((4 + n * 4 + P : Nat) : Int) := by unfold wrap64; omega
    rw [e1, e2]; simp
  clear hP
  replace hmul := Lib.hid hmul
  have HT := Lib.hid (fun w => taker_any B l c w)
  have d0 : decide ((n : Int) + 1 < 1) = false := decide_eq_false (by omega)
  have hb0 := Below.refl w.heap.size w
  obtain ⟨KK, hKK⟩ : ∃ KK : Nat → Nat → Int, KK = fun i => shf y (4 + n * 4 + i * k) := ⟨_, rfl⟩
  rw [← hKK]
  replace hKK := Lib.hid hKK
  replace hs := Lib.hid hs
  replace hl := Lib.hid hl
  replace hc := Lib.hid hc
  replace hy := Lib.hid hy
  go_enter Try.func37, Try.ntmps37
  go_wp2_with fail
  refine (HT.out _).mono ?_
  rintro e1 w1 ⟨rfl, rfl⟩
  go_upto_region 5 with fail
  replace hb0 := Lib.hid hb0
  refine abs_wp (fun Y_ => Below w.heap.size w Y_ ∧ Blk Y_ (w.heap.size) 28 #[.bool false, .slice none 0 0, .slice none 0 0, .slice none 0 0] ∧ Blk Y_ (w.heap.size + 1) 28 #[.bool false, .slice none 0 0, .slice none 0 0, .slice none 0 0] ∧ Blk Y_ (w.heap.size + 1 + 1) 29 #[.slice B l c]) ?_ ?_
  · have t_B := hb0.out
    refine ⟨by (repeat (first | with_reducible exact Below.refl _ _ | with_reducible assumption | (with_reducible refine bel_set ?_ (by first | exact Nat.le_refl _ | (simp; done) | (simp; omega) | omega) _) | with_reducible refine bel_grow ?_ _ | with_reducible refine Below.drew ?_ | with_reducible refine bel_alloc ?_ _ | with_reducible refine bel_eld ?_ (by assumption))), ?_, ?_, ?_⟩
    · (repeat (first | with_reducible assumption | (with_reducible refine Blk.new' ?_; first | with_reducible rfl | (simp; done)) | with_reducible refine Blk.alloc ?_ _ | with_reducible refine Blk.grow ?_ _ | with_reducible refine Blk.drew ?_ | with_reducible refine Blk.drewN ?_ _ | (with_reducible refine Blk.far ?_ (by first | (dsimp only; omega) | (simp; omega)) _) | (with_reducible apply Blk.two) | (with_reducible refine Blk.kept ?_ (by assumption)) | (with_reducible refine Blk.setRow ?_ (by first | rfl | (simp; done))) | (with_reducible refine Blk.setRow_far ?_ (by first | omega | (simp; omega)) _) | (with_reducible refine Blk.set' ?_ _ _ (by first | rfl | (simp; done)))))
    · (repeat (first | with_reducible assumption | (with_reducible refine Blk.new' ?_; first | with_reducible rfl | (simp; done)) | with_reducible refine Blk.alloc ?_ _ | with_reducible refine Blk.grow ?_ _ | with_reducible refine Blk.drew ?_ | with_reducible refine Blk.drewN ?_ _ | (with_reducible refine Blk.far ?_ (by first | (dsimp only; omega) | (simp; omega)) _) | (with_reducible apply Blk.two) | (with_reducible refine Blk.kept ?_ (by assumption)) | (with_reducible refine Blk.setRow ?_ (by first | rfl | (simp; done))) | (with_reducible refine Blk.setRow_far ?_ (by first | omega | (simp; omega)) _) | (with_reducible refine Blk.set' ?_ _ _ (by first | rfl | (simp; done)))))
    · (repeat (first | with_reducible assumption | (with_reducible refine Blk.new' ?_; first | with_reducible rfl | (simp; done)) | with_reducible refine Blk.alloc ?_ _ | with_reducible refine Blk.grow ?_ _ | with_reducible refine Blk.drew ?_ | with_reducible refine Blk.drewN ?_ _ | (with_reducible refine Blk.far ?_ (by first | (dsimp only; omega) | (simp; omega)) _) | (with_reducible apply Blk.two) | (with_reducible refine Blk.kept ?_ (by assumption)) | (with_reducible refine Blk.setRow ?_ (by first | rfl | (simp; done))) | (with_reducible refine Blk.setRow_far ?_ (by first | omega | (simp; omega)) _) | (with_reducible refine Blk.set' ?_ _ _ (by first | rfl | (simp; done)))))
  clear hb0
  rintro X ⟨hB_1, f_a, f_n0, f_p⟩
  have a_0 : X.cell? ⟨w.heap.size, 0, none⟩ = some (.bool false) := (f_a).cell 0
  have a_1 : X.cell? ⟨w.heap.size, 1, none⟩ = some (.slice none 0 0) := (f_a).cell 1
  have a_2 : X.cell? ⟨w.heap.size, 2, none⟩ = some (.slice none 0 0) := (f_a).cell 2
  have a_3 : X.cell? ⟨w.heap.size, 3, none⟩ = some (.slice none 0 0) := (f_a).cell 3
  have a_f0 := (f_a).frozen 0
  have a_f1 := (f_a).frozen 1
  have a_f2 := (f_a).frozen 2
  have a_f3 := (f_a).frozen 3
  have a_l := (f_a).lt
  replace f_a := Lib.hid f_a
  have n0_0 : X.cell? ⟨w.heap.size + 1, 0, none⟩ = some (.bool false) := (f_n0).cell 0
  have n0_1 : X.cell? ⟨w.heap.size + 1, 1, none⟩ = some (.slice none 0 0) := (f_n0).cell 1
  have n0_2 : X.cell? ⟨w.heap.size + 1, 2, none⟩ = some (.slice none 0 0) := (f_n0).cell 2
  have n0_3 : X.cell? ⟨w.heap.size + 1, 3, none⟩ = some (.slice none 0 0) := (f_n0).cell 3
  have n0_f0 := (f_n0).frozen 0
  have n0_f1 := (f_n0).frozen 1
  have n0_f2 := (f_n0).frozen 2
  have n0_f3 := (f_n0).frozen 3
  have n0_l := (f_n0).lt
  replace f_n0 := Lib.hid f_n0
  have p_0 : X.cell? ⟨w.heap.size + 1 + 1, 0, none⟩ = some (.slice B l c) := (f_p).cell 0
  have p_f0 := (f_p).frozen 0
  have p_l := (f_p).lt
  replace f_p := Lib.hid f_p
  replace hB_1 := Lib.hid hB_1
  have hnX : Hid (w.heap.size + 1 < X.heap.size) := Lib.hid n0_l
  have hgX : Hid (w.heap.size + 1 + 1 < X.heap.size) := Lib.hid p_l
  clear a_0 a_1 a_2 a_3 a_f0 a_f1 a_f2 a_f3 n0_0 n0_1 n0_2 n0_3 n0_f0 n0_f1 n0_f2 n0_f3 p_0 p_f0 a_l n0_l p_l d0 d1 hmul HT
  go_wp2_with fail
  go_loopw [29] (fun i wr => ∃ (m : Nat) (a : Value) (B1 : Option Addr) (r c1 : Nat), m ≤ n + 1 ∧ i = .int .i64 m ∧ Hid (r + m * 4 = l ∧ r ≤ c1 ∧ c1 ≤ maxLen) ∧ Hid (OwnV wr X.heap.size 62 a m (fun i => .int .u32 (num y (i * 4) 4))) ∧ Hid (Blk wr (w.heap.size + 1) 28 #[.bool false, .slice none 0 0, .slice none 0 0, a]) ∧ Hid (Blk wr (w.heap.size + 1 + 1) 29 #[.slice B1 r c1]) ∧ Hid (Blk wr w.heap.size 28 #[.bool false, .slice none 0 0, .slice none 0 0, .slice none 0 0]) ∧ Hid (Below w.heap.size w wr) ∧ Hid (X.heap.size ≤ wr.heap.size) ∧ Hid (SlIs w B1 r (yV (shf y (m * 4))))) (fun i _ => n + 1 - (intOf i).toNat)
  case atStart => exact ⟨0, .slice none 0 0, B, l, c, by omega, rfl, ⟨by omega, hlc, hc.out⟩, OwnV.nil _ _ _ _, f_n0.out, f_p.out, f_a.out, hB_1.out, Nat.le_refl _, by
    show SlIs w B l _
    refine hs.out.congr (fun i hi => ?_)
    unfold yV shf; simp⟩
  case round =>
    clear f_n0 f_p f_a hB_1
    obtain ⟨m, a, B1, r, c1, hm, rfl, hrr, hOwn, hQN, hQG, hQR, hbw, hZ, hS1⟩ := hrel
    by_cases hlt : m < n + 1
    · have hkv : 4 ≤ r := by
        have h1 := hrr.out.1
        have h2 := hl.out
        omega
      have hrl : r ≤ l := by have h1 := hrr.out.1; omega
      have hrc1 := hrr.out.2.1
      have hend : Hid (r - 4 + (m + 1) * 4 = l ∧ r - 4 ≤ c1 - 4 ∧ c1 - 4 ≤ maxLen) := Lib.hid ⟨by have h1 := hrr.out.1; omega, by omega, by have := hrr.out.2.2; omega⟩
      have HTk := Lib.hid (take_any w B1 r c1 4 (shf y (m * 4)) (w.heap.size + 1 + 1) wr hkv hrc1 hrr.out.2.2 (by omega) hS1.out hbw.out hQG.out)
      have hi4 : ((4 : Nat) : Int) = 4 := rfl
      rw [hi4] at HTk
      clear hrr hi4
      go_wp2_with fail
      refine HTk.out.mono ?_
      rintro e9 w9 ⟨x9, B9, w8, rfl, hx9, hs9, hb8, rfl⟩
      have kn8 : Blk w8 (w.heap.size + 1) 28 #[.bool false, .slice none 0 0, .slice none 0 0, a] := hQN.out.kept hb8
      have kg8 : Blk w8 (w.heap.size + 1 + 1) 29 #[.slice B1 r c1] := hQG.out.kept hb8
      have hsz : X.heap.size ≤ (w8.setCell ⟨w.heap.size + 1 + 1, 0, none⟩ (.slice B9 (r - 4) (c1 - 4))).heap.size := by have z1 := hZ.out; have z2 := hb8.size; simp; omega
      have QN := Lib.hid (show Blk (w8.setCell ⟨w.heap.size + 1 + 1, 0, none⟩ (.slice B9 (r - 4) (c1 - 4))) (w.heap.size + 1) 28 #[.bool false, .slice none 0 0, .slice none 0 0, a] from Blk.far kn8 (by dsimp only; omega) _)
      have QG := Lib.hid (show Blk (w8.setCell ⟨w.heap.size + 1 + 1, 0, none⟩ (.slice B9 (r - 4) (c1 - 4))) (w.heap.size + 1 + 1) 29 #[.slice B9 (r - 4) (c1 - 4)] from Blk.set' kg8 0 _ rfl)
      have QR := Lib.hid (show Blk (w8.setCell ⟨w.heap.size + 1 + 1, 0, none⟩ (.slice B9 (r - 4) (c1 - 4))) w.heap.size 28 #[.bool false, .slice none 0 0, .slice none 0 0, .slice none 0 0] from Blk.far (hQR.out.kept hb8) (by dsimp only; omega) _)
      have BB : Hid (Below w.heap.size w (w8.setCell ⟨w.heap.size + 1 + 1, 0, none⟩ (.slice B9 (r - 4) (c1 - 4)))) := bel_set (bel_eld hbw.out hb8) (by dsimp only; omega) _
      have OO : Hid (OwnV (w8.setCell ⟨w.heap.size + 1 + 1, 0, none⟩ (.slice B9 (r - 4) (c1 - 4))) X.heap.size 62 a m (fun i => .int .u32 (num y (i * 4) 4))) := OwnV.far (p := ⟨w.heap.size + 1 + 1, 0, none⟩) (hOwn.out.kept hb8) hgX.out _
      have hx := (hx9.kb (KB.set (p := ⟨w.heap.size + 1 + 1, 0, none⟩) kg8 (by decide) (.slice B9 (r - 4) (c1 - 4))))
      clear hx9 kn8 kg8 hQN hQG hQR hbw hS1 hOwn
      generalize w8.setCell ⟨w.heap.size + 1 + 1, 0, none⟩ (.slice B9 (r - 4) (c1 - 4)) = w2 at *
      clear hb8
      have hsz2 : Hid (X.heap.size ≤ w2.heap.size) := hsz
      obtain ⟨A9, c9, rfl, _, _, hx2⟩ := hx.byS
      have hXO := Lib.hid hx
      clear hx
      obtain ⟨b, o, rfl, hbl, hcl⟩ := hx2 (by omega)
      have k0 : w2.cell? ⟨b, o, none⟩ = some (.int .u8 (y (m * 4))) := hcl 0 (by omega)
      have k1 : w2.cell? ⟨b, o + 1, none⟩ = some (.int .u8 (y (m * 4 + 1))) := hcl 1 (by omega)
      have k2 : w2.cell? ⟨b, o + 2, none⟩ = some (.int .u8 (y (m * 4 + 2))) := hcl 2 (by omega)
      have k3 : w2.cell? ⟨b, o + 3, none⟩ = some (.int .u8 (y (m * 4 + 3))) := hcl 3 (by omega)
      have hbn : b ≠ w.heap.size + 1 := (by have t1 := hXO.out.base_le; have t2 := hZ.out; have t3 := hnX.out; omega)
      clear hx2 hcl
      have x0 := (QN.out).cell 0
      have x1 := (QN.out).cell 1
      have x2 := (QN.out).cell 2
      have x3 := (QN.out).cell 3
      have xf0 := (QN.out).frozen 0
      have xf1 := (QN.out).frozen 1
      have xf2 := (QN.out).frozen 2
      have xf3 := (QN.out).frozen 3
      have xl := (QN.out).lt
      go_upto_region 8 with fail
      have y3 : w2.cell? ⟨w.heap.size + 1, 3, none⟩ = some a := QN.out.cell 3
      refine rlate 30 24 (by kernel_rfl) (by kernel_rfl) (fun _ _ _ _ _ h => h) ?hE ?hh
      case hE =>
        intro o ho aa ww x w' hr
        simp at ho
        subst ho
        simp only [execOp] at hr
        generalize aa.eval = ev at hr
        simp [go_sem] at hr
        generalize ev (.tmp 56) = v at hr
        split at hr
        · simp [go_sem] at hr
          obtain ⟨rfl, rfl⟩ := hr
          exact ⟨⟨_, rfl⟩, bel_alloc (Below.refl _ _) _⟩
        · simp [go_sem] at hr
      case hh =>
        simp only [List.take_succ_cons, List.take_zero, List.drop_succ_cons, List.drop_zero]
        iterate 24 (refine wpHead_step (v := ?_) (by rfl) ?_ ?_; rotate_left; (rintro X_ ⟨d_, rfl⟩; go_simp; try with_reducible rfl); try simp only [Act.put, List.setIfInBounds_toArray, List.set_cons_zero, List.set_cons_succ])
        refine wpHead_nil ?_
        intro dd
        have hbd := Lib.hid (grow_below w2 dd)
        have kO := OO.out.kept hbd.out
        have kX := (hXO.out).kept hbd.out
        have kN := QN.out.kept hbd.out
        have kG := Lib.hid (QG.out.kept hbd.out)
        have kR := Lib.hid (QR.out.kept hbd.out)
        have kB : Hid (Below w.heap.size w (Grow w2 dd)) := bel_eld BB.out hbd.out
        have ksz : Hid (X.heap.size ≤ (Grow w2 dd).heap.size) := Lib.hid (Nat.le_trans hsz2.out hbd.out.size)
        clear QN QG QR OO hXO BB hbd hsz hsz2
        generalize Grow w2 dd = w3 at *
        replace kO := Lib.hid kO
        replace kX := Lib.hid kX
        replace kN := Lib.hid kN
        clear x0 x1 x2 x3 xf0 xf1 xf2 xf3 xl y3 k0 k1 k2 k3
        go_wp2_with (at_builtin; refine wpList_appV2 rfl (.tmp 34) (.tmp 57) Try.underlying26 info_u32 rfl (by omega) rfl rfl rfl (OwnV.kept kO.out (bel_alloc (Below.refl _ _) _)) ((Blk.new _ _ _).cell 0) (congrArg (Value.int .u32) (or4 y hy.out (m * 4))) rfl (by omega) (Nat.le_trans ksz.out (by simp)) ?_; intro v1 w1 ho1 hgr hor; obtain ⟨A8, c8, rfl, hc8, hm8, _⟩ := OwnV.slis ho1; obtain ⟨kn1, _, hb1⟩ := kid_after hgr rfl kX.out kO.out kN.out ksz.out hnX.out; have hsz1 := hb1.size; replace hsz1 := Lib.hid hsz1; have z3 : w1.cell? ⟨w.heap.size + 1, 3, none⟩ = some a := kn1.cell 3; have z3f := kn1.frozen 3; have z3l := kn1.lt; replace kn1 := Lib.hid kn1; replace hb1 := Lib.hid hb1; clear hgr hor; replace ho1 := Lib.hid ho1; replace hc8 := Lib.hid hc8; replace hm8 := Lib.hid hm8)
        clear z3 z3f z3l
        go_roundw
        case rel => exact ⟨m + 1, .slice A8 (m + 1) c8, B9, r - 4, c1 - 4, by omega, by go_num, hend.out, OwnV.far (p := ⟨w.heap.size + 1, 3, none⟩) ho1.out hnX.out _, Blk.set' kn1.out 3 _ rfl, Blk.far ((kG.out.alloc _).lowb hb1.out hgX.out) (by dsimp only; omega) _, Blk.far ((kR.out.alloc _).lowb hb1.out (by have := hnX.out; omega)) (by dsimp only; omega) _, bel_set ((bel_alloc kB.out _).trans (hb1.out.mono (by have := hnX.out; omega))) (by dsimp only; omega) _, (by
          show _ ≤ _
          have t1 := ksz.out
          have t2 := hsz1.out
          simp at t1 t2 ⊢
          omega), (by
          have h := hs9
          rw [shf_shf] at h
          have e : m * 4 + 4 = (m + 1) * 4 := by omega
          rw [e] at h
          exact h)⟩
        case measure => simp [intOf]; omega
    · obtain rfl : m = n + 1 := by omega
      obtain ⟨W1, rfl⟩ : ∃ W1, W1 = wr := ⟨wr, rfl⟩
      have hS2 : Hid (SlIs w B1 r (yV (shf y (4 + n * 4)))) := by
        have h := hS1.out
        have e : (n + 1) * 4 = 4 + n * 4 := by omega
        rw [e] at h
        exact Lib.hid h
      have hr2 : Hid (r = n * k ∧ r ≤ c1 ∧ c1 ≤ maxLen) := Lib.hid ⟨by have h1 := hrr.out.1; have h2 := hl.out; omega, hrr.out.2⟩
      have hq : Hid (∀ q, a.ownBlock = some q → q < W1.heap.size) := Lib.hid (fun q e => (hOwn.out.own_ge e).2)
      have hq2 : Hid (w.heap.size + 1 < W1.heap.size ∧ w.heap.size + 1 + 1 < W1.heap.size ∧ X.heap.size ≤ W1.heap.size) := Lib.hid ⟨Nat.lt_of_lt_of_le hnX.out hZ.out, Nat.lt_of_lt_of_le hgX.out hZ.out, hZ.out⟩
      have hK1 : Hid (0 ≤ (k : Int) ∧ (k : Int) ≤ 24) := Lib.hid ⟨by omega, by omega⟩
      clear hS1 hrr hs hl
      rw [show ((n + 1 : Nat) : Int) = (n : Int) + 1 by omega]
      go_wp2_with fail
      go_loopw [63] (fun i wr => ∃ (m : Nat) (b : Value) (B1 : Option Addr) (r c1 : Nat), m ≤ n ∧ i = .int .i64 m ∧ Hid (r + m * k = n * k ∧ r ≤ c1 ∧ c1 ≤ maxLen) ∧ Hid (Two wr W1.heap.size b m k KK (.slice none 0 0) 0 0 KK) ∧ Hid (OwnV wr X.heap.size 62 a (n + 1) (fun i => .int .u32 (num y (i * 4) 4))) ∧ Hid (Blk wr (w.heap.size + 1) 28 #[.bool false, b, .slice none 0 0, a]) ∧ Hid (Blk wr (w.heap.size + 1 + 1) 29 #[.slice B1 r c1]) ∧ Hid (Blk wr w.heap.size 28 #[.bool false, .slice none 0 0, .slice none 0 0, .slice none 0 0]) ∧ Hid (Below w.heap.size w wr) ∧ Hid (W1.heap.size ≤ wr.heap.size) ∧ Hid (SlIs w B1 r (yV (shf y (4 + n * 4 + m * k))))) (fun i _ => n - (intOf i).toNat)
      case atStart => exact ⟨0, .slice none 0 0, B1, r, c1, by omega, rfl, ⟨by rw [Nat.zero_mul]; exact hr2.out.1, hr2.out.2⟩, Two.nil _ _ _ _ _ _, hOwn.out, hQN.out, hQG.out, hQR.out, hbw.out, Nat.le_refl _, by
        have h := hS2.out
        show SlIs w B1 r _
        rw [Nat.zero_mul, Nat.add_zero]
        exact h⟩
      case round =>
        clear hQN hQG hQR hbw hOwn hS2 hr2
        clear B1 r c1
        obtain ⟨m, b, B1, r, c1, hm2, rfl, hrr, hTwo, hOwn, hQN, hQG, hQR, hbw, hZ2, hS1⟩ := hrel
        by_cases hlt2 : m < n
        · have hkr : k ≤ r := by
            have h1 := hrr.out.1
            have h3 : (m + 1) * k ≤ n * k := Nat.mul_le_mul_right _ (by omega)
            rw [Nat.succ_mul] at h3
            omega
          have hrl : r ≤ n * k := by have h1 := hrr.out.1; omega
          have hk7 : Hid (k ≤ r) := Lib.hid hkr
          have hrc7 : Hid (r ≤ c1) := Lib.hid hrr.out.2.1
          have hcm7 : Hid (c1 ≤ maxLen) := Lib.hid hrr.out.2.2
          have hr67 : Hid (r ≤ 1000000) := Lib.hid (by have : n * k ≤ 498 * 24 := Nat.mul_le_mul hcount hk.2; omega)
          have hKKm : Hid (KK m = shf y (4 + n * 4 + m * k)) := by rw [hKK.out]; exact Lib.hid rfl
          have hend : Hid (r - k + (m + 1) * k = n * k ∧ r - k ≤ c1 - k ∧ c1 - k ≤ maxLen) := Lib.hid ⟨by rw [Nat.succ_mul]; have h1 := hrr.out.1; omega, by have := hrr.out.2.1; omega, by have := hrr.out.2.2; omega⟩
          clear hrr hkr hrl
          obtain ⟨U, U', h1, h2, h3, h4, h5⟩ := hTwo.out
          have h1d : OwnV wr.drew W1.heap.size 29 b m U := h1
          have h2d : ∀ i, i < m → OwnB wr.drew W1.heap.size (U i) k (KK i) := h2
          have h3d : OwnV wr.drew W1.heap.size 29 (.slice none 0 0) 0 U' := h3
          have h4d : ∀ i, i < 0 → OwnB wr.drew W1.heap.size (U' i) 0 (KK i) := h4
          have hOd : OwnV wr.drew X.heap.size 62 a (n + 1) (fun i => .int .u32 (num y (i * 4) 4)) := hOwn.out
          clear h1 h2 h3 h4
          replace h1d := Lib.hid h1d
          replace h2d := Lib.hid h2d
          replace h3d := Lib.hid h3d
          replace h4d := Lib.hid h4d
          replace h5 := Lib.hid h5
          replace hOd := Lib.hid hOd
          have x0 := (hQN.out).cell 0
          have x1 := (hQN.out).cell 1
          have x2 := (hQN.out).cell 2
          have x3 := (hQN.out).cell 3
          have xf0 := (hQN.out).frozen 0
          have xf1 := (hQN.out).frozen 1
          have xf2 := (hQN.out).frozen 2
          have xf3 := (hQN.out).frozen 3
          have xl := (hQN.out).lt
          go_upto_region 12 with fail
          go_region_law (first
            | (go_simp; go_at_call 47; refine (take_any w B1 r c1 k (shf y (4 + n * 4 + m * k)) (w.heap.size + 1 + 1) _ hk7.out hrc7.out hcm7.out hr67.out hS1.out (Below.drew hbw.out) (Blk.drew hQG.out)).mono ?_; rintro e9 w9 ⟨x9, B7, w87, rfl, hx9, hs9, hb8, rfl⟩; have hx9s := hx9.byS; obtain ⟨A9, c9, rfl, _, _, _⟩ := hx9s; have kn8 : Blk w87 (w.heap.size + 1) 28 #[.bool false, b, .slice none 0 0, a] := (Blk.drew hQN.out).kept hb8; have kg8 : Blk w87 (w.heap.size + 1 + 1) 29 #[.slice B1 r c1] := (Blk.drew hQG.out).kept hb8; have y0 : w87.cell? ⟨w.heap.size + 1, 1, none⟩ = some b := kn8.cell 1; have yf := kn8.frozen 1; have yl := kn8.lt; replace kn8 := Lib.hid kn8; replace kg8 := Lib.hid kg8; replace hx9 := Lib.hid hx9; replace hs9 := Lib.hid hs9; replace hb8 := Lib.hid hb8)
            | (refine step_appV2 (x := .slice A9 k c9) rfl (.tmp 66) (.tmp 70) (t := 25) (e := 29) Try.underlying25 info_sl rfl (by omega) rfl rfl rfl (OwnV.kept (OwnV.far (p := ⟨(w.heap.size + 1 + 1), 0, none⟩) (OwnV.kept (OwnV.updF h1d.out (.slice A9 k c9)) hb8.out) hq2.out.2.1 _) (bel_alloc (Below.refl _ _) _)) ((Blk.new' (by simp)).cell 0) (updF_self U m (.slice A9 k c9)) rfl (by omega) (by have z1 := hZ2.out; have z2 := hb8.out.size; have z3 : wr.drew.heap.size = wr.heap.size := rfl; simp; omega) ?_; intro vv w7 ho1 hgr hor; obtain ⟨AN7, cN7, rfl, _, _, _⟩ := OwnV.slis ho1; have hsz8 : W1.heap.size ≤ ((w87.setCell ⟨(w.heap.size + 1 + 1), 0, none⟩ (.slice B7 (r - k) (c1 - k))).alloc (.cells #[.slice A9 k c9] 29)).heap.size := (by have z1 := hZ2.out; have z2 := hb8.out.size; have z3 : wr.drew.heap.size = wr.heap.size := rfl; simp; omega); have hb1 := Below.grown (Below.refl W1.heap.size _) hgr hsz8 (fun j hj => (h1d.out.lt j hj).1); have kn1 : Blk w7 (w.heap.size + 1) 28 #[.bool false, b, .slice none 0 0, a] := Blk.lowb (Blk.alloc (Blk.far kn8.out (by dsimp only; omega) _) _) hb1 hq2.out.1; have y1 : w7.cell? ⟨w.heap.size + 1, 1, none⟩ = some b := kn1.cell 1; have y1f := kn1.frozen 1; have y1l := kn1.lt; replace kn1 := Lib.hid kn1; replace ho1 := Lib.hid ho1; replace hgr := Lib.hid hgr; replace hor := Lib.hid hor; replace hb1 := Lib.hid hb1; replace hsz8 := Lib.hid hsz8))
          all_goals (
            have hxc : OwnB w87 wr.drew.heap.size (.slice A9 k c9) k (KK m) := by rw [hKKm.out]; exact hx9.out
            have T7 := Lib.hid (Two.next (g := w.heap.size + 1 + 1) (n0 := w.heap.size + 1) (j := 1) h1d.out h2d.out h3d.out h4d.out h5.out hb8.out hxc hZ2.out kg8.out (by decide) hq2.out.2.1 ho1.out hgr.out hor.out kn1.out (by decide) hq2.out.1 (.slice AN7 (m + 1) cN7))
            have QN7 := Lib.hid (show Blk (w7.setCell ⟨w.heap.size + 1, 1, none⟩ (.slice AN7 (m + 1) cN7)) (w.heap.size + 1) 28 #[.bool false, .slice AN7 (m + 1) cN7, .slice none 0 0, a] from Blk.set' kn1.out 1 (.slice AN7 (m + 1) cN7) rfl)
            have QG7 := Lib.hid (show Blk (w7.setCell ⟨w.heap.size + 1, 1, none⟩ (.slice AN7 (m + 1) cN7)) (w.heap.size + 1 + 1) 29 #[.slice B7 (r - k) (c1 - k)] from Blk.far (Blk.lowb (Blk.alloc (Blk.set' kg8.out 0 _ rfl) _) hb1.out hq2.out.2.1) (by dsimp only; omega) _)
            have QR7 := Lib.hid (show Blk (w7.setCell ⟨w.heap.size + 1, 1, none⟩ (.slice AN7 (m + 1) cN7)) w.heap.size 28 #[.bool false, .slice none 0 0, .slice none 0 0, .slice none 0 0] from Blk.far (Blk.lowb (Blk.alloc (Blk.far ((Blk.drew hQR.out).kept hb8.out) (by dsimp only; omega) _) _) hb1.out (by have := hq2.out.1; omega)) (by dsimp only; omega) _)
            have OO7 : Hid (OwnV (w7.setCell ⟨w.heap.size + 1, 1, none⟩ (.slice AN7 (m + 1) cN7)) X.heap.size 62 a (n + 1) (fun i => .int .u32 (num y (i * 4) 4))) := by
              have t1 := ((hOd.out.kept hb8.out).far (p := ⟨w.heap.size + 1 + 1, 0, none⟩) hgX.out (.slice B7 (r - k) (c1 - k))).kept (bel_alloc (Below.refl _ _) (.cells #[.slice A9 k c9] 29))
              refine OwnV.far (p := ⟨w.heap.size + 1, 1, none⟩) ?_ hnX.out _
              refine World.ownsRow.kept t1 hgr.out ?_
              cases hb : a.ownBlock with
              | none => exact .inl rfl
              | some q => exact .inr (fun e => by
                  have h9 := hq.out q hb
                  have h8 := (h1d.out.own_ge e.symm).1
                  omega)
            have BB7 : Hid (Below w.heap.size w (w7.setCell ⟨w.heap.size + 1, 1, none⟩ (.slice AN7 (m + 1) cN7))) := by
              have t1 : Below w.heap.size w w87 := bel_eld (Below.drew hbw.out) hb8.out
              have t2 : Below w.heap.size w ((w87.setCell ⟨w.heap.size + 1 + 1, 0, none⟩ (.slice B7 (r - k) (c1 - k))).alloc (.cells #[.slice A9 k c9] 29)) := bel_alloc (bel_set t1 (by dsimp only; omega) _) _
              exact bel_set (t2.trans (hb1.out.mono (by have := hq2.out.1; omega))) (by dsimp only; omega) _
            have ZZ7 : Hid (W1.heap.size ≤ (w7.setCell ⟨w.heap.size + 1, 1, none⟩ (.slice AN7 (m + 1) cN7)).heap.size) := by
              have t1 := hb1.out.size
              have t2 := hsz8.out
              show _ ≤ _
              simp at t1 t2 ⊢
              omega
            have SS7 := hs9
            clear h1d h2d h3d h4d h5 hb8 hx9 hs9 kg8 kn8 ho1 hgr hor kn1 hb1 hsz8 hxc x0 x1 x2 x3 xf0 xf1 xf2 xf3 xl y0 yf yl y1 y1f y1l
            generalize w7.setCell ⟨w.heap.size + 1, 1, none⟩ (.slice AN7 (m + 1) cN7) = w2 at *
            go_wp2_with fail
            go_roundw
            case rel => exact ⟨m + 1, .slice AN7 (m + 1) cN7, B7, r - k, c1 - k, by omega, by go_num, hend.out, T7.out, OO7.out, QN7.out, QG7.out, QR7.out, BB7.out, ZZ7.out, by
              have h := SS7.out
              rw [shf_shf] at h
              have e : 4 + n * 4 + m * k + k = 4 + n * 4 + (m + 1) * k := by rw [Nat.succ_mul]; omega
              rw [e] at h
              exact h⟩
            case measure => simp [intOf]; omega)
        · obtain rfl : n = m := by omega
          obtain ⟨U, U', h1, h2, _, _, _⟩ := hTwo.out
          obtain ⟨A1, e1, rfl, _⟩ := rows_is h1 h2
          obtain ⟨A3, e3, rfl, _⟩ := hOwn.out.slis
          have hlw : w.heap.size < X.heap.size := by have := hnX.out; omega
          have hlw1 : w.heap.size < W1.heap.size := by have := hq2.out.1; omega
          have kb := fun u0 u1 u2 u3 => (KB.set (p := ⟨w.heap.size, 0, none⟩) hQR.out (by decide) u0).trans ((KB.set (p := ⟨w.heap.size, 1, none⟩) (hQR.out.set_ 0 u0) (by decide) u1).trans ((KB.set (p := ⟨w.heap.size, 2, none⟩) ((hQR.out.set_ 0 u0).set_ 1 u1) (by decide) u2).trans (KB.set (p := ⟨w.heap.size, 3, none⟩) (((hQR.out.set_ 0 u0).set_ 1 u1).set_ 2 u2) (by decide) u3)))
          have g1 := fun u0 u1 u2 u3 => ((((OwnV.far (p := ⟨w.heap.size, 0, none⟩) h1 hlw1 u0).far (p := ⟨w.heap.size, 1, none⟩) hlw1 u1).far (p := ⟨w.heap.size, 2, none⟩) hlw1 u2).far (p := ⟨w.heap.size, 3, none⟩) hlw1 u3)
          have g3 := fun u0 u1 u2 u3 => ((((OwnV.far (p := ⟨w.heap.size, 0, none⟩) hOwn.out hlw u0).far (p := ⟨w.heap.size, 1, none⟩) hlw u1).far (p := ⟨w.heap.size, 2, none⟩) hlw u2).far (p := ⟨w.heap.size, 3, none⟩) hlw u3)
          have f1 := fun u0 u1 u2 u3 Z hZ => rows_is ((g1 u0 u1 u2 u3).above (X := Z) hZ) (fun i hi => ((h2 i hi).kb (kb u0 u1 u2 u3)).above hZ)
          have f3 := fun u0 u1 u2 u3 Z hZ => ((g3 u0 u1 u2 u3).above (X := Z) hZ).slis
          clear h1 h2 hTwo g1 g3 kb hrr hS1 hOwn
          replace f1 := Lib.hid f1
          replace f3 := Lib.hid f3
          have x0 := (hQN.out).cell 0
          have x1 := (hQN.out).cell 1
          have x2 := (hQN.out).cell 2
          have x3 := (hQN.out).cell 3
          have xf0 := (hQN.out).frozen 0
          have xf1 := (hQN.out).frozen 1
          have xf2 := (hQN.out).frozen 2
          have xf3 := (hQN.out).frozen 3
          have xl := (hQN.out).lt
          have z0 := (hQR.out).cell 0
          have z1 := (hQR.out).cell 1
          have z2 := (hQR.out).cell 2
          have z3 := (hQR.out).cell 3
          have zf0 := (hQR.out).frozen 0
          have zf1 := (hQR.out).frozen 1
          have zf2 := (hQR.out).frozen 2
          have zf3 := (hQR.out).frozen 3
          have zl := (hQR.out).lt
          go_wp2_with fail
          have hq := (((hQR.out.set_ 0 (.bool false)).set_ 1 (.slice A1 n e1)).set_ 2 (.slice none 0 0)).set_ 3 (.slice A3 (n + 1) e3)
          have r0 := hq.cell 0
          have r1 := hq.cell 1
          have r2 := hq.cell 2
          have r3 := hq.cell 3
          have rl := hq.lt
          simp at r0 r1 r2 r3 rl
          have tb := hbw.out
          refine bodyPost_ret (v := .tuple #[.agg #[.bool false, .slice A1 n e1, .slice none 0 0, .slice A3 (n + 1) e3], .bool true]) (by simp [results, Try.results37, go_sem, r0, r1, r2, r3, rl]) rfl ⟨A1, e1, A3, e3, rfl, (fun Z hZ => by
            obtain ⟨A1', e1', q1, _, _, hR1⟩ := f1.out (.bool false) (.slice A1 n e1) (.slice none 0 0) (.slice A3 (n + 1) e3) Z (hZ.mono (by omega))
            obtain ⟨A3', e3', q3, _, _, hR3⟩ := f3.out (.bool false) (.slice A1 n e1) (.slice none 0 0) (.slice A3 (n + 1) e3) Z (hZ.mono (by omega))
            cases q1
            cases q3
            exact ⟨hR1, hR3⟩), ?_⟩
          (repeat (first | exact Below.refl _ _ | assumption | refine below_drewN ?_ _ | refine bel_grow ?_ _ | refine Below.drew ?_ | refine bel_alloc ?_ _ | refine bel_set ?_ (by first | exact Nat.le_refl _ | (simp; done) | (simp; omega) | omega) _ | refine bel_trans ?_ (by assumption)))
end Go.Proofs.Ytbmdnifkjcimcaa
