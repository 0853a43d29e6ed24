/-
  The document's Write, walked.
-/
import Derived.Test.YtbmdnifkjcimcaaNn
import Derived.Test.YtbmdnifkjcimcaaNg
import Derived.Test.YtbmdnifkjcimcaaRefP
namespace Go.Proofs.Ytbmdnifkjcimcaa
set_option linter.unusedVariables false
set_option linter.unusedSimpArgs false
open Go.RowKit

set_option maxRecDepth 8000 in
set_option maxHeartbeats 8000000 in
theorem refwrite_no (lf : Bool) (A1 A2 A3 : Option Addr) (kn c1 vn c2 cn c3 : Nat) (KL VL : Nat → Nat) (K V : Nat → Nat → Int) (C : Nat → Int) (k v : Int) (w : World) (m1 : kn ≤ 1000000) (m2 : vn ≤ 1000000) (m3 : cn ≤ 1000000) (hL : ∀ i, i < kn → KL i ≤ 1000000) (hKb : ∀ i j, 0 ≤ K i j ∧ K i j < 256)
    (hK : SlIs w A1 kn (sV KL K)) (hV : SlIs w A2 vn (sV VL V)) (hC : SlIs w A3 cn (fun j => .int .u32 (C j))) (h : rightB ⟨lf, kn, KL, K, vn, VL, V, cn, C⟩ k v = false) :
    Calls Try.prog 18 #[.agg #[.bool lf, .slice A1 kn c1, .slice A2 vn c2, .slice A3 cn c3], .int .i64 k, .int .i64 v] w fun r w' => r = .returned (.tuple #[.int .u8 0, .string { data := #[] }, .int .i64 1]) ∧ Below w.heap.size w w' := by
  have HR := fun W (hb : Below w.heap.size w W) => refright_any lf A1 A2 A3 kn c1 vn c2 cn c3 KL VL K V C k v W m1 m2 m3 hL hKb (hK.below hb) (hV.below hb) (hC.below hb)
  rw [h] at HR
  replace HR := Lib.hid HR
  clear h hL hKb hK hV hC
  have hb0 := Below.refl w.heap.size w
  go_enter Try.func18, Try.ntmps18
  replace hb0 := Lib.hid hb0
  go_wp2_with fail
  refine (HR.out _ (bel_alloc (Below.refl _ _) _)).mono ?_
  rintro e w_1 ⟨rfl, hb_1⟩
  have z_1 := hb_1.size
  try simp at z_1
  have t_ := hb0.out
  have hB_1 := bel_eld (w := w) (X := _) (by first | ((repeat (first | with_reducible exact Below.refl _ _ | with_reducible assumption | (with_reducible refine bel_set ?_ (by first | exact Nat.le_refl _ | (simp; done) | (simp; omega) | omega) _) | with_reducible refine bel_grow ?_ _ | with_reducible refine Below.drew ?_ | with_reducible refine below_drewN ?_ _ | with_reducible refine bel_alloc ?_ _ | with_reducible refine bel_trans ?_ (by assumption))); done) | (repeat (first | exact Below.refl _ _ | assumption | refine below_drewN ?_ _ | refine bel_grow ?_ _ | refine Below.drew ?_ | refine bel_alloc ?_ _ | refine bel_set ?_ (by first | exact Nat.le_refl _ | (simp; done) | (simp; omega) | omega) _ | refine bel_trans ?_ (by assumption)))) hb_1
  clear t_
  have g_n : Blk w_1 (w.heap.size) 36 #[.bool lf, .slice A1 kn c1, .slice A2 vn c2, .slice A3 cn c3] := by
    refine Blk.kept ?_ hb_1
    (repeat (first | with_reducible assumption | (with_reducible refine Blk.new' ?_; first | with_reducible rfl | (simp; done)) | with_reducible refine Blk.alloc ?_ _ | with_reducible refine Blk.grow ?_ _ | with_reducible refine Blk.drew ?_ | with_reducible refine Blk.drewN ?_ _ | (with_reducible refine Blk.far ?_ (by first | (dsimp only; omega) | (simp; omega)) _) | (with_reducible apply Blk.two) | (with_reducible refine Blk.set' ?_ _ _ ?_) | (with_reducible rfl) | rfl))
  clear hb0 hb_1
  have f_n := g_n
  clear g_n
  have n_0 : w_1.cell? ⟨w.heap.size, 0, none⟩ = some (.bool lf) := (f_n).cell 0
  have n_1 : w_1.cell? ⟨w.heap.size, 1, none⟩ = some (.slice A1 kn c1) := (f_n).cell 1
  have n_2 : w_1.cell? ⟨w.heap.size, 2, none⟩ = some (.slice A2 vn c2) := (f_n).cell 2
  have n_3 : w_1.cell? ⟨w.heap.size, 3, none⟩ = some (.slice A3 cn c3) := (f_n).cell 3
  have n_f0 := (f_n).frozen 0
  have n_f1 := (f_n).frozen 1
  have n_f2 := (f_n).frozen 2
  have n_f3 := (f_n).frozen 3
  have n_l := (f_n).lt
  replace f_n := Lib.hid f_n
  replace hB_1 := Lib.hid hB_1
  go_wp2_with fail
  refine bodyPost_ret (v := .tuple #[.int .u8 0, .string { data := #[] }, .int .i64 1]) (by simp [results, Try.results18, go_sem]) rfl ⟨rfl, hB_1.out⟩
set_option maxRecDepth 8000 in
set_option maxHeartbeats 8000000 in
theorem refwrite_leaf (A1 A2 A3 : Option Addr) (kn c1 vn c2 cn c3 : Nat) (KL VL : Nat → Nat) (K V : Nat → Nat → Int) (C : Nat → Int) (k v : Nat) (w : World) (m1 : kn ≤ 1000000) (m2 : vn ≤ 1000000) (m3 : cn ≤ 1000000) (hL : ∀ i, i < kn → KL i ≤ 1000000) (hKb : ∀ i j, 0 ≤ K i j ∧ K i j < 256)
    (hK : SlIs w A1 kn (sV KL K)) (hV : SlIs w A2 vn (sV VL V)) (hC : SlIs w A3 cn (fun j => .int .u32 (C j))) (h : rightB ⟨true, kn, KL, K, vn, VL, V, cn, C⟩ k v = true) :
    Calls Try.prog 18 #[.agg #[.bool true, .slice A1 kn c1, .slice A2 vn c2, .slice A3 cn c3], .int .i64 k, .int .i64 v] w fun r w' => r = .returned (.tuple #[.int .u8 3, .string (strF (leafF k v kn K V) (2 + kn * (k + v))), .int .i64 0]) ∧ Below w.heap.size w w' := by
  obtain ⟨hcap, fK, fV, _, fL, _⟩ := right_facts h
  obtain ⟨l1, l2, l3, l4⟩ := fL rfl
  simp only [Int.toNat_natCast] at fK fV l4
  dsimp only at l1 l2 l3 l4 fK fV
  subst l3
  clear l1 fL
  have HR := fun W (hb : Below w.heap.size w W) => refright_any true A1 A2 A3 vn c1 vn c2 cn c3 KL VL K V C k v W m1 m2 m3 hL hKb (hK.below hb) (hV.below hb) (hC.below hb)
  rw [h] at HR
  replace HR := Lib.hid HR
  obtain ⟨q1, q2, q3, q4⟩ := hcap
  have hvn : vn ≤ 498 := Nat.le_trans (Nat.le_mul_of_pos_right vn (by omega)) l4
  have H2 := Lib.hid (fun W => Two_any vn (by omega) W)
  have HS := fun m (hm : m < vn) => strF_cg (leaf_step (k := k) (v := v) (kn := vn) (K := K) (V := V) (i := m) (N := 2 + m * (k + v)) rfl)
  have hF0 : strF (nb 2 vn) 2 = strF (leafF k v vn K V) (2 + 0 * (k + v)) := by
    rw [Nat.zero_mul]
    exact strF_cg (fun j hj => (cat_lo hj).symm)
  have hsum : ∀ m, m < vn → m * (k + v) + (k + v) ≤ 498 := fun m hm => by
    have : (m + 1) * (k + v) ≤ vn * (k + v) := Nat.mul_le_mul_right _ (by omega)
    rw [Nat.succ_mul] at this
    omega
  have hkv : k ≤ 24 ∧ v ≤ 108 := by omega
  generalize leafF k v vn K V = F at *
  replace HS := Lib.hid HS
  replace hF0 := Lib.hid hF0
  replace hsum := Lib.hid hsum
  replace hK := Lib.hid hK
  replace hV := Lib.hid hV
  replace fK := Lib.hid fK
  replace fV := Lib.hid fV
  clear h hL hKb hC l4 q1 q2 q3 q4 m1 m2 m3
  have hb0 := Below.refl w.heap.size w
  go_enter Try.func18, Try.ntmps18
  replace hb0 := Lib.hid hb0
  go_wp2_with fail
  refine (HR.out _ (bel_alloc (Below.refl _ _) _)).mono ?_
  rintro e w_1 ⟨rfl, hb_1⟩
  have z_1 := hb_1.size
  try simp at z_1
  have t_ := hb0.out
  have hB_1 := bel_eld (w := w) (X := _) (by first | ((repeat (first | with_reducible exact Below.refl _ _ | with_reducible assumption | (with_reducible refine bel_set ?_ (by first | exact Nat.le_refl _ | (simp; done) | (simp; omega) | omega) _) | with_reducible refine bel_grow ?_ _ | with_reducible refine Below.drew ?_ | with_reducible refine below_drewN ?_ _ | with_reducible refine bel_alloc ?_ _ | with_reducible refine bel_trans ?_ (by assumption))); done) | (repeat (first | exact Below.refl _ _ | assumption | refine below_drewN ?_ _ | refine bel_grow ?_ _ | refine Below.drew ?_ | refine bel_alloc ?_ _ | refine bel_set ?_ (by first | exact Nat.le_refl _ | (simp; done) | (simp; omega) | omega) _ | refine bel_trans ?_ (by assumption)))) hb_1
  clear t_
  have g_n : Blk w_1 (w.heap.size) 36 #[.bool true, .slice A1 vn c1, .slice A2 vn c2, .slice A3 cn c3] := by
    refine Blk.kept ?_ hb_1
    (repeat (first | with_reducible assumption | (with_reducible refine Blk.new' ?_; first | with_reducible rfl | (simp; done)) | with_reducible refine Blk.alloc ?_ _ | with_reducible refine Blk.grow ?_ _ | with_reducible refine Blk.drew ?_ | with_reducible refine Blk.drewN ?_ _ | (with_reducible refine Blk.far ?_ (by first | (dsimp only; omega) | (simp; omega)) _) | (with_reducible apply Blk.two) | (with_reducible refine Blk.set' ?_ _ _ ?_) | (with_reducible rfl) | rfl))
  clear hb0 hb_1
  have f_n := g_n
  clear g_n
  have n_0 : w_1.cell? ⟨w.heap.size, 0, none⟩ = some (.bool true) := (f_n).cell 0
  have n_1 : w_1.cell? ⟨w.heap.size, 1, none⟩ = some (.slice A1 vn c1) := (f_n).cell 1
  have n_2 : w_1.cell? ⟨w.heap.size, 2, none⟩ = some (.slice A2 vn c2) := (f_n).cell 2
  have n_3 : w_1.cell? ⟨w.heap.size, 3, none⟩ = some (.slice A3 cn c3) := (f_n).cell 3
  have n_f0 := (f_n).frozen 0
  have n_f1 := (f_n).frozen 1
  have n_f2 := (f_n).frozen 2
  have n_f3 := (f_n).frozen 3
  have n_l := (f_n).lt
  replace f_n := Lib.hid f_n
  replace hB_1 := Lib.hid hB_1
  go_wp2_with fail
  refine (H2.out _).mono ?_
  rintro e w_2 ⟨rfl, hb_2⟩
  have z_2 := hb_2.size
  try simp at z_2
  have t_ := hB_1.out
  have hB_2 := bel_eld (w := w) (X := _) (by first | ((repeat (first | with_reducible exact Below.refl _ _ | with_reducible assumption | (with_reducible refine bel_set ?_ (by first | exact Nat.le_refl _ | (simp; done) | (simp; omega) | omega) _) | with_reducible refine bel_grow ?_ _ | with_reducible refine Below.drew ?_ | with_reducible refine below_drewN ?_ _ | with_reducible refine bel_alloc ?_ _ | with_reducible refine bel_trans ?_ (by assumption))); done) | (repeat (first | exact Below.refl _ _ | assumption | refine below_drewN ?_ _ | refine bel_grow ?_ _ | refine Below.drew ?_ | refine bel_alloc ?_ _ | refine bel_set ?_ (by first | exact Nat.le_refl _ | (simp; done) | (simp; omega) | omega) _ | refine bel_trans ?_ (by assumption)))) hb_2
  clear t_
  have t_n := f_n.out
  have g_n : Blk w_2 (w.heap.size) 36 #[.bool true, .slice A1 vn c1, .slice A2 vn c2, .slice A3 cn c3] := by
    refine Blk.kept ?_ hb_2
    (repeat (first | with_reducible assumption | (with_reducible refine Blk.new' ?_; first | with_reducible rfl | (simp; done)) | with_reducible refine Blk.alloc ?_ _ | with_reducible refine Blk.grow ?_ _ | with_reducible refine Blk.drew ?_ | with_reducible refine Blk.drewN ?_ _ | (with_reducible refine Blk.far ?_ (by first | (dsimp only; omega) | (simp; omega)) _) | (with_reducible apply Blk.two) | (with_reducible refine Blk.set' ?_ _ _ ?_) | (with_reducible rfl) | rfl))
  clear f_n n_l n_0 n_1 n_2 n_3 n_f0 n_f1 n_f2 n_f3 t_n hB_1 hb_2
  have f_n := g_n
  clear g_n
  have n_0 : w_2.cell? ⟨w.heap.size, 0, none⟩ = some (.bool true) := (f_n).cell 0
  have n_1 : w_2.cell? ⟨w.heap.size, 1, none⟩ = some (.slice A1 vn c1) := (f_n).cell 1
  have n_2 : w_2.cell? ⟨w.heap.size, 2, none⟩ = some (.slice A2 vn c2) := (f_n).cell 2
  have n_3 : w_2.cell? ⟨w.heap.size, 3, none⟩ = some (.slice A3 cn c3) := (f_n).cell 3
  have n_f0 := (f_n).frozen 0
  have n_f1 := (f_n).frozen 1
  have n_f2 := (f_n).frozen 2
  have n_f3 := (f_n).frozen 3
  have n_l := (f_n).lt
  replace f_n := Lib.hid f_n
  replace hB_2 := Lib.hid hB_2
  rw [hF0.out]
  go_wp2_with fail
  go_loopw [9, 10] (fun s i wr => ∃ m : Nat, m ≤ vn ∧ i = .int .i64 m ∧ s = .string (strF F (2 + m * (k + v))) ∧ Hid (Below w.heap.size w wr) ∧ Hid (Blk wr w.heap.size 36 #[.bool true, .slice A1 vn c1, .slice A2 vn c2, .slice A3 cn c3])) (fun _ i _ => vn - (intOf i).toNat)
  case atStart => exact ⟨0, by omega, rfl, by simp, hB_2.out, f_n.out⟩
  case round =>
    obtain ⟨m, hm, rfl, rfl, hbw, gn⟩ := hrel
    clear f_n n_l n_0 n_1 n_2 n_3 n_f0 n_f1 n_f2 n_f3 hB_2
    have x0 := (gn.out).cell 0
    have x1 := (gn.out).cell 1
    have x2 := (gn.out).cell 2
    have x3 := (gn.out).cell 3
    have xf0 := (gn.out).frozen 0
    have xf1 := (gn.out).frozen 1
    have xf2 := (gn.out).frozen 2
    have xf3 := (gn.out).frozen 3
    have xl := (gn.out).lt
    by_cases hlt : m < vn
    · obtain ⟨b, o, rfl, hbl, hcl⟩ := (hK.out.below hbw.out) (by omega)
      have hc1 : wr.cell? ⟨b, o + m, none⟩ = some (.string (strF (K m) k)) := (by rw [← fK.out m hlt]; exact hcl m hlt)
      clear hcl
      obtain ⟨b2, o2, rfl, hbl2, hcl2⟩ := (hV.out.below hbw.out) (by omega)
      have hc2 : wr.cell? ⟨b2, o2 + m, none⟩ = some (.string (strF (V m) v)) := (by rw [← fV.out m hlt]; exact hcl2 m hlt)
      clear hcl2
      have qa := fun W => add_strF (P := Try.prog) W F (K m) (2 + m * (k + v)) k (by have := hsum.out m hlt; omega)
      have qb := fun W => add_strF (P := Try.prog) W (cat F (2 + m * (k + v)) (K m)) (V m) (2 + m * (k + v) + k) v (by have := hsum.out m hlt; omega)
      rw [HS.out m hlt] at qb
      have hs2 := Lib.hid (show strF F (2 + m * (k + v) + k + v) = strF F (2 + (m + 1) * (k + v)) by rw [Nat.succ_mul]; congr 1; omega)
      generalize strF F (2 + m * (k + v) + k + v) = s2 at *
      generalize strF (cat F (2 + m * (k + v)) (K m)) (2 + m * (k + v) + k) = s1 at *
      generalize strF F (2 + m * (k + v)) = s0 at *
      generalize strF (K m) k = sk at *
      generalize strF (V m) v = sv at *
      go_wp2_with fail
      first | (with_reducible refine rgrow2 (by kernel_rfl) (by kernel_rfl) ?_) | (refine rgrow (by kernel_rfl) (by kernel_rfl) ?_)
      repeat (go_big_quiet_step ((fail)))
      refine wpQuiet_nil ?_
      intro dr
      go_wp2_with fail
      go_roundw
      case rel =>
        have t1 := hbw.out
        have t2 := gn.out
        exact ⟨m + 1, by omega, by go_num, (show Value.string s2 = Value.string _ by rw [hs2.out]), (by show Below _ _ _; (repeat (first | exact Below.refl _ _ | assumption | refine below_drewN ?_ _ | refine bel_grow ?_ _ | refine Below.drew ?_ | refine bel_alloc ?_ _ | refine bel_set ?_ (by first | exact Nat.le_refl _ | (simp; done) | (simp; omega) | omega) _ | refine bel_trans ?_ (by assumption)))), (by show Blk _ _ _ _; (repeat (first | with_reducible assumption | (with_reducible refine Blk.new' ?_; first | with_reducible rfl | (simp; done)) | with_reducible refine Blk.alloc ?_ _ | with_reducible refine Blk.grow ?_ _ | with_reducible refine Blk.drew ?_ | with_reducible refine Blk.drewN ?_ _ | (with_reducible refine Blk.far ?_ (by first | (dsimp only; omega) | (simp; omega)) _) | (with_reducible apply Blk.two) | (with_reducible refine Blk.set' ?_ _ _ ?_) | (with_reducible rfl) | rfl)))⟩
      case measure => simp [intOf]; omega
    · obtain rfl : vn = m := by omega
      go_wp2_with fail
      refine bodyPost_ret (v := .tuple #[.int .u8 3, .string (strF F (2 + vn * (k + v))), .int .i64 0]) (by simp [results, Try.results18, go_sem]) rfl ⟨rfl, hbw.out⟩
set_option maxRecDepth 8000 in
set_option maxHeartbeats 8000000 in
theorem refwrite_inner (A1 A2 A3 : Option Addr) (kn c1 vn c2 cn c3 : Nat) (KL VL : Nat → Nat) (K V : Nat → Nat → Int) (C : Nat → Int) (k v : Nat) (w : World) (m1 : kn ≤ 1000000) (m2 : vn ≤ 1000000) (m3 : cn ≤ 1000000) (hL : ∀ i, i < kn → KL i ≤ 1000000) (hKb : ∀ i j, 0 ≤ K i j ∧ K i j < 256) (hCb : ∀ i, 0 ≤ C i ∧ C i < 4294967296)
    (hK : SlIs w A1 kn (sV KL K)) (hV : SlIs w A2 vn (sV VL V)) (hC : SlIs w A3 cn (fun j => .int .u32 (C j))) (h : rightB ⟨false, kn, KL, K, vn, VL, V, cn, C⟩ k v = true) :
    Calls Try.prog 18 #[.agg #[.bool false, .slice A1 kn c1, .slice A2 vn c2, .slice A3 cn c3], .int .i64 k, .int .i64 v] w fun r w' => r = .returned (.tuple #[.int .u8 4, .string (strF (innF k cn K C) (2 + cn * 4 + kn * k)), .int .i64 0]) ∧ Below w.heap.size w w' := by
  obtain ⟨hcap, fK, _, _, _, fI⟩ := right_facts h
  obtain ⟨l1, l2, l3, l4, _⟩ := fI rfl
  clear l1
  simp only [Int.toNat_natCast] at fK l4
  dsimp only at l2 l3 l4 fK
  have HR := fun W (hb : Below w.heap.size w W) => refright_any false A1 A2 A3 kn c1 vn c2 cn c3 KL VL K V C k v W m1 m2 m3 hL hKb (hK.below hb) (hV.below hb) (hC.below hb)
  rw [h] at HR
  replace HR := Lib.hid HR
  obtain ⟨q1, q2, q3, q4⟩ := hcap
  have hcn : cn ≤ 200 := by omega
  have H2 := Lib.hid (fun W => Two_any cn (by omega) W)
  have H4 := Lib.hid (fun i W => Four_any (C i) (hCb i) W)
  have HS := fun m => strF_cg (kid_step (cn := cn) (C := C) (i := m) (N := 2 + m * 4) rfl)
  have HT := fun m => strF_cg (rowsF_cat (d := cat (nb 2 cn) 2 (rowsF 4 (fun i => nb 4 (C i)))) (h := 2 + cn * 4) (s := k) (f := K) (i := m) (n := m * k) rfl)
  have hG0 : strF (nb 2 cn) 2 = strF (cat (nb 2 cn) 2 (rowsF 4 (fun i => nb 4 (C i)))) (2 + 0 * 4) := by
    rw [Nat.zero_mul]
    exact strF_cg (fun j hj => (cat_lo hj).symm)
  have hF0 : strF (cat (nb 2 cn) 2 (rowsF 4 (fun i => nb 4 (C i)))) (2 + cn * 4) = strF (innF k cn K C) (2 + cn * 4 + 0 * k) := by
    rw [Nat.zero_mul]
    exact strF_cg (fun j hj => (cat_lo hj).symm)
  have hIF : innF k cn K C = cat (cat (nb 2 cn) 2 (rowsF 4 (fun i => nb 4 (C i)))) (2 + cn * 4) (rowsF k K) := rfl
  rw [← hIF] at HT
  clear hIF
  have hsum : ∀ m, m < kn → m * k + k ≤ 498 := fun m hm => by
    have : (m + 1) * k ≤ kn * k := Nat.mul_le_mul_right _ (by omega)
    rw [Nat.succ_mul] at this
    omega
  have hk24 : k ≤ 24 := by omega
  have hkn : kn ≤ 200 := by omega
  generalize innF k cn K C = F at *
  generalize cat (nb 2 cn) 2 (rowsF 4 (fun i => nb 4 (C i))) = G at *
  replace HS := Lib.hid HS
  replace HT := Lib.hid HT
  replace hF0 := Lib.hid hF0
  replace hG0 := Lib.hid hG0
  replace hsum := Lib.hid hsum
  replace hK := Lib.hid hK
  replace hC := Lib.hid hC
  replace fK := Lib.hid fK
  replace l3 := Lib.hid l3
  clear h hL hKb hV l4 q1 q2 q3 q4 m1 m2 m3 fI hCb
  have hb0 := Below.refl w.heap.size w
  go_enter Try.func18, Try.ntmps18
  replace hb0 := Lib.hid hb0
  go_wp2_with fail
  refine (HR.out _ (bel_alloc (Below.refl _ _) _)).mono ?_
  rintro e w_1 ⟨rfl, hb_1⟩
  have z_1 := hb_1.size
  try simp at z_1
  have t_ := hb0.out
  have hB_1 := bel_eld (w := w) (X := _) (by first | ((repeat (first | with_reducible exact Below.refl _ _ | with_reducible assumption | (with_reducible refine bel_set ?_ (by first | exact Nat.le_refl _ | (simp; done) | (simp; omega) | omega) _) | with_reducible refine bel_grow ?_ _ | with_reducible refine Below.drew ?_ | with_reducible refine below_drewN ?_ _ | with_reducible refine bel_alloc ?_ _ | with_reducible refine bel_trans ?_ (by assumption))); done) | (repeat (first | exact Below.refl _ _ | assumption | refine below_drewN ?_ _ | refine bel_grow ?_ _ | refine Below.drew ?_ | refine bel_alloc ?_ _ | refine bel_set ?_ (by first | exact Nat.le_refl _ | (simp; done) | (simp; omega) | omega) _ | refine bel_trans ?_ (by assumption)))) hb_1
  clear t_
  have g_n : Blk w_1 (w.heap.size) 36 #[.bool false, .slice A1 kn c1, .slice A2 vn c2, .slice A3 cn c3] := by
    refine Blk.kept ?_ hb_1
    (repeat (first | with_reducible assumption | (with_reducible refine Blk.new' ?_; first | with_reducible rfl | (simp; done)) | with_reducible refine Blk.alloc ?_ _ | with_reducible refine Blk.grow ?_ _ | with_reducible refine Blk.drew ?_ | with_reducible refine Blk.drewN ?_ _ | (with_reducible refine Blk.far ?_ (by first | (dsimp only; omega) | (simp; omega)) _) | (with_reducible apply Blk.two) | (with_reducible refine Blk.set' ?_ _ _ ?_) | (with_reducible rfl) | rfl))
  clear hb0 hb_1
  have f_n := g_n
  clear g_n
  have n_0 : w_1.cell? ⟨w.heap.size, 0, none⟩ = some (.bool false) := (f_n).cell 0
  have n_1 : w_1.cell? ⟨w.heap.size, 1, none⟩ = some (.slice A1 kn c1) := (f_n).cell 1
  have n_2 : w_1.cell? ⟨w.heap.size, 2, none⟩ = some (.slice A2 vn c2) := (f_n).cell 2
  have n_3 : w_1.cell? ⟨w.heap.size, 3, none⟩ = some (.slice A3 cn c3) := (f_n).cell 3
  have n_f0 := (f_n).frozen 0
  have n_f1 := (f_n).frozen 1
  have n_f2 := (f_n).frozen 2
  have n_f3 := (f_n).frozen 3
  have n_l := (f_n).lt
  replace f_n := Lib.hid f_n
  replace hB_1 := Lib.hid hB_1
  go_wp2_with fail
  refine (H2.out _).mono ?_
  rintro e w_2 ⟨rfl, hb_2⟩
  have z_2 := hb_2.size
  try simp at z_2
  have t_ := hB_1.out
  have hB_2 := bel_eld (w := w) (X := _) (by first | ((repeat (first | with_reducible exact Below.refl _ _ | with_reducible assumption | (with_reducible refine bel_set ?_ (by first | exact Nat.le_refl _ | (simp; done) | (simp; omega) | omega) _) | with_reducible refine bel_grow ?_ _ | with_reducible refine Below.drew ?_ | with_reducible refine below_drewN ?_ _ | with_reducible refine bel_alloc ?_ _ | with_reducible refine bel_trans ?_ (by assumption))); done) | (repeat (first | exact Below.refl _ _ | assumption | refine below_drewN ?_ _ | refine bel_grow ?_ _ | refine Below.drew ?_ | refine bel_alloc ?_ _ | refine bel_set ?_ (by first | exact Nat.le_refl _ | (simp; done) | (simp; omega) | omega) _ | refine bel_trans ?_ (by assumption)))) hb_2
  clear t_
  have t_n := f_n.out
  have g_n : Blk w_2 (w.heap.size) 36 #[.bool false, .slice A1 kn c1, .slice A2 vn c2, .slice A3 cn c3] := by
    refine Blk.kept ?_ hb_2
    (repeat (first | with_reducible assumption | (with_reducible refine Blk.new' ?_; first | with_reducible rfl | (simp; done)) | with_reducible refine Blk.alloc ?_ _ | with_reducible refine Blk.grow ?_ _ | with_reducible refine Blk.drew ?_ | with_reducible refine Blk.drewN ?_ _ | (with_reducible refine Blk.far ?_ (by first | (dsimp only; omega) | (simp; omega)) _) | (with_reducible apply Blk.two) | (with_reducible refine Blk.set' ?_ _ _ ?_) | (with_reducible rfl) | rfl))
  clear f_n n_l n_0 n_1 n_2 n_3 n_f0 n_f1 n_f2 n_f3 t_n hB_1 hb_2
  have f_n := g_n
  clear g_n
  have n_0 : w_2.cell? ⟨w.heap.size, 0, none⟩ = some (.bool false) := (f_n).cell 0
  have n_1 : w_2.cell? ⟨w.heap.size, 1, none⟩ = some (.slice A1 kn c1) := (f_n).cell 1
  have n_2 : w_2.cell? ⟨w.heap.size, 2, none⟩ = some (.slice A2 vn c2) := (f_n).cell 2
  have n_3 : w_2.cell? ⟨w.heap.size, 3, none⟩ = some (.slice A3 cn c3) := (f_n).cell 3
  have n_f0 := (f_n).frozen 0
  have n_f1 := (f_n).frozen 1
  have n_f2 := (f_n).frozen 2
  have n_f3 := (f_n).frozen 3
  have n_l := (f_n).lt
  replace f_n := Lib.hid f_n
  replace hB_2 := Lib.hid hB_2
  rw [hG0.out]
  go_wp2_with fail
  go_loopw [11, 12] (fun s i wr => ∃ m : Nat, m ≤ cn ∧ i = .int .i64 m ∧ s = .string (strF G (2 + m * 4)) ∧ Hid (Below w.heap.size w wr) ∧ Hid (Blk wr w.heap.size 36 #[.bool false, .slice A1 kn c1, .slice A2 vn c2, .slice A3 cn c3])) (fun _ i _ => cn - (intOf i).toNat)
  case atStart => exact ⟨0, by omega, rfl, by simp, hB_2.out, f_n.out⟩
  case round =>
    obtain ⟨m, hm, rfl, rfl, hbw, gn⟩ := hrel
    clear f_n n_l n_0 n_1 n_2 n_3 n_f0 n_f1 n_f2 n_f3 hB_2
    have x0 := (gn.out).cell 0
    have x1 := (gn.out).cell 1
    have x2 := (gn.out).cell 2
    have x3 := (gn.out).cell 3
    have xf0 := (gn.out).frozen 0
    have xf1 := (gn.out).frozen 1
    have xf2 := (gn.out).frozen 2
    have xf3 := (gn.out).frozen 3
    have xl := (gn.out).lt
    by_cases hlt : m < cn
    · obtain ⟨b, o, rfl, hbl, hcl⟩ := (hC.out.below hbw.out) (by omega)
      have hc1 : wr.cell? ⟨b, o + m, none⟩ = some (.int .u32 (C m)) := hcl m hlt
      clear hcl
      have qa := fun W => add_strF (P := Try.prog) W G (nb 4 (C m)) (2 + m * 4) 4 (by omega)
      rw [HS.out m] at qa
      have hs2 := Lib.hid (show strF G (2 + m * 4 + 4) = strF G (2 + (m + 1) * 4) by congr 1; omega)
      have H4m := H4.out m wr
      generalize strF G (2 + m * 4 + 4) = s2 at *
      generalize strF G (2 + m * 4) = s0 at *
      generalize strF (nb 4 (C m)) 4 = sk at *
      generalize C m = z at *
      replace H4m := Lib.hid H4m
      go_wp2_with fail
      refine H4m.out.mono ?_
      rintro e9 w9 ⟨rfl, hb9⟩
      have hB9 := Lib.hid (bel_eld hbw.out hb9)
      have gn9 := Lib.hid (gn.out.kept hb9)
      clear hb9 x0 x1 x2 x3 xf0 xf1 xf2 xf3 xl hc1 gn hbw
      go_wp2_with fail
      go_roundw
      case rel => exact ⟨m + 1, by omega, by go_num, (show Value.string s2 = Value.string _ by rw [hs2.out]), hB9.out, gn9.out⟩
      case measure => simp [intOf]; omega
    · obtain rfl : cn = m := by omega
      rw [hF0.out]
      obtain ⟨Y, rfl⟩ : ∃ Y : World, Y = wr := ⟨_, rfl⟩
      have hY := hbw
      have sK := Lib.hid (hK.out.below hY.out)
      clear hbw
      go_wp2_with fail
      go_loopw [11, 13] (fun s i wr => ∃ m : Nat, m ≤ kn ∧ i = .int .i64 m ∧ s = .string (strF F (2 + cn * 4 + m * k)) ∧ Y = wr) (fun _ i _ => kn - (intOf i).toNat)
      case atStart => exact ⟨0, by omega, rfl, by simp, rfl⟩
      case round =>
        obtain ⟨m, hm, rfl, rfl, rfl⟩ := hrel
        by_cases hlt : m < kn
        · obtain ⟨b, o, rfl, hbl, hcl⟩ := sK.out (by omega)
          have hc1 : Y.cell? ⟨b, o + m, none⟩ = some (.string (strF (K m) k)) := (by rw [← fK.out m hlt]; exact hcl m hlt)
          clear hcl
          have qa := fun W => add_strF (P := Try.prog) W F (K m) (2 + cn * 4 + m * k) k (by have := hsum.out m hlt; omega)
          rw [HT.out m] at qa
          have hs2 := Lib.hid (show strF F (2 + cn * 4 + m * k + k) = strF F (2 + cn * 4 + (m + 1) * k) by rw [Nat.succ_mul]; congr 1; omega)
          generalize strF F (2 + cn * 4 + m * k + k) = s2 at *
          generalize strF F (2 + cn * 4 + m * k) = s0 at *
          generalize strF (K m) k = sk at *
          go_wp2_with fail
          go_roundw
          case rel => exact ⟨m + 1, by omega, by go_num, (show Value.string s2 = Value.string _ by rw [hs2.out]), trivial⟩
          case measure => simp [intOf]; omega
        · obtain rfl : kn = m := by omega
          go_wp2_with fail
          refine bodyPost_ret (v := .tuple #[.int .u8 4, .string (strF F (2 + cn * 4 + kn * k)), .int .i64 0]) (by simp [results, Try.results18, go_sem]) rfl ⟨rfl, hY.out⟩
end Go.Proofs.Ytbmdnifkjcimcaa
