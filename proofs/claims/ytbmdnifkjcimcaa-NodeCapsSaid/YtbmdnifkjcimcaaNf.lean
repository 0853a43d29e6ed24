/-
  node.Write, walked.
-/
import Derived.Test.YtbmdnifkjcimcaaNe
namespace Go.Proofs.Ytbmdnifkjcimcaa
set_option linter.unusedVariables false
set_option linter.unusedSimpArgs false
open Go.RowKit

/-- a node's body, for keys of k and values of v bytes -/
def leafF (k v kn : Nat) (K V : Nat → Nat → Int) : Nat → Int := cat (nb 2 kn) 2 (rowsF (k + v) (fun i => cat (K i) k (V i)))
def innF (k cn : Nat) (K : Nat → Nat → Int) (C : Nat → Int) : Nat → Int := cat (cat (nb 2 cn) 2 (rowsF 4 (fun i => nb 4 (C i)))) (2 + cn * 4) (rowsF k K)
def bodyF (d : Nd) (k v : Nat) : Nat → Int := if d.leaf = true then leafF k v d.kn d.K d.V else innF k d.cn d.K d.C
def bodyN (d : Nd) (k v : Nat) : Nat := if d.leaf = true then 2 + d.kn * (k + v) else 2 + d.cn * 4 + d.kn * k
def kindN (d : Nd) : Int := if d.leaf = true then 3 else 4
/-- what a right node is -/
theorem right_facts {d : Nd} {k v : Int} (h : rightB d k v = true) : capOk k v ∧ (∀ i, i < d.kn → d.KL i = k.toNat) ∧ (∀ i, i < d.vn → d.VL i = v.toNat) ∧ riseB d.KL d.K d.kn = true ∧
    (d.leaf = true → d.cn = 0 ∧ 1 ≤ d.kn ∧ d.vn = d.kn ∧ d.kn * (k.toNat + v.toNat) ≤ 498) ∧
    (d.leaf = false → d.vn = 0 ∧ 2 ≤ d.cn ∧ d.kn + 1 = d.cn ∧ d.cn * 4 + d.kn * k.toNat ≤ 498 ∧ ∀ i, i < d.cn → 2 ≤ d.C i) := by
  unfold rightB at h
  simp only [Bool.and_eq_true] at h
  obtain ⟨⟨⟨h1, h2⟩, h3⟩, h4⟩ := h
  have hcap : capOk k v := by
    rcases Classical.em (capOk k v) with hc | hc
    · exact hc
    · obtain ⟨e1, e2⟩ := cap_no hc
      rw [e1, e2] at h4
      split at h4
      · simp at h4; omega
      · simp at h4; omega
  obtain ⟨e1, e2⟩ := cap_yes hcap
  have hcap' := hcap
  obtain ⟨c1, c2, c3, c4⟩ := hcap'
  obtain ⟨kk, rfl⟩ := Int.eq_ofNat_of_zero_le (show 0 ≤ k by omega)
  obtain ⟨vv, rfl⟩ := Int.eq_ofNat_of_zero_le c3
  simp only [Int.toNat_natCast]
  refine ⟨hcap, fun i hi => ?_, fun i hi => ?_, h3, fun hl => ?_, fun hl => ?_⟩
  · have t := anyB_no (by simpa [longB] using h1) i hi
    simp at t; omega
  · have t := anyB_no (by simpa [longB] using h2) i hi
    simp at t; omega
  · rw [if_pos hl, e1] at h4
    simp only [decide_eq_true_eq] at h4
    obtain ⟨a1, a2, a3, a4⟩ := h4
    refine ⟨a1, a2, a4, ?_⟩
    have a5 := (Int.le_ediv_iff_mul_le (by omega)).1 a3
    have a6 : ((d.kn * (kk + vv) : Nat) : Int) ≤ 498 := by rw [Int.natCast_mul, Int.natCast_add]; exact a5
    omega
  · rw [if_neg (by simp [hl]), e2] at h4
    simp only [Bool.and_eq_true, decide_eq_true_eq] at h4
    obtain ⟨b1, a1, a2, a3, a4⟩ := h4
    refine ⟨a1, a2, a4, ?_, fun i hi => ?_⟩
    · have a5 := (Int.le_ediv_iff_mul_le (by omega)).1 a3
      have a6 : ((d.cn * (4 + kk) : Nat) : Int) ≤ 498 + kk := by rw [Int.natCast_mul, Int.natCast_add]; exact a5
      have a7 : d.cn * (4 + kk) = d.cn * 4 + (d.kn * kk + kk) := by rw [Nat.mul_add, ← a4, Nat.succ_mul d.kn kk]
      omega
    · have t := anyB_no (by simpa using b1) i hi
      simp at t; omega
theorem nb2_0 (n : Nat) : nb 2 n 0 = (n : Int) / 256 % 256 := by unfold nb; simp
theorem nb2_1 (n : Nat) : nb 2 n 1 = (n : Int) % 256 := by unfold nb; simp
theorem leaf_step {k v kn : Nat} {K V : Nat → Nat → Int} {i N : Nat} (hN : N = 2 + i * (k + v)) : ∀ j, j < N + k + v → cat (cat (leafF k v kn K V) N (K i)) (N + k) (V i) j = leafF k v kn K V j := by
  intro j hj
  rw [← cat_cat, hN]
  exact rowsF_cat (d := nb 2 kn) (h := 2) (f := fun i => cat (K i) k (V i)) rfl j (by omega)
theorem own_two {w : World} {a b : Int} {D : Nat → Int} (h0 : D 0 = a) (h1 : D 1 = b) : OwnB (w.alloc (.cells #[.int .u8 a, .int .u8 b] 5)) w.heap.size (.slice (some ⟨w.heap.size, 0, none⟩) 2 2) 2 D := by
  refine row_own (f := yV D) (rowIs_of rfl rfl (fun i hi => ?_)) (fun i hi => rfl) (Nat.le_refl _) (Nat.le_refl _) (by simp [maxLen])
  rcases (by omega : i = 0 ∨ i = 1) with rfl | rfl
  · rw [← h0]; rfl
  · rw [← h1]; rfl
set_option maxRecDepth 8000 in
set_option maxHeartbeats 4000000 in
theorem write_no (lf : Bool) (KA VA CA : Option Addr) (kn kc vn vc cn cc : Nat) (KL VL : Nat → Nat) (K V : Nat → Nat → Int) (C : Nat → Int) (k v : Int) (w : World) (hN : NdIs w KA VA CA ⟨lf, kn, KL, K, vn, VL, V, cn, C⟩) (h : rightB ⟨lf, kn, KL, K, vn, VL, V, cn, C⟩ k v = false) : Calls Try.prog 17 #[.agg #[.bool lf, .slice KA kn kc, .slice VA vn vc, .slice CA cn cc], .int .i64 k, .int .i64 v] w fun r w' => r = .returned (.tuple #[.int .u8 0, .slice none 0 0, .int .i64 1]) ∧ Below w.heap.size w w' := by
  have HR := fun W (hb : Below w.heap.size w W) => right_any lf KA VA CA kn kc vn vc cn cc KL VL K V C k v W (hN.below hb)
  rw [h] at HR
  replace HR := Lib.hid HR
  clear h hN
  go_enter Try.func17, Try.ntmps17
  go_wp2_with fail
  refine (HR.out _ (bel_alloc (Below.refl _ _) _)).mono ?_
  rintro e1 w1 ⟨rfl, hb1⟩
  go_wp2_with fail
  refine bodyPost_ret (v := .tuple #[.int .u8 0, .slice none 0 0, .int .i64 1]) (by simp [results, Try.results17, go_sem]) rfl ⟨rfl, bel_eld (bel_alloc (Below.refl _ _) _) hb1⟩
set_option maxRecDepth 8000 in
set_option maxHeartbeats 8000000 in
theorem write_leaf (KA VA CA : Option Addr) (kn kc vn vc cn cc : Nat) (KL VL : Nat → Nat) (K V : Nat → Nat → Int) (C : Nat → Int) (k v : Nat) (w : World) (hN : NdIs w KA VA CA ⟨true, kn, KL, K, vn, VL, V, cn, C⟩) (h : rightB ⟨true, kn, KL, K, vn, VL, V, cn, C⟩ k v = true) :
    Calls Try.prog 17 #[.agg #[.bool true, .slice KA kn kc, .slice VA vn vc, .slice CA cn cc], .int .i64 k, .int .i64 v] w fun r w' => ∃ A c, r = .returned (.tuple #[.int .u8 3, .slice A (2 + kn * (k + v)) c, .int .i64 0]) ∧ 2 + kn * (k + v) ≤ c ∧ c ≤ maxLen ∧ SlIs w' A (2 + kn * (k + v)) (yV (leafF k v kn K V)) ∧ Below w.heap.size w w' := by
  obtain ⟨hcap, fK, fV, _, fL, _⟩ := right_facts h
  obtain ⟨l1, l2, l3, l4⟩ := fL rfl
  simp only [Int.toNat_natCast] at fK fV l4
  dsimp only at l1 l2 l3 l4 fK fV
  subst l3
  replace l1 := Lib.hid l1
  have HR := fun W (hb : Below w.heap.size w W) => right_any true KA VA CA vn kc vn vc cn cc KL VL K V C k v W (hN.below hb)
  rw [h] at HR
  replace HR := Lib.hid HR
  obtain ⟨n1, n2, _⟩ := hN
  dsimp only at n1 n2
  obtain ⟨_, _, _, _⟩ := hcap
  have hkn : vn ≤ 498 := Nat.le_trans (Nat.le_mul_of_pos_right vn (by omega)) l4
  have hst := fun i (hi : i < vn) => (show 2 + i * (k + v) + k + v ≤ 2 + vn * (k + v) by have := Nat.mul_le_mul_right (k + v) (show i + 1 ≤ vn from hi); rw [Nat.succ_mul] at this; omega)
  have e0 := nb2_0 vn
  have e1 := nb2_1 vn
  have hb0 : cat (nb 2 vn) 2 (rowsF (k + v) (fun i => cat (K i) k (V i))) 0 = nb 2 vn 0 := cat_lo (by omega)
  have hb1 : cat (nb 2 vn) 2 (rowsF (k + v) (fun i => cat (K i) k (V i))) 1 = nb 2 vn 1 := cat_lo (by omega)
  have HF := fun (i N : Nat) (hN : N = 2 + i * (k + v)) => leaf_step (kn := vn) (K := K) (V := V) hN
  have E0 : leafF k v vn K V 0 = (vn : Int) / 256 := hb0.trans (e0.trans (by omega))
  have E1 : leafF k v vn K V 1 = (vn : Int) % 256 := hb1.trans e1
  clear e0 e1 hb0 hb1
  generalize leafF k v vn K V = D at *
  generalize hTT : 2 + vn * (k + v) = T at *
  replace hst := Lib.hid hst
  replace n1 := Lib.hid n1
  replace n2 := Lib.hid n2
  replace fK := Lib.hid fK
  replace fV := Lib.hid fV
  replace HF := Lib.hid HF
  replace E0 := Lib.hid E0
  replace E1 := Lib.hid E1
  replace hTT := Lib.hid hTT
  clear h fL
  have hb0 := Below.refl w.heap.size w
  go_enter Try.func17, Try.ntmps17
  replace hb0 := Lib.hid hb0
  go_wp2_with fail
  refine (HR.out _ (bel_alloc (Below.refl _ _) _)).mono ?_
  rintro e w_1 ⟨rfl, hb_1⟩
  have z_1 := hb_1.size
  try simp at z_1
  have t_ := hb0.out
  have hB_1 := bel_eld (w := w) (X := _) (by first | ((repeat (first | with_reducible exact Below.refl _ _ | with_reducible assumption | (with_reducible refine bel_set ?_ (by first | exact Nat.le_refl _ | (simp; done) | (simp; omega) | omega) _) | with_reducible refine bel_grow ?_ _ | with_reducible refine Below.drew ?_ | with_reducible refine below_drewN ?_ _ | with_reducible refine bel_alloc ?_ _ | with_reducible refine bel_trans ?_ (by assumption))); done) | (repeat (first | exact Below.refl _ _ | assumption | refine below_drewN ?_ _ | refine bel_grow ?_ _ | refine Below.drew ?_ | refine bel_alloc ?_ _ | refine bel_set ?_ (by first | exact Nat.le_refl _ | (simp; done) | (simp; omega) | omega) _ | refine bel_trans ?_ (by assumption)))) hb_1
  clear t_
  have g_n : Blk w_1 (w.heap.size) 28 #[.bool true, .slice KA vn kc, .slice VA vn vc, .slice CA cn cc] := by
    refine Blk.kept ?_ hb_1
    (repeat (first | with_reducible assumption | (with_reducible refine Blk.new' ?_; first | with_reducible rfl | (simp; done)) | with_reducible refine Blk.alloc ?_ _ | with_reducible refine Blk.grow ?_ _ | with_reducible refine Blk.drew ?_ | with_reducible refine Blk.drewN ?_ _ | (with_reducible refine Blk.far ?_ (by first | (dsimp only; omega) | (simp; omega)) _) | (with_reducible apply Blk.two) | (with_reducible refine Blk.set' ?_ _ _ ?_) | (with_reducible rfl) | rfl))
  clear hb0 hb_1
  have f_n := g_n
  clear g_n
  have n_0 : w_1.cell? ⟨w.heap.size, 0, none⟩ = some (.bool true) := (f_n).cell 0
  have n_1 : w_1.cell? ⟨w.heap.size, 1, none⟩ = some (.slice KA vn kc) := (f_n).cell 1
  have n_2 : w_1.cell? ⟨w.heap.size, 2, none⟩ = some (.slice VA vn vc) := (f_n).cell 2
  have n_3 : w_1.cell? ⟨w.heap.size, 3, none⟩ = some (.slice CA cn cc) := (f_n).cell 3
  have n_f0 := (f_n).frozen 0
  have n_f1 := (f_n).frozen 1
  have n_f2 := (f_n).frozen 2
  have n_f3 := (f_n).frozen 3
  have n_l := (f_n).lt
  replace f_n := Lib.hid f_n
  replace hB_1 := Lib.hid hB_1
  go_wp2_with fail
  go_loopw [9, 35] (fun s i wr => ∃ m N : Nat, m ≤ vn ∧ i = .int .i64 m ∧ Hid (N = 2 + m * (k + v)) ∧ Hid (OwnB wr w_1.heap.size s N D) ∧ Hid (Below w_1.heap.size w_1 wr)) (fun _ i _ => vn - (intOf i).toNat)
  case atStart => exact ⟨0, 2, by omega, rfl, by unfold Hid; omega, own_two E0.out E1.out, bel_alloc (Below.refl _ _) _⟩
  case round =>
    obtain ⟨m, N, hm, rfl, hmk, ho, hb⟩ := hrel
    have hbw := bel_eld hB_1.out hb.out
    have gn := f_n.out.kept hb.out
    clear n_l n_0 n_1 n_2 n_3 n_f0 n_f1 n_f2 n_f3
    have x0 := (gn).cell 0
    have x1 := (gn).cell 1
    have x2 := (gn).cell 2
    have x3 := (gn).cell 3
    have xf0 := (gn).frozen 0
    have xf1 := (gn).frozen 1
    have xf2 := (gn).frozen 2
    have xf3 := (gn).frozen 3
    have xl := (gn).lt
    have x2' : wr.cell? ⟨w.heap.size, 2, none⟩ = some (.slice VA vn vc) := x2
    clear gn
    have hsz := hb.out.size
    have hsz0 := hB_1.out.size
    by_cases hlt : m < vn
    · obtain ⟨b, o, B, C1, rfl, hbl, hcw, _, _, s1⟩ := n1.out.atk fK.out hlt
      obtain ⟨b2, o2, B2, C2, rfl, hbl2, hc2w, _, _, s2⟩ := n2.out.atk fV.out hlt
      have hc := keepc hbw hcw
      have hc2 := keepc hbw hc2w
      clear hcw hc2w
      have s1 := s1.below hbw
      have hTk := hst.out m hlt
      rw [← hmk.out] at hTk
      have hT1 := hTT.out
      replace s1 := Lib.hid s1
      replace s2 := Lib.hid s2
      replace hbw := Lib.hid hbw
      go_upto_region 8 with fail
      go_region_law (first
        | (refine step_appB rfl (.tmp 40) (.tmp 41) rfl rfl rfl (OwnB.drew ho.out) (slis_drew s1.out) (by omega) hsz ?_; intro v1 w1 ho1 hb1; have k0 := keepbb hb1 (by dsimp only; omega) hc2; have k1 := keepbb hb1 (by dsimp only; omega) x2'; replace ho1 := Lib.hid ho1; replace hb1 := Lib.hid hb1)
        | (refine step_appB rfl (.tmp 42) (.tmp 47) rfl rfl rfl ho1.out (s2.out.below ((Below.drew hbw.out).trans (hb1.out.mono hsz0))) (by omega) (Nat.le_trans hsz hb1.out.size) ?_; intro v2 w2 ho2 hb2))
      all_goals (
        go_wp2_with fail
        go_roundw
        case rel => exact ⟨m + 1, N + k + v, by omega, by go_num, (show N + k + v = 2 + (m + 1) * (k + v) by rw [hmk.out, Nat.succ_mul]; omega), ho2.cast rfl (HF.out m N hmk.out), ((Below.drew hb.out).trans hb1.out).trans hb2⟩
        case measure => simp [intOf]; omega)
    · obtain rfl : m = vn := by omega
      obtain ⟨A, c, rfl, hAc, hcm, hs⟩ := ho.out.byS
      obtain rfl : N = T := by rw [hmk.out, hTT.out]
      replace hs := Lib.hid hs
      replace hbw := Lib.hid hbw
      go_wp2_with fail
      refine bodyPost_ret (v := .tuple #[.int .u8 3, .slice A N c, .int .i64 0]) (by simp [results, Try.results17, go_sem]) rfl ⟨A, c, rfl, hAc, hcm, hs.out, hbw.out⟩
end Go.Proofs.Ytbmdnifkjcimcaa
