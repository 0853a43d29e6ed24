/-
  A node's body and the node that it is read as: plain laws.
-/
import Derived.Test.YtbmdnifkjcimcaaNv
import Derived.Test.YtbmdnifkjcimcaaNo
namespace Go.Proofs.Ytbmdnifkjcimcaa
set_option linter.unusedVariables false
set_option linter.unusedSimpArgs false
open Go.RowKit

theorem cmpB_congrN {d d' e e' : Nat → Int} {n m : Nat} (h1 : ∀ i, i < n → d i = d' i) (h2 : ∀ i, i < m → e i = e' i) : cmpB d n e m = cmpB d' n e' m := by
  unfold cmpB bL
  rw [List.map_congr_left (g := fun i => UInt8.ofNat (d' i).toNat) (fun i hi => by rw [h1 i (by simpa using hi)]), List.map_congr_left (l := List.range m) (g := fun i => UInt8.ofNat (e' i).toNat) (fun i hi => by rw [h2 i (by simpa using hi)])]
theorem rightB_congr {lf : Bool} {kn vn cn : Nat} {KL KL' VL VL' : Nat → Nat} {K K' V V' : Nat → Nat → Int} {C C' : Nat → Int} {k v : Int} (hKL : ∀ i, i < kn → KL i = KL' i) (hVL : ∀ i, i < vn → VL i = VL' i)
    (hK : ∀ i, i < kn → ∀ j, j < KL' i → K i j = K' i j) (hC : ∀ i, i < cn → C i = C' i) : rightB ⟨lf, kn, KL, K, vn, VL, V, cn, C⟩ k v = rightB ⟨lf, kn, KL', K', vn, VL', V', cn, C'⟩ k v := by
  unfold rightB longB riseB
  dsimp only
  rw [anyB_congr (xs := fun i => ((KL i : Int) != k)) (ys := fun i => ((KL' i : Int) != k)) (n := kn) (fun i hi => by rw [hKL i hi]),
    anyB_congr (xs := fun i => ((VL i : Int) != v)) (ys := fun i => ((VL' i : Int) != v)) (n := vn) (fun i hi => by rw [hVL i hi]),
    anyB_congr (xs := fun i => decide (C i < 2)) (ys := fun i => decide (C' i < 2)) (n := cn) (fun i hi => by rw [hC i hi]),
    anyB_congr (xs := fun i => decide (0 ≤ cmpB (K i) (KL i) (K (i + 1)) (KL (i + 1)))) (ys := fun i => decide (0 ≤ cmpB (K' i) (KL' i) (K' (i + 1)) (KL' (i + 1)))) (n := kn - 1) (fun i hi => by
      rw [hKL i (by omega), hKL (i + 1) (by omega), cmpB_congrN (hK i (by omega)) (hK (i + 1) (by omega))])]
theorem num_nb4N {N : Int} (h : 0 ≤ N ∧ N < 4294967296) : num (nb 4 N) 0 4 = N := by
  simp [num, nb]
  omega
theorem cnt_of {D : Nat → Int} {n : Nat} (hn : n < 65536) (h0 : D 0 = nb 2 n 0) (h1 : D 1 = nb 2 n 1) : cntY D = n := by
  unfold cntY
  rw [h0, h1, nb2_0, nb2_1]
  omega
section
variable {k v n : Nat} {K V : Nat → Nat → Int}
theorem leaf_cnt (hn : n < 65536) : cntY (leafF k v n K V) = n := cnt_of hn (cat_lo (by omega)) (cat_lo (by omega))
theorem leaf_key (i j : Nat) (hj : j < k) : shf (leafF k v n K V) (2 + i * (k + v)) j = K i j := by
  unfold shf leafF
  rw [Nat.add_assoc, cat_hi, rowsF_at (by omega), cat_lo hj]
theorem leaf_val (i j : Nat) (hj : j < v) : shf (leafF k v n K V) (2 + (i * (k + v) + k)) j = V i j := by
  unfold shf leafF
  rw [Nat.add_assoc, cat_hi, Nat.add_assoc, rowsF_at (by omega), cat_hi]
end
theorem leaf_right {kn cn : Nat} {KL VL : Nat → Nat} {K V : Nat → Nat → Int} {C : Nat → Int} {k v : Nat} (h : rightB ⟨true, kn, KL, K, kn, VL, V, cn, C⟩ k v = true) (hc : cn = 0) (hK : ∀ i, i < kn → KL i = k) (hV : ∀ i, i < kn → VL i = v) :
    rightB (ndL k v (leafF k v kn K V) kn) k v = true := by
  subst hc
  rw [← h]
  exact (rightB_congr (fun i hi => hK i hi) (fun i hi => hV i hi) (fun i hi j hj => (leaf_key i j hj).symm) (fun i hi => absurd hi (by omega))).symm
section
variable {k n : Nat} {K : Nat → Nat → Int} {C : Nat → Int}
theorem inn_cnt (hn : n < 65536) : cntY (innF k n K C) = n := cnt_of hn (by unfold innF; rw [cat_lo (by omega), cat_lo (by omega)]) (by unfold innF; rw [cat_lo (by omega), cat_lo (by omega)])
theorem inn_key (i j : Nat) (hj : j < k) : shf (innF k (n + 1) K C) (2 + (4 + n * 4 + i * k)) j = K i j := by
  unfold shf innF
  rw [show 2 + (4 + n * 4 + i * k) + j = 2 + (n + 1) * 4 + (i * k + j) by omega, cat_hi, rowsF_at hj]
theorem inn_kid (i : Nat) (hi : i < n + 1) (hC : 0 ≤ C i ∧ C i < 4294967296) : num (shf (innF k (n + 1) K C) 2) (i * 4) 4 = C i := by
  rw [num_congr (e := fun j => nb 4 (C i) (j - i * 4)) (fun j hj => ?_)]
  · have e := num_shf' (fun j => nb 4 (C i) (j - i * 4)) (i * 4) 0 4
    rw [Nat.add_zero] at e
    rw [← e]
    have e2 : shf (fun j => nb 4 (C i) (j - i * 4)) (i * 4) = nb 4 (C i) := by
      funext j; unfold shf; dsimp only; rw [Nat.add_sub_cancel_left]
    rw [e2]
    exact num_nb4N hC
  · unfold shf innF
    rw [cat_lo (by omega), cat_hi, rowsF_at hj, Nat.add_sub_cancel_left]
end
theorem inn_right {kn vn : Nat} {KL VL : Nat → Nat} {K V : Nat → Nat → Int} {C : Nat → Int} {k : Nat} {v : Int} (h : rightB ⟨false, kn, KL, K, vn, VL, V, kn + 1, C⟩ k v = true) (hv : vn = 0) (hK : ∀ i, i < kn → KL i = k) (hC : ∀ i, 0 ≤ C i ∧ C i < 4294967296) :
    rightB (ndI k (innF k (kn + 1) K C) kn) k v = true := by
  subst hv
  rw [← h]
  exact (rightB_congr (fun i hi => hK i hi) (fun i hi => absurd hi (by omega)) (fun i hi j hj => (inn_key i j hj).symm) (fun i hi => (inn_kid i hi (hC i)).symm)).symm
/-- the body of a node that was read is what it was read from -/
theorem two_back {y : Nat → Int} (hy : ∀ i, 0 ≤ y i ∧ y i < 256) : ∀ j, j < 2 → nb 2 (cntY y) j = y j := by
  intro j hj
  have h0 := hy 0
  have h1 := hy 1
  have e : ((cntY y : Nat) : Int) = y 0 * 256 + y 1 := by unfold cntY; omega
  match j, hj with
  | 0, _ => rw [nb2_0, e]; omega
  | 1, _ => rw [nb2_1, e]; omega
theorem leaf_back {k v : Nat} {y : Nat → Int} (hy : ∀ i, 0 ≤ y i ∧ y i < 256) (hk : 1 ≤ k) : ∀ j, leafF k v (cntY y) (fun i => shf y (2 + i * (k + v))) (fun i => shf y (2 + (i * (k + v) + k))) j = y j := by
  intro j
  unfold leafF
  by_cases hj : j < 2
  · rw [cat_lo hj, two_back hy j hj]
  · obtain ⟨r, rfl⟩ : ∃ r, j = 2 + r := ⟨j - 2, by omega⟩
    rw [cat_hi]
    have hd := Nat.div_add_mod r (k + v)
    rw [Nat.mul_comm] at hd
    have hm := Nat.mod_lt r (show 0 < k + v by omega)
    unfold rowsF
    generalize r / (k + v) = a at *
    generalize r % (k + v) = b at *
    subst hd
    unfold cat shf
    dsimp only
    split
    · congr 1; omega
    · congr 1; omega
theorem inn_back {k M : Nat} {y : Nat → Int} (hy : ∀ i, 0 ≤ y i ∧ y i < 256) (hk : 1 ≤ k) (hM : cntY y = M + 1) : ∀ j, innF k (M + 1) (fun i => shf y (2 + (4 + M * 4 + i * k))) (fun i => num (shf y 2) (i * 4) 4) j = y j := by
  intro j
  unfold innF
  by_cases hj : j < 2
  · rw [cat_lo (by omega), cat_lo hj, ← hM, two_back hy j hj]
  · by_cases hj2 : j < 2 + (M + 1) * 4
    · obtain ⟨r, rfl⟩ : ∃ r, j = 2 + r := ⟨j - 2, by omega⟩
      rw [cat_lo hj2, cat_hi]
      have hm := Nat.mod_lt r (show 0 < 4 by omega)
      have hd := Nat.div_add_mod r 4
      unfold rowsF
      generalize r / 4 = a at *
      generalize r % 4 = b at *
      subst hd
      have e : num (shf y 2) (a * 4) 4 = (((0 * 256 + y (2 + (a * 4 + 0))) * 256 + y (2 + (a * 4 + 1))) * 256 + y (2 + (a * 4 + 2))) * 256 + y (2 + (a * 4 + 3)) := rfl
      dsimp only
      rw [e]
      have h0 := hy (2 + (a * 4 + 0))
      have h1 := hy (2 + (a * 4 + 1))
      have h2 := hy (2 + (a * 4 + 2))
      have h3 := hy (2 + (a * 4 + 3))
      have e4 : 4 * a = a * 4 := Nat.mul_comm _ _
      rw [e4]
      match b, hm with
      | 0, _ => rw [nb4_0 _ (by omega)]; omega
      | 1, _ => rw [nb4_1]; omega
      | 2, _ => rw [nb4_2]; omega
      | 3, _ => rw [nb4_3]; omega
    · obtain ⟨r, rfl⟩ : ∃ r, j = 2 + (M + 1) * 4 + r := ⟨j - (2 + (M + 1) * 4), by omega⟩
      rw [cat_hi]
      have hm := Nat.mod_lt r (show 0 < k by omega)
      have hd := Nat.div_add_mod r k
      rw [Nat.mul_comm] at hd
      unfold rowsF
      generalize r / k = a at *
      generalize r % k = b at *
      subst hd
      unfold shf
      dsimp only
      congr 1
      omega
theorem leafF_ok {k v n : Nat} {K V : Nat → Nat → Int} (hK : ∀ i j, 0 ≤ K i j ∧ K i j < 256) (hV : ∀ i j, 0 ≤ V i j ∧ V i j < 256) (j : Nat) : 0 ≤ leafF k v n K V j ∧ leafF k v n K V j < 256 :=
  cat_ok (nb_lo 2 _) (rowsF_ok (fun i => cat_ok (hK i) (hV i))) j
theorem innF_ok {k n : Nat} {K : Nat → Nat → Int} {C : Nat → Int} (hK : ∀ i j, 0 ≤ K i j ∧ K i j < 256) (j : Nat) : 0 ≤ innF k n K C j ∧ innF k n K C j < 256 :=
  cat_ok (cat_ok (nb_lo 2 _) (rowsF_ok (fun i => nb_lo 4 _))) (rowsF_ok hK) j
end Go.Proofs.Ytbmdnifkjcimcaa
