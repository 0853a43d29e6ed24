/-
  node.Write at inner nodes, and at any node.
-/
import Derived.Test.YtbmdnifkjcimcaaNf
namespace Go.Proofs.Ytbmdnifkjcimcaa
set_option linter.unusedVariables false
set_option linter.unusedSimpArgs false
open Go.RowKit

theorem nb4_0 (x : Int) (h : 0 ≤ x ∧ x < 4294967296) : nb 4 x 0 = x / 16777216 := by unfold nb; simp; omega
theorem nb4_1 (x : Int) : nb 4 x 1 = x / 65536 % 256 := by unfold nb; simp
theorem nb4_2 (x : Int) : nb 4 x 2 = x / 256 % 256 := by unfold nb; simp
theorem nb4_3 (x : Int) : nb 4 x 3 = x % 256 := by unfold nb; simp
theorem kid_step {cn : Nat} {C : Nat → Int} {i N : Nat} (hN : N = 2 + i * 4) : ∀ j, j < N + 4 → cat (cat (nb 2 cn) 2 (rowsF 4 (fun i => nb 4 (C i)))) N (nb 4 (C i)) j = cat (nb 2 cn) 2 (rowsF 4 (fun i => nb 4 (C i))) j := by
  intro j hj
  rw [hN]
  exact rowsF_cat (d := nb 2 cn) (h := 2) (s := 4) (f := fun i => nb 4 (C i)) rfl j (by omega)
theorem slis_four {w : World} {g : Nat} {D : Nat → Int} {a b c d : Int} (h : Blk w g 5 #[.int .u8 a, .int .u8 b, .int .u8 c, .int .u8 d]) (h0 : D 0 = a) (h1 : D 1 = b) (h2 : D 2 = c) (h3 : D 3 = d) : SlIs w (some ⟨g, 0, none⟩) 4 (yV D) := fun _ =>
  ⟨g, 0, rfl, h.lt, fun j hj => by
    rw [Nat.zero_add, h.cell j]
    rcases (by omega : j = 0 ∨ j = 1 ∨ j = 2 ∨ j = 3) with rfl | rfl | rfl | rfl
    · rw [← h0]; rfl
    · rw [← h1]; rfl
    · rw [← h2]; rfl
    · rw [← h3]; rfl⟩
set_option maxRecDepth 8000 in
set_option maxHeartbeats 8000000 in
theorem write_inner (KA VA CA : Option Addr) (kn kc vn vc cn cc : Nat) (KL VL : Nat → Nat) (K V : Nat → Nat → Int) (C : Nat → Int) (k v : Nat) (w : World) (hC : ∀ i, 0 ≤ C i ∧ C i < 4294967296) (hN : NdIs w KA VA CA ⟨false, kn, KL, K, vn, VL, V, cn, C⟩) (h : rightB ⟨false, kn, KL, K, vn, VL, V, cn, C⟩ k v = true) :
    Calls Try.prog 17 #[.agg #[.bool false, .slice KA kn kc, .slice VA vn vc, .slice CA cn cc], .int .i64 k, .int .i64 v] w fun r w' => ∃ A c, r = .returned (.tuple #[.int .u8 4, .slice A (2 + cn * 4 + kn * k) c, .int .i64 0]) ∧ 2 + cn * 4 + kn * k ≤ c ∧ c ≤ maxLen ∧ SlIs w' A (2 + cn * 4 + kn * k) (yV (innF k cn K C)) ∧ Below w.heap.size w w' := by
  obtain ⟨hcap, fK, _, _, _, fI⟩ := right_facts h
  obtain ⟨l1, l2, l3, l4, _⟩ := fI rfl
  clear l1
  simp only [Int.toNat_natCast] at fK l4
  dsimp only at l2 l3 l4 fK
  have HR := fun W (hb : Below w.heap.size w W) => right_any false KA VA CA kn kc vn vc cn cc KL VL K V C k v W (hN.below hb)
  rw [h] at HR
  replace HR := Lib.hid HR
  obtain ⟨n1, _, n3, _⟩ := hN
  dsimp only at n1 n3
  obtain ⟨_, _, _, _⟩ := hcap
  have HCat := Lib.hid (fun W (hb : Below w.heap.size w W) => concatN_any KA kn kc k KL K (by omega) (by omega) (by omega) fK W (n1.below hb))
  have e0 := nb2_0 cn
  have e1 := nb2_1 cn
  have hb0 : cat (nb 2 cn) 2 (rowsF 4 (fun i => nb 4 (C i))) 0 = nb 2 cn 0 := cat_lo (by omega)
  have hb1 : cat (nb 2 cn) 2 (rowsF 4 (fun i => nb 4 (C i))) 1 = nb 2 cn 1 := cat_lo (by omega)
  have HF := fun (i N : Nat) (hN : N = 2 + i * 4) => kid_step (cn := cn) (C := C) hN
  have E0 : cat (nb 2 cn) 2 (rowsF 4 (fun i => nb 4 (C i))) 0 = (cn : Int) / 256 := hb0.trans (e0.trans (by omega))
  have E1 : cat (nb 2 cn) 2 (rowsF 4 (fun i => nb 4 (C i))) 1 = (cn : Int) := hb1.trans (e1.trans (by omega))
  clear e0 e1 hb0 hb1
  have hDD : innF k cn K C = cat (cat (nb 2 cn) 2 (rowsF 4 (fun i => nb 4 (C i)))) (2 + cn * 4) (rowsF k K) := rfl
  generalize innF k cn K C = DD at *
  generalize cat (nb 2 cn) 2 (rowsF 4 (fun i => nb 4 (C i))) = D at *
  generalize rowsF k K = DK at *
  generalize hTT : kn * k = T at *
  have hcn : cn ≤ 200 := by omega
  have hT : T ≤ 498 := by omega
  replace n3 := Lib.hid n3
  replace HF := Lib.hid HF
  replace E0 := Lib.hid E0
  replace E1 := Lib.hid E1
  replace hDD := Lib.hid hDD
  replace hC := Lib.hid hC
  clear h hTT fI fK n1 l3 l4
  have hb0 := Below.refl w.heap.size w
  go_enter Try.func17, Try.ntmps17
  replace hb0 := Lib.hid hb0
  go_wp2_with fail
  refine (HR.out _ (bel_alloc (Below.refl _ _) _)).mono ?_
  rintro e w_1 ⟨rfl, hb_1⟩
  have z_1 := hb_1.size
  try simp at z_1
  have t_ := hb0.out
  have hB_1 := bel_eld (w := w) (X := _) (by first | ((repeat (first | with_reducible exact Below.refl _ _ | with_reducible assumption | (with_reducible refine bel_set ?_ (by first | exact Nat.le_refl _ | (simp; done) | (simp; omega) | omega) _) | with_reducible refine bel_grow ?_ _ | with_reducible refine Below.drew ?_ | with_reducible refine below_drewN ?_ _ | with_reducible refine bel_alloc ?_ _ | with_reducible refine bel_trans ?_ (by assumption))); done) | (repeat (first | exact Below.refl _ _ | assumption | refine below_drewN ?_ _ | refine bel_grow ?_ _ | refine Below.drew ?_ | refine bel_alloc ?_ _ | refine bel_set ?_ (by first | exact Nat.le_refl _ | (simp; done) | (simp; omega) | omega) _ | refine bel_trans ?_ (by assumption)))) hb_1
  clear t_
  have g_n : Blk w_1 (w.heap.size) 28 #[.bool false, .slice KA kn kc, .slice VA vn vc, .slice CA cn cc] := by
    refine Blk.kept ?_ hb_1
    (repeat (first | with_reducible assumption | (with_reducible refine Blk.new' ?_; first | with_reducible rfl | (simp; done)) | with_reducible refine Blk.alloc ?_ _ | with_reducible refine Blk.grow ?_ _ | with_reducible refine Blk.drew ?_ | with_reducible refine Blk.drewN ?_ _ | (with_reducible refine Blk.far ?_ (by first | (dsimp only; omega) | (simp; omega)) _) | (with_reducible apply Blk.two) | (with_reducible refine Blk.set' ?_ _ _ ?_) | (with_reducible rfl) | rfl))
  clear hb0 hb_1
  have f_n := g_n
  clear g_n
  have n_0 : w_1.cell? ⟨w.heap.size, 0, none⟩ = some (.bool false) := (f_n).cell 0
  have n_1 : w_1.cell? ⟨w.heap.size, 1, none⟩ = some (.slice KA kn kc) := (f_n).cell 1
  have n_2 : w_1.cell? ⟨w.heap.size, 2, none⟩ = some (.slice VA vn vc) := (f_n).cell 2
  have n_3 : w_1.cell? ⟨w.heap.size, 3, none⟩ = some (.slice CA cn cc) := (f_n).cell 3
  have n_f0 := (f_n).frozen 0
  have n_f1 := (f_n).frozen 1
  have n_f2 := (f_n).frozen 2
  have n_f3 := (f_n).frozen 3
  have n_l := (f_n).lt
  replace f_n := Lib.hid f_n
  replace hB_1 := Lib.hid hB_1
  go_wp2_with fail
  go_loopw [12, 64] (fun s i wr => ∃ m N : Nat, m ≤ cn ∧ i = .int .i64 m ∧ Hid (N = 2 + m * 4) ∧ Hid (OwnB wr w_1.heap.size s N D) ∧ Hid (Below w_1.heap.size w_1 wr)) (fun _ i _ => cn - (intOf i).toNat)
  case atStart => exact ⟨0, 2, by omega, rfl, by unfold Hid; omega, own_two E0.out E1.out, bel_alloc (Below.refl _ _) _⟩
  case round =>
    obtain ⟨m, N, hm, rfl, hmk, ho, hb⟩ := hrel
    have hbw := bel_eld hB_1.out hb.out
    have gn := f_n.out.kept hb.out
    clear n_l n_0 n_1 n_2 n_3 n_f0 n_f1 n_f2 n_f3
    have x0 := (gn).cell 0
    have x1 := (gn).cell 1
    have x2 := (gn).cell 2
    have x3 := (gn).cell 3
    have xf0 := (gn).frozen 0
    have xf1 := (gn).frozen 1
    have xf2 := (gn).frozen 2
    have xf3 := (gn).frozen 3
    have xl := (gn).lt
    clear gn
    have hsz := hb.out.size
    have hsz0 := hB_1.out.size
    by_cases hlt : m < cn
    · obtain ⟨b, o, rfl, hbl, hcw⟩ := (n3.out.below hbw) (by omega)
      have hc : wr.cell? ⟨b, o + m, none⟩ = some (.int .u32 (C m)) := hcw m hlt
      clear hcw
      have hz := hC.out m
      have HN0 := Lib.hid (nb4_0 (C m) hz)
      have HN1 := Lib.hid (nb4_1 (C m))
      have HN2 := Lib.hid (nb4_2 (C m))
      have HN3 := Lib.hid (nb4_3 (C m))
      have HS := Lib.hid (HF.out m N hmk.out)
      generalize nb 4 (C m) = Q at *
      generalize C m = z at *
      replace hbw := Lib.hid hbw
      obtain ⟨hz0, hz1⟩ := hz
      go_wp2_with (at_builtin; refine wpList_appB rfl (.tmp 68) (.tmp 80) rfl rfl rfl (OwnB.kept ho.out (bel_alloc (Below.refl _ _) _)) (slis_four (D := Q) (Blk.new _ _ _) HN0.out HN1.out HN2.out HN3.out) (by have := hmk.out; omega) (Nat.le_trans hsz (bel_alloc (Below.refl _ _) _).size) ?_; intro v2 w2 ho2 hb2)
      go_roundw
      case rel => exact ⟨m + 1, N + 4, by omega, by go_num, (show N + 4 = 2 + (m + 1) * 4 by have := hmk.out; omega), ho2.cast rfl HS.out, (belb_alloc hb.out hsz _).trans hb2⟩
      case measure => simp [intOf]; omega
    · obtain rfl : m = cn := by omega
      replace hbw := Lib.hid hbw
      go_wp2_with fail
      refine (HCat.out _ (by have t := hbw.out; (repeat (first | exact Below.refl _ _ | assumption | refine below_drewN ?_ _ | refine bel_grow ?_ _ | refine Below.drew ?_ | refine bel_alloc ?_ _ | refine bel_set ?_ (by first | exact Nat.le_refl _ | (simp; done) | (simp; omega) | omega) _ | refine bel_trans ?_ (by assumption))))).mono ?_
      rintro e3 w3 ⟨v3, rfl, ho3, hb3⟩
      obtain ⟨A3, c3, rfl, _, _, s3⟩ := ho3.byS
      have hsz3 := hb3.size
      have ho4 := Lib.hid (OwnB.kept ho.out hb3)
      have hb4 := Lib.hid (bel_eld hb.out hb3)
      replace s3 := Lib.hid s3
      clear ho3 hb3
      go_wp2_with (at_builtin; refine wpList_appB rfl (.tmp 83) (.tmp 86) rfl rfl rfl ho4.out s3.out (by have := hmk.out; omega) (Nat.le_trans hsz hsz3) ?_; intro v5 w5 ho5 hb5)
      obtain ⟨A, c, rfl, hAc, hcm, hs⟩ := ho5.byS
      refine bodyPost_ret (v := .tuple #[.int .u8 4, .slice A (N + T) c, .int .i64 0]) (by simp [results, Try.results17, go_sem]) rfl ⟨A, c, by rw [hmk.out], by rw [← hmk.out]; exact hAc, hcm, ?_, ?_⟩
      · rw [hDD.out, ← hmk.out]; exact hs
      · exact hB_1.out.trans ((hb4.out.trans hb5).mono hsz0)
end Go.Proofs.Ytbmdnifkjcimcaa
