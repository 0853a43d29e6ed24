/-
  balance's total, walked.
-/
import Derived.Test.YtpbnakoimlmhnaaBv
import Derived.Test.YtpbnakoimlmhnaaBk
import Derived.Deep.RegionHeld
import Derived.Deep.DeepCutAuto
namespace Go.Proofs.Ytpbnakoimlmhnaa
set_option linter.unusedVariables false
set_option linter.unusedSimpArgs false
open Go.RowKit

attribute [local go_sem] loadV_ptr storeV_ptr one_func drew_hs ext_deb ext_cre ext_cols ext_acc
attribute [local go_sem ↓] load_Cols store_Cols load_Transfer store_Transfer load_Parties store_Parties load_Acct store_Acct
set_option maxRecDepth 8000 in
set_option maxHeartbeats 8000000 in
theorem total_C (ai1 ai2 ap1 ap2 aq1 aq2 ar1 ar2 as1 as2 atg alg acd afl ast n1 n2 : Int) (har1 : Wd ar1) (har2 : Wd ar2) (has1 : Wd as1) (has2 : Wd as2) (hn1 : Wd n1) (hn2 : Wd n2) (w : World) : Calls Try.prog 52 #[.agg #[.func (.func 76) #[] #[], .func (.func 75) #[] #[], .func (.func 74) #[] #[]], .agg #[.int .u64 ai1, .int .u64 ai2, .int .u64 ap1, .int .u64 ap2, .int .u64 aq1, .int .u64 aq2, .int .u64 ar1, .int .u64 ar2, .int .u64 as1, .int .u64 as2, .int .u64 atg, .int .u32 alg, .int .u16 acd, .int .u16 afl, .int .u64 ast], .agg #[.int .u64 n1, .int .u64 n2]] w fun r w' => r = .returned (.tuple #[.agg #[.int .u64 (s3H ar1 ar2 as1 as2 n1 n2), .int .u64 (s3L ar1 ar2 as1 as2 n1 n2)], .bool (s3B ar1 ar2 as1 as2 n1 n2)]) ∧ Below w.heap.size w w' := by
  have HS := Lib.hid (fun w g h => sum_thr (g := g) (t := 24) har1 har2 has1 has2 hn1 hn2 w h)
  clear har1 har2 has1 has2 hn1 hn2
  generalize s3H ar1 ar2 as1 as2 n1 n2 = oh at *
  generalize s3L ar1 ar2 as1 as2 n1 n2 = ol at *
  generalize s3B ar1 ar2 as1 as2 n1 n2 = ob at *
  have H1 := Lib.hid (fun g k w => creditsPending_any g k w)
  have H2 := Lib.hid (fun g k w => creditsPosted_any g k w)
  go_enter Try.func52, Try.ntmps52
  go_upto_region 2 with fail
  refine abs_wp (fun X => Below w.heap.size w X ∧ Blk X w.heap.size 76 #[.func (.func 76) #[] #[], .func (.func 75) #[] #[], .func (.func 74) #[] #[]] ∧ Blk X (w.heap.size + 1) 30 #[.int .u64 ai1, .int .u64 ai2, .int .u64 ap1, .int .u64 ap2, .int .u64 aq1, .int .u64 aq2, .int .u64 ar1, .int .u64 ar2, .int .u64 as1, .int .u64 as2, .int .u64 atg, .int .u32 alg, .int .u16 acd, .int .u16 afl, .int .u64 ast] ∧ Blk X (w.heap.size + 2) 24 #[.int .u64 n1, .int .u64 n2] ∧ Blk X (w.heap.size + 3) 24 #[.int .u64 0, .int .u64 0] ∧ Blk X (w.heap.size + 4) 108 #[.pointer (some ⟨w.heap.size + 1, 0, none⟩)]) ?_ ?_
  · refine ⟨by (repeat (first | with_reducible exact Below.refl _ _ | with_reducible assumption | (with_reducible refine bel_set ?_ (by first | exact Nat.le_refl _ | (simp; done) | (simp; omega) | omega) _) | with_reducible refine bel_grow ?_ _ | with_reducible refine Below.drew ?_ | with_reducible refine below_drewN ?_ _ | with_reducible refine bel_alloc ?_ _ | with_reducible refine bel_trans ?_ (by assumption))), ?_, ?_, ?_, ?_, ?_⟩
    · exact ((((Blk.new _ _ _).alloc _).alloc _).alloc _).alloc _
    · exact (((Blk.new' (by simp)).alloc _).alloc _).alloc _
    · exact ((Blk.new' (by simp)).alloc _).alloc _
    · exact (Blk.new' (by simp)).alloc _
    · exact Blk.new' (by simp)
  rintro X ⟨bX, gc, ga, gn, gr, gs⟩
  have c0 : X.cell? ⟨w.heap.size, 0, none⟩ = some (.func (.func 76) #[] #[]) := gc.cell 0
  have c1 : X.cell? ⟨w.heap.size, 1, none⟩ = some (.func (.func 75) #[] #[]) := gc.cell 1
  have a0 : X.cell? ⟨w.heap.size + 1, 6, none⟩ = some (.int .u64 ar1) := ga.cell 6
  have a1 : X.cell? ⟨w.heap.size + 1, 7, none⟩ = some (.int .u64 ar2) := ga.cell 7
  have a2 : X.cell? ⟨w.heap.size + 1, 8, none⟩ = some (.int .u64 as1) := ga.cell 8
  have a3 : X.cell? ⟨w.heap.size + 1, 9, none⟩ = some (.int .u64 as2) := ga.cell 9
  have n0 : X.cell? ⟨w.heap.size + 2, 0, none⟩ = some (.int .u64 n1) := gn.cell 0
  have n1_ : X.cell? ⟨w.heap.size + 2, 1, none⟩ = some (.int .u64 n2) := gn.cell 1
  have s0 : X.cell? ⟨w.heap.size + 4, 0, none⟩ = some (.pointer (some ⟨w.heap.size + 1, 0, none⟩)) := gs.cell 0
  clear gc ga gn gs
  replace bX := Lib.hid bX
  replace gr := Lib.hid gr
  (first | (go_region_held (fun w' => w'.cell? ⟨w.heap.size, 0, none⟩ = some (.func (.func 76) #[] #[]) ∧ w'.cell? ⟨w.heap.size, 1, none⟩ = some (.func (.func 75) #[] #[]) ∧ w'.cell? ⟨w.heap.size + 4, 0, none⟩ = some (.pointer (some ⟨w.heap.size + 1, 0, none⟩)) ∧ w'.cell? ⟨w.heap.size + 1, 6, none⟩ = some (.int .u64 ar1) ∧ w'.cell? ⟨w.heap.size + 1, 7, none⟩ = some (.int .u64 ar2) ∧ w'.cell? ⟨w.heap.size + 1, 8, none⟩ = some (.int .u64 as1) ∧ w'.cell? ⟨w.heap.size + 1, 9, none⟩ = some (.int .u64 as2) ∧ w'.cell? ⟨w.heap.size + 2, 0, none⟩ = some (.int .u64 n1) ∧ w'.cell? ⟨w.heap.size + 2, 1, none⟩ = some (.int .u64 n2))
      (first | ((try go_split_ands); (repeat' apply And.intro) <;> (first | with_reducible assumption | ((repeat (first | with_reducible refine keepd ?_ | with_reducible refine keepdr ?_ | with_reducible refine keepal ?_ | with_reducible refine keepral ?_ | with_reducible refine keeps (by dsimp only; omega) ?_ | with_reducible refine keepr (by dsimp only; omega) ?_ | with_reducible refine keepc (by assumption) ?_ | with_reducible refine keeprc (by assumption) ?_)); with_reducible assumption))))
      (first | (go_at_call 76; (with_reducible refine (H1.out _ _ _).mono ?_); rintro e w2 ⟨rfl, hb2⟩; have zs2 := hb2.size; (try simp at zs2); have qr2 : Blk w2 (w.heap.size + 3) 24 #[.int .u64 0, .int .u64 0] := (by (refine Blk.kept ?_ hb2; (first | ((repeat (first | with_reducible assumption | exact Hid.out (by assumption) | (with_reducible refine Blk.new' ?_; first | with_reducible rfl | (simp; done)) | with_reducible refine Blk.alloc ?_ _ | with_reducible refine Blk.drew ?_ | (with_reducible refine Blk.far ?_ (by first | (dsimp only; omega) | (simp; omega)) _))); done) | fail)))) | (go_at_call 75; (with_reducible refine (H2.out _ _ _).mono ?_); rintro e w3 ⟨rfl, hb3⟩; have zs3 := hb3.size; (try simp at zs3); have qr3 : Blk w3 (w.heap.size + 3) 24 #[.int .u64 0, .int .u64 0] := (by (refine Blk.kept ?_ hb3; (first | ((repeat (first | with_reducible assumption | exact Hid.out (by assumption) | (with_reducible refine Blk.new' ?_; first | with_reducible rfl | (simp; done)) | with_reducible refine Blk.alloc ?_ _ | with_reducible refine Blk.drew ?_ | (with_reducible refine Blk.far ?_ (by first | (dsimp only; omega) | (simp; omega)) _))); done) | fail)))) | (go_at_call 79; (with_reducible refine (HS.out _ _ (Blk.new _ _ _)).mono ?_); rintro e w4 ⟨rfl, hb4⟩; have zs4 := hb4.size; (try simp at zs4); have qr4 : Blk w4 (w.heap.size + 3) 24 #[.int .u64 0, .int .u64 0] := (by (refine Blk.kept ?_ hb4; (first | ((repeat (first | with_reducible assumption | exact Hid.out (by assumption) | (with_reducible refine Blk.new' ?_; first | with_reducible rfl | (simp; done)) | with_reducible refine Blk.alloc ?_ _ | with_reducible refine Blk.drew ?_ | (with_reducible refine Blk.far ?_ (by first | (dsimp only; omega) | (simp; omega)) _))); done) | fail))); have qr4_0 := qr4.cell 0; have qr4_f0 := qr4.frozen 0; have qr4_1 := qr4.cell 1; have qr4_f1 := qr4.frozen 1; have qr4_l := qr4.lt))) | fail)
  go_wp2_with fail
  refine abs_post (fun Y => Below w.heap.size w Y ∧ Blk Y (w.heap.size + 3) 24 #[.int .u64 oh, .int .u64 ol]) ?_ ?_
  · have t := bX.out
    refine ⟨by (repeat (first | with_reducible exact Below.refl _ _ | with_reducible assumption | (with_reducible refine bel_set ?_ (by first | exact Nat.le_refl _ | (simp; done) | (simp; omega) | omega) _) | with_reducible refine bel_grow ?_ _ | with_reducible refine Below.drew ?_ | with_reducible refine bel_alloc ?_ _ | with_reducible refine bel_eld ?_ (by assumption))), ?_⟩
    exact Blk.two qr4
  rintro Y ⟨bZ, gP⟩
  have p0 := (gP).cell 0
  have p1 := (gP).cell 1
  have pf0 := (gP).frozen 0
  have pf1 := (gP).frozen 1
  have pl := (gP).lt
  refine bodyPost_ret (v := .tuple #[.agg #[.int .u64 oh, .int .u64 ol], .bool ob]) (by simp [results, Try.results52, go_sem, p0, p1, pl]) rfl ⟨rfl, bZ⟩
end Go.Proofs.Ytpbnakoimlmhnaa
