/-
  RecordRows, walked.
-/
import Derived.Test.YtflaeljjalpnkaaKeepF
import Derived.Test.YtflaeljjalpnkaaKeepB
import Derived.Test.YtflaeljjalpnkaaKeyD
import Derived.Test.YtflaeljjalpnkaaRecQ
import Derived.Test.YtflaeljjalpnkaaRecE
import Derived.Test.YtflaeljjalpnkaaRefB
import Derived.Deep.RegionHeld
import Derived.Test.YtflaeljjalpnkaaRefC
namespace Go.Proofs.Ytflaeljjalpnkaa
set_option linter.unusedVariables false
set_option linter.unusedSimpArgs false
open Go.RowKit

theorem putBalance_sl (p1 p2 q1 q2 r1 r2 s1 s2 st : Int) (hp1 : Wd p1) (hp2 : Wd p2) (hq1 : Wd q1) (hq2 : Wd q2) (hr1 : Wd r1) (hr2 : Wd r2) (hs1 : Wd s1) (hs2 : Wd s2) (hst : Wd st) (w : World) : Calls Try.prog 37 #[.agg #[.int .u64 p1, .int .u64 p2, .int .u64 q1, .int .u64 q2, .int .u64 r1, .int .u64 r2, .int .u64 s1, .int .u64 s2, .int .u64 st]] w fun r w' => ∃ A c, r = .returned (.slice A 72 c) ∧ 72 ≤ c ∧ c ≤ maxLen ∧ SlIs w' A 72 (yV (putBalanceD p1 p2 q1 q2 r1 r2 s1 s2 st)) ∧ Below w.heap.size w w' := by
  refine (putBalance_any p1 p2 q1 q2 r1 r2 s1 s2 st hp1 hp2 hq1 hq2 hr1 hr2 hs1 hs2 hst w).mono ?_
  rintro e w' ⟨v, rfl, ho, hb⟩
  obtain ⟨A, c, rfl, e1, m1, s1⟩ := ho.byS
  exact ⟨A, c, rfl, e1, m1, s1, hb⟩
theorem keepRow_sl (h l p1 p2 q1 q2 r1 r2 s1 s2 st sd : Int) (hh : Wd h) (hl : Wd l) (hp1 : Wd p1) (hp2 : Wd p2) (hq1 : Wd q1) (hq2 : Wd q2) (hr1 : Wd r1) (hr2 : Wd r2) (hs1 : Wd s1) (hs2 : Wd s2) (hst : Wd st) (w : World) : Calls Try.prog 11 #[.agg #[.int .u64 h, .int .u64 l], .agg #[.int .u64 p1, .int .u64 p2, .int .u64 q1, .int .u64 q2, .int .u64 r1, .int .u64 r2, .int .u64 s1, .int .u64 s2, .int .u64 st, .int .u8 sd]] w fun r w' => ∃ A c B k, r = .returned (.tuple #[.slice A 24 c, .slice B 65 k]) ∧ (24 ≤ c ∧ c ≤ maxLen) ∧ (65 ≤ k ∧ k ≤ maxLen) ∧ SlIs w' A 24 (yV (cat (dgt h l) 16 (nb 8 st))) ∧ SlIs w' B 65 (yV (rowD sd p1 p2 q1 q2 r1 r2 s1 s2 st)) ∧ Below w.heap.size w w' := by
  refine (keepRow_any h l p1 p2 q1 q2 r1 r2 s1 s2 st sd hh hl hp1 hp2 hq1 hq2 hr1 hr2 hs1 hs2 hst w).mono ?_
  rintro e w' ⟨v1, v2, rfl, b1, b2, hb⟩
  obtain ⟨A, c, rfl, e1, m1, s1⟩ := b1
  obtain ⟨B, k, rfl, e2, m2, s2⟩ := b2
  exact ⟨A, c, B, k, rfl, ⟨e1, m1⟩, ⟨e2, m2⟩, s1, s2, hb⟩
theorem keepDue_sl (e s h l : Int) (he : Wd e) (hs : Wd s) (hh : Wd h) (hl : Wd l) (w : World) : Calls Try.prog 10 #[.agg #[.int .u64 e, .int .u64 s, .int .u64 h, .int .u64 l]] w fun r w' => ∃ A c B k, r = .returned (.tuple #[.slice A 16 c, .slice B 16 k]) ∧ (16 ≤ c ∧ c ≤ maxLen) ∧ (16 ≤ k ∧ k ≤ maxLen) ∧ SlIs w' A 16 (yV (cat (nb 8 e) 8 (nb 8 s))) ∧ SlIs w' B 16 (yV (dgt h l)) ∧ Below w.heap.size w w' := by
  refine (keepDue_any e s h l he hs hh hl w).mono ?_
  rintro e w' ⟨v1, v2, rfl, b1, b2, hb⟩
  obtain ⟨A, c, rfl, e1, m1, s1⟩ := b1
  obtain ⟨B, k, rfl, e2, m2, s2⟩ := b2
  exact ⟨A, c, B, k, rfl, ⟨e1, m1⟩, ⟨e2, m2⟩, s1, s2, hb⟩
theorem keptRow_at (h l p1 p2 q1 q2 r1 r2 s1 s2 st sd : Int) (hh : Wd h) (hl : Wd l) (hp1 : Wd p1) (hp2 : Wd p2) (hq1 : Wd q1) (hq2 : Wd q2) (hr1 : Wd r1) (hr2 : Wd r2) (hs1 : Wd s1) (hs2 : Wd s2) (hst : Wd st) (hsd : 0 ≤ sd ∧ sd < 256) (A B : Option Addr) (c k : Nat) (hC : 24 ≤ c ∧ c ≤ maxLen) (hk : 65 ≤ k ∧ k ≤ maxLen) (w : World) (ht : SlIs w A 24 (yV (cat (dgt h l) 16 (nb 8 st)))) (hs : SlIs w B 65 (yV (rowD sd p1 p2 q1 q2 r1 r2 s1 s2 st))) : Calls Try.prog 38 #[.slice A 24 c, .slice B 65 k] w fun r w' => r = .returned (.tuple #[.agg #[.int .u64 h, .int .u64 l], .agg #[.int .u64 p1, .int .u64 p2, .int .u64 q1, .int .u64 q2, .int .u64 r1, .int .u64 r2, .int .u64 s1, .int .u64 s2, .int .u64 st, .int .u8 sd], .bool true]) ∧ Below w.heap.size w w' := by
  have t := keptRow_yes A B c k hC.1 hC.2 hk.1 hk.2 (cat (dgt h l) 16 (nb 8 st)) (rowD sd p1 p2 q1 q2 r1 r2 s1 s2 st) (cat_ok (dgt_ok h l) (fun i => nb_lo _ _ _)) (cat_ok (fun _ => hsd) (putBalance_ok p1 p2 q1 q2 r1 r2 s1 s2 st)) w ht hs
  rw [show num (cat (dgt h l) 16 (nb 8 st)) 0 8 = h from (num_cat_lo (by omega)).trans (num_dgt hh hl).1, show num (cat (dgt h l) 16 (nb 8 st)) 8 8 = l from (num_cat_lo (by omega)).trans (num_dgt hh hl).2, show num (cat (dgt h l) 16 (nb 8 st)) 16 8 = st from (num_cat_hi (by omega) 8).trans (num_nb8 hst)] at t
  rw [show num (rowD sd p1 p2 q1 q2 r1 r2 s1 s2 st) 1 8 = p1 from (num_cat_hi (by omega) 8).trans (putBalance_back0 p1 p2 q1 q2 r1 r2 s1 s2 st hp1 hp2 hq1 hq2 hr1 hr2 hs1 hs2 hst)] at t
  rw [show num (rowD sd p1 p2 q1 q2 r1 r2 s1 s2 st) 9 8 = p2 from (num_cat_hi (by omega) 8).trans (putBalance_back1 p1 p2 q1 q2 r1 r2 s1 s2 st hp1 hp2 hq1 hq2 hr1 hr2 hs1 hs2 hst)] at t
  rw [show num (rowD sd p1 p2 q1 q2 r1 r2 s1 s2 st) 17 8 = q1 from (num_cat_hi (by omega) 8).trans (putBalance_back2 p1 p2 q1 q2 r1 r2 s1 s2 st hp1 hp2 hq1 hq2 hr1 hr2 hs1 hs2 hst)] at t
  rw [show num (rowD sd p1 p2 q1 q2 r1 r2 s1 s2 st) 25 8 = q2 from (num_cat_hi (by omega) 8).trans (putBalance_back3 p1 p2 q1 q2 r1 r2 s1 s2 st hp1 hp2 hq1 hq2 hr1 hr2 hs1 hs2 hst)] at t
  rw [show num (rowD sd p1 p2 q1 q2 r1 r2 s1 s2 st) 33 8 = r1 from (num_cat_hi (by omega) 8).trans (putBalance_back4 p1 p2 q1 q2 r1 r2 s1 s2 st hp1 hp2 hq1 hq2 hr1 hr2 hs1 hs2 hst)] at t
  rw [show num (rowD sd p1 p2 q1 q2 r1 r2 s1 s2 st) 41 8 = r2 from (num_cat_hi (by omega) 8).trans (putBalance_back5 p1 p2 q1 q2 r1 r2 s1 s2 st hp1 hp2 hq1 hq2 hr1 hr2 hs1 hs2 hst)] at t
  rw [show num (rowD sd p1 p2 q1 q2 r1 r2 s1 s2 st) 49 8 = s1 from (num_cat_hi (by omega) 8).trans (putBalance_back6 p1 p2 q1 q2 r1 r2 s1 s2 st hp1 hp2 hq1 hq2 hr1 hr2 hs1 hs2 hst)] at t
  rw [show num (rowD sd p1 p2 q1 q2 r1 r2 s1 s2 st) 57 8 = s2 from (num_cat_hi (by omega) 8).trans (putBalance_back7 p1 p2 q1 q2 r1 r2 s1 s2 st hp1 hp2 hq1 hq2 hr1 hr2 hs1 hs2 hst)] at t
  exact t
theorem keptDue_at (e s h l : Int) (he : Wd e) (hs : Wd s) (hh : Wd h) (hl : Wd l) (A B : Option Addr) (c k : Nat) (hC : 16 ≤ c ∧ c ≤ maxLen) (w : World) (h1 : SlIs w A 16 (yV (cat (nb 8 e) 8 (nb 8 s)))) (h2 : SlIs w B 16 (yV (dgt h l))) : Calls Try.prog 41 #[.slice A 16 c, .slice B 16 k] w fun r w' => r = .returned (.tuple #[.agg #[.int .u64 e, .int .u64 s, .int .u64 h, .int .u64 l], .bool true]) ∧ Below w.heap.size w w' := by
  have t := keptDue_yes A B c k hC.1 hC.2 (cat (nb 8 e) 8 (nb 8 s)) (dgt h l) (cat_ok (fun i => nb_lo _ _ _) (fun i => nb_lo _ _ _)) (dgt_ok h l) w h1 h2
  rw [show num (cat (nb 8 e) 8 (nb 8 s)) 0 8 = e from (num_cat_lo (by omega)).trans (num_nb8 he), show num (cat (nb 8 e) 8 (nb 8 s)) 8 8 = s from (num_cat_hi (by omega) 8).trans (num_nb8 hs), (num_dgt hh hl).1, (num_dgt hh hl).2] at t
  exact t
set_option maxHeartbeats 2000000 in
theorem rpair_any (h l m : Int) (hh : Wd h) (hl : Wd l) (hm : Wd m) (w : World) : Calls Try.prog 40 #[.agg #[.int .u64 h, .int .u64 l], .int .u64 m] w fun r w' =>
      r = .returned (.string (strF (cat (dgt h l) 16 (nb 8 m)) 24)) ∧ Below w.heap.size w w' := by
  have HB := Lib.hid (fun w => refbytes_any h l hh hl w)
  have HS := Lib.hid (fun w => rstamp_any m hm w)
  clear hh hl hm
  have hb0 := Below.refl w.heap.size w
  go_enter Try.func40, Try.ntmps40
  replace hb0 := Lib.hid hb0
  go_wp2_with fail
  refine (HB.out _).mono ?_
  rintro e w_1 ⟨rfl, hb_1⟩
  have z_1 := hb_1.size
  try simp at z_1
  have t_ := hb0.out
  have hB_1 := bel_eld (w := w) (X := _) (by repeat (first | exact Below.refl _ _ | assumption | refine below_drewN ?_ _ | refine bel_grow ?_ _ | refine Below.drew ?_ | refine bel_alloc ?_ _ | refine bel_set ?_ (by first | exact Nat.le_refl _ | (simp; done) | (simp; omega) | omega) _ | refine bel_trans ?_ (by assumption))) hb_1
  clear t_
  clear hb0 hb_1
  replace hB_1 := Lib.hid hB_1
  go_wp2_with fail
  refine (HS.out _).mono ?_
  rintro e w_2 ⟨rfl, hb_2⟩
  have z_2 := hb_2.size
  try simp at z_2
  have t_ := hB_1.out
  have hB_2 := bel_eld (w := w) (X := _) (by repeat (first | exact Below.refl _ _ | assumption | refine below_drewN ?_ _ | refine bel_grow ?_ _ | refine Below.drew ?_ | refine bel_alloc ?_ _ | refine bel_set ?_ (by first | exact Nat.le_refl _ | (simp; done) | (simp; omega) | omega) _ | refine bel_trans ?_ (by assumption))) hb_2
  clear t_
  clear hB_1 hb_2
  replace hB_2 := Lib.hid hB_2
  go_wp2_with fail
  go_ret
  exact ⟨rfl, by have t := hB_2.out; (repeat (first | exact Below.refl _ _ | assumption | refine below_drewN ?_ _ | refine bel_grow ?_ _ | refine Below.drew ?_ | refine bel_alloc ?_ _ | refine bel_set ?_ (by first | exact Nat.le_refl _ | (simp; done) | (simp; omega) | omega) _ | refine bel_trans ?_ (by assumption)))⟩
attribute [local go_sem] bR_is loadV_ptr storeV_ptr drew_hs
attribute [local go_sem ↓] load_Balance store_Balance load_Row store_Row build_Row
set_option maxRecDepth 8000 in
set_option maxHeartbeats 8000000 in
theorem recordRows_any (h l p1 p2 q1 q2 r1 r2 s1 s2 st sd de ds dh dl : Int) (hh : Wd h) (hl : Wd l) (hp1 : Wd p1) (hp2 : Wd p2) (hq1 : Wd q1) (hq2 : Wd q2) (hr1 : Wd r1) (hr2 : Wd r2) (hs1 : Wd s1) (hs2 : Wd s2) (hst : Wd st) (hsd : 0 ≤ sd ∧ sd < 256) (hde : Wd de) (hds : Wd ds) (hdh : Wd dh) (hdl : Wd dl) (w : World) : Calls Try.prog 8 #[.agg #[.int .u64 h, .int .u64 l], .agg #[.int .u64 p1, .int .u64 p2, .int .u64 q1, .int .u64 q2, .int .u64 r1, .int .u64 r2, .int .u64 s1, .int .u64 s2, .int .u64 st, .int .u8 sd], .agg #[.int .u64 de, .int .u64 ds, .int .u64 dh, .int .u64 dl]] w fun r w' => r = .returned (.bool true) ∧ Below w.heap.size w w' := by
  have HP := Lib.hid (fun w => putBalance_sl p1 p2 q1 q2 r1 r2 s1 s2 st hp1 hp2 hq1 hq2 hr1 hr2 hs1 hs2 hst w)
  have HG := Lib.hid (fun A c h1 h2 w hs => getBalance_at p1 p2 q1 q2 r1 r2 s1 s2 st hp1 hp2 hq1 hq2 hr1 hr2 hs1 hs2 hst A c h1 h2 w hs)
  have HK := Lib.hid (fun w => keepRow_sl h l p1 p2 q1 q2 r1 r2 s1 s2 st sd hh hl hp1 hp2 hq1 hq2 hr1 hr2 hs1 hs2 hst w)
  have HT := Lib.hid (fun A B c k hC hk w ht hs => keptRow_at h l p1 p2 q1 q2 r1 r2 s1 s2 st sd hh hl hp1 hp2 hq1 hq2 hr1 hr2 hs1 hs2 hst hsd A B c k hC hk w ht hs)
  have RA := Lib.hid (fun w => refBalance_any p1 p2 q1 q2 r1 r2 s1 s2 st hp1 hp2 hq1 hq2 hr1 hr2 hs1 hs2 hst w)
  have RP := Lib.hid (fun w => rpair_any h l st hh hl hst w)
  have HD := Lib.hid (fun w => keepDue_sl de ds dh dl hde hds hdh hdl w)
  have HE := Lib.hid (fun A B c k hC w h1 h2 => keptDue_at de ds dh dl hde hds hdh hdl A B c k hC w h1 h2)
  have R1 := Lib.hid (fun w => rstamp_any de hde w)
  have R2 := Lib.hid (fun w => rstamp_any ds hds w)
  have RB := Lib.hid (fun w => refbytes_any dh dl hdh hdl w)
  have RX := Lib.hid (fun w => rfixed_any w)
  unfold rowD at HK HT
  clear hh hl hp1 hp2 hq1 hq2 hr1 hr2 hs1 hs2 hst hde hds hdh hdl
  generalize (putBalanceD p1 p2 q1 q2 r1 r2 s1 s2 st) = D at *
  generalize cat (dgt h l) 16 (nb 8 st) = K at *
  have es : (strF D 72).size = 72 := strF_size D 72
  have e1 : (strF D 72).extract 0 64 = strF D 64 := strF_ext (by omega) (by omega)
  have e4 : ∀ W : World, (convert 32 9 (.slice (some ⟨W.heap.size, 0, none⟩) 1 1)).run Try.prog (W.alloc (.cells #[.int .u8 sd] 5)) = .ok (.string (strF (fun _ => sd) 1)) (W.alloc (.cells #[.int .u8 sd] 5)) := fun W => conv8 (fun _ => ⟨W.heap.size, 0, rfl, (Blk.new W _ _).lt, fun j hj => by have hj0 : j = 0 := (by omega); subst hj0; exact (Blk.new W 5 #[.int .u8 sd]).cell 0⟩) 1
  clear hsd
  have hb0 := bel_alloc (bel_alloc (bel_alloc (Below.refl w.heap.size w) (.cells #[.int .u64 h, .int .u64 l] 24)) (.cells #[.int .u64 p1, .int .u64 p2, .int .u64 q1, .int .u64 q2, .int .u64 r1, .int .u64 r2, .int .u64 s1, .int .u64 s2, .int .u64 st, .int .u8 sd] 30)) (.cells #[.int .u64 de, .int .u64 ds, .int .u64 dh, .int .u64 dl] 26)
  have f_a : Blk (((w.alloc (.cells #[.int .u64 h, .int .u64 l] 24)).alloc (.cells #[.int .u64 p1, .int .u64 p2, .int .u64 q1, .int .u64 q2, .int .u64 r1, .int .u64 r2, .int .u64 s1, .int .u64 s2, .int .u64 st, .int .u8 sd] 30)).alloc (.cells #[.int .u64 de, .int .u64 ds, .int .u64 dh, .int .u64 dl] 26)) w.heap.size 24 #[.int .u64 h, .int .u64 l] := ((Blk.new _ _ _).alloc _).alloc _
  have f_r : Blk (((w.alloc (.cells #[.int .u64 h, .int .u64 l] 24)).alloc (.cells #[.int .u64 p1, .int .u64 p2, .int .u64 q1, .int .u64 q2, .int .u64 r1, .int .u64 r2, .int .u64 s1, .int .u64 s2, .int .u64 st, .int .u8 sd] 30)).alloc (.cells #[.int .u64 de, .int .u64 ds, .int .u64 dh, .int .u64 dl] 26)) (w.heap.size + 1) 30 #[.int .u64 p1, .int .u64 p2, .int .u64 q1, .int .u64 q2, .int .u64 r1, .int .u64 r2, .int .u64 s1, .int .u64 s2, .int .u64 st, .int .u8 sd] := (Blk.new' (by simp)).alloc _
  have f_d : Blk (((w.alloc (.cells #[.int .u64 h, .int .u64 l] 24)).alloc (.cells #[.int .u64 p1, .int .u64 p2, .int .u64 q1, .int .u64 q2, .int .u64 r1, .int .u64 r2, .int .u64 s1, .int .u64 s2, .int .u64 st, .int .u8 sd] 30)).alloc (.cells #[.int .u64 de, .int .u64 ds, .int .u64 dh, .int .u64 dl] 26)) (w.heap.size + 2) 26 #[.int .u64 de, .int .u64 ds, .int .u64 dh, .int .u64 dl] := Blk.new' (by simp)
  go_enter Try.func8, Try.ntmps8
  go_upto_region 1 with fail
  refine abs_wp (fun X => Below w.heap.size w X ∧ Blk X w.heap.size 24 #[.int .u64 h, .int .u64 l] ∧ Blk X (w.heap.size + 1) 30 #[.int .u64 p1, .int .u64 p2, .int .u64 q1, .int .u64 q2, .int .u64 r1, .int .u64 r2, .int .u64 s1, .int .u64 s2, .int .u64 st, .int .u8 sd] ∧ Blk X (w.heap.size + 2) 26 #[.int .u64 de, .int .u64 ds, .int .u64 dh, .int .u64 dl]) ⟨hb0, f_a, f_r, f_d⟩ ?_
  clear hb0 f_a f_r f_d
  rintro w0 ⟨hb0, f_a, f_r, f_d⟩
  have a_0 := (f_a).cell 0
  have a_1 := (f_a).cell 1
  have a_f0 := (f_a).frozen 0
  have a_f1 := (f_a).frozen 1
  have a_l := (f_a).lt
  replace f_a := Lib.hid f_a
  have r_r := rowAt_blk f_r
  have r_l := f_r.lt
  replace f_r := Lib.hid f_r
  have d_0 := (f_d).cell 0
  have d_1 := (f_d).cell 1
  have d_2 := (f_d).cell 2
  have d_3 := (f_d).cell 3
  have d_f0 := (f_d).frozen 0
  have d_f1 := (f_d).frozen 1
  have d_f2 := (f_d).frozen 2
  have d_f3 := (f_d).frozen 3
  have d_l := (f_d).lt
  replace f_d := Lib.hid f_d
  replace hb0 := Lib.hid hb0
  go_wp2_with fail
  refine (HP.out _).mono ?_
  rintro e w_1 ⟨A1, c1, rfl, j1, m1, s_1, hb_1⟩
  have z_1 := hb_1.size
  try simp at z_1
  have t_ := hb0.out
  have hB_1 := bel_eld (w := w) (X := _) (by repeat (first | exact Below.refl _ _ | assumption | refine below_drewN ?_ _ | refine bel_grow ?_ _ | refine Below.drew ?_ | refine bel_alloc ?_ _ | refine bel_set ?_ (by first | exact Nat.le_refl _ | (simp; done) | (simp; omega) | omega) _ | refine bel_trans ?_ (by assumption))) hb_1
  clear t_
  replace s_1 := Lib.hid s_1
  have t_a := f_a.out
  have t_r := f_r.out
  have t_d := f_d.out
  have g_a : Blk w_1 (w.heap.size) 24 #[.int .u64 h, .int .u64 l] := by
    refine Blk.kept ?_ hb_1
    (repeat (first | with_reducible assumption | (with_reducible refine Blk.new' ?_; first | with_reducible rfl | (simp; done)) | with_reducible refine Blk.alloc ?_ _ | with_reducible refine Blk.grow ?_ _ | with_reducible refine Blk.drew ?_ | with_reducible refine Blk.drewN ?_ _ | (with_reducible refine Blk.far ?_ (by first | (dsimp only; omega) | (simp; omega)) _) | (with_reducible apply Blk.two) | (with_reducible refine Blk.set' ?_ _ _ ?_) | (with_reducible rfl) | rfl))
  have g_r : Blk w_1 (w.heap.size + 1) 30 #[.int .u64 p1, .int .u64 p2, .int .u64 q1, .int .u64 q2, .int .u64 r1, .int .u64 r2, .int .u64 s1, .int .u64 s2, .int .u64 st, .int .u8 sd] := by
    refine Blk.kept ?_ hb_1
    (repeat (first | with_reducible assumption | (with_reducible refine Blk.new' ?_; first | with_reducible rfl | (simp; done)) | with_reducible refine Blk.alloc ?_ _ | with_reducible refine Blk.grow ?_ _ | with_reducible refine Blk.drew ?_ | with_reducible refine Blk.drewN ?_ _ | (with_reducible refine Blk.far ?_ (by first | (dsimp only; omega) | (simp; omega)) _) | (with_reducible apply Blk.two) | (with_reducible refine Blk.set' ?_ _ _ ?_) | (with_reducible rfl) | rfl))
  have g_d : Blk w_1 (w.heap.size + 2) 26 #[.int .u64 de, .int .u64 ds, .int .u64 dh, .int .u64 dl] := by
    refine Blk.kept ?_ hb_1
    (repeat (first | with_reducible assumption | (with_reducible refine Blk.new' ?_; first | with_reducible rfl | (simp; done)) | with_reducible refine Blk.alloc ?_ _ | with_reducible refine Blk.grow ?_ _ | with_reducible refine Blk.drew ?_ | with_reducible refine Blk.drewN ?_ _ | (with_reducible refine Blk.far ?_ (by first | (dsimp only; omega) | (simp; omega)) _) | (with_reducible apply Blk.two) | (with_reducible refine Blk.set' ?_ _ _ ?_) | (with_reducible rfl) | rfl))
  clear f_a a_l a_0 a_1 a_f0 a_f1 f_r r_l r_r f_d d_l d_0 d_1 d_2 d_3 d_f0 d_f1 d_f2 d_f3 t_a t_r t_d hb0 hb_1
  have f_a := g_a
  clear g_a
  have f_r := g_r
  clear g_r
  have f_d := g_d
  clear g_d
  have a_0 := (f_a).cell 0
  have a_1 := (f_a).cell 1
  have a_f0 := (f_a).frozen 0
  have a_f1 := (f_a).frozen 1
  have a_l := (f_a).lt
  replace f_a := Lib.hid f_a
  have r_r := rowAt_blk f_r
  have r_l := f_r.lt
  replace f_r := Lib.hid f_r
  have d_0 := (f_d).cell 0
  have d_1 := (f_d).cell 1
  have d_2 := (f_d).cell 2
  have d_3 := (f_d).cell 3
  have d_f0 := (f_d).frozen 0
  have d_f1 := (f_d).frozen 1
  have d_f2 := (f_d).frozen 2
  have d_f3 := (f_d).frozen 3
  have d_l := (f_d).lt
  replace f_d := Lib.hid f_d
  replace hB_1 := Lib.hid hB_1
  as_aux_lemma =>
    go_wp2_with fail
    refine (HG.out A1 c1 j1 m1 _ s_1.out).mono ?_
    rintro e w_2 ⟨rfl, hb_2⟩
    have z_2 := hb_2.size
    try simp at z_2
    have t_ := hB_1.out
    have hB_2 := bel_eld (w := w) (X := _) (by repeat (first | exact Below.refl _ _ | assumption | refine below_drewN ?_ _ | refine bel_grow ?_ _ | refine Below.drew ?_ | refine bel_alloc ?_ _ | refine bel_set ?_ (by first | exact Nat.le_refl _ | (simp; done) | (simp; omega) | omega) _ | refine bel_trans ?_ (by assumption))) hb_2
    clear t_
    have hP_ := bel_eld (w := w_1) (X := _) (by first | ((repeat (first | with_reducible exact Below.refl _ _ | with_reducible assumption | (with_reducible refine bel_set ?_ (by first | exact Nat.le_refl _ | (simp; done) | (simp; omega) | omega) _) | with_reducible refine bel_grow ?_ _ | with_reducible refine Below.drew ?_ | with_reducible refine below_drewN ?_ _ | with_reducible refine bel_alloc ?_ _ | with_reducible refine bel_trans ?_ (by assumption))); done) | (repeat (first | exact Below.refl _ _ | assumption | refine below_drewN ?_ _ | refine bel_grow ?_ _ | refine Below.drew ?_ | refine bel_alloc ?_ _ | refine bel_set ?_ (by first | exact Nat.le_refl _ | (simp; done) | (simp; omega) | omega) _ | refine bel_trans ?_ (by assumption)))) hb_2
    have k_s_1 := Lib.hid (s_1.out.below hP_)
    clear s_1
    have s_1 := k_s_1
    clear k_s_1
    have t_a := f_a.out
    have t_r := f_r.out
    have t_d := f_d.out
    have g_a : Blk w_2 (w.heap.size) 24 #[.int .u64 h, .int .u64 l] := Blk.kept t_a hP_
    have g_r : Blk w_2 (w.heap.size + 1) 30 #[.int .u64 p1, .int .u64 p2, .int .u64 q1, .int .u64 q2, .int .u64 r1, .int .u64 r2, .int .u64 s1, .int .u64 s2, .int .u64 st, .int .u8 sd] := Blk.kept t_r hP_
    have g_d : Blk w_2 (w.heap.size + 2) 26 #[.int .u64 de, .int .u64 ds, .int .u64 dh, .int .u64 dl] := Blk.kept t_d hP_
    clear hP_
    clear f_a a_l a_0 a_1 a_f0 a_f1 f_r r_l r_r f_d d_l d_0 d_1 d_2 d_3 d_f0 d_f1 d_f2 d_f3 t_a t_r t_d hB_1 hb_2
    have f_a := g_a
    clear g_a
    have f_r := g_r
    clear g_r
    have f_d := g_d
    clear g_d
    have a_0 := (f_a).cell 0
    have a_1 := (f_a).cell 1
    have a_f0 := (f_a).frozen 0
    have a_f1 := (f_a).frozen 1
    have a_l := (f_a).lt
    replace f_a := Lib.hid f_a
    have r_r := rowAt_blk f_r
    have r_l := f_r.lt
    replace f_r := Lib.hid f_r
    have d_0 := (f_d).cell 0
    have d_1 := (f_d).cell 1
    have d_2 := (f_d).cell 2
    have d_3 := (f_d).cell 3
    have d_f0 := (f_d).frozen 0
    have d_f1 := (f_d).frozen 1
    have d_f2 := (f_d).frozen 2
    have d_f3 := (f_d).frozen 3
    have d_l := (f_d).lt
    replace f_d := Lib.hid f_d
    replace hB_2 := Lib.hid hB_2
    go_wp2_with fail
    refine (HK.out _).mono ?_
    rintro e w_3 ⟨A2, c2, A3, c3, rfl, j2, j3, s_2, s_3, hb_3⟩
    have z_3 := hb_3.size
    try simp at z_3
    have t_ := hB_2.out
    have hB_3 := bel_eld (w := w) (X := _) (by repeat (first | exact Below.refl _ _ | assumption | refine below_drewN ?_ _ | refine bel_grow ?_ _ | refine Below.drew ?_ | refine bel_alloc ?_ _ | refine bel_set ?_ (by first | exact Nat.le_refl _ | (simp; done) | (simp; omega) | omega) _ | refine bel_trans ?_ (by assumption))) hb_3
    clear t_
    have hP_ := bel_eld (w := w_2) (X := _) (by first | ((repeat (first | with_reducible exact Below.refl _ _ | with_reducible assumption | (with_reducible refine bel_set ?_ (by first | exact Nat.le_refl _ | (simp; done) | (simp; omega) | omega) _) | with_reducible refine bel_grow ?_ _ | with_reducible refine Below.drew ?_ | with_reducible refine below_drewN ?_ _ | with_reducible refine bel_alloc ?_ _ | with_reducible refine bel_trans ?_ (by assumption))); done) | (repeat (first | exact Below.refl _ _ | assumption | refine below_drewN ?_ _ | refine bel_grow ?_ _ | refine Below.drew ?_ | refine bel_alloc ?_ _ | refine bel_set ?_ (by first | exact Nat.le_refl _ | (simp; done) | (simp; omega) | omega) _ | refine bel_trans ?_ (by assumption)))) hb_3
    have k_s_1 := Lib.hid (s_1.out.below hP_)
    clear s_1
    have s_1 := k_s_1
    clear k_s_1
    replace s_2 := Lib.hid s_2
    replace s_3 := Lib.hid s_3
    have t_a := f_a.out
    have t_r := f_r.out
    have t_d := f_d.out
    have g_a : Blk w_3 (w.heap.size) 24 #[.int .u64 h, .int .u64 l] := Blk.kept t_a hP_
    have g_r : Blk w_3 (w.heap.size + 1) 30 #[.int .u64 p1, .int .u64 p2, .int .u64 q1, .int .u64 q2, .int .u64 r1, .int .u64 r2, .int .u64 s1, .int .u64 s2, .int .u64 st, .int .u8 sd] := Blk.kept t_r hP_
    have g_d : Blk w_3 (w.heap.size + 2) 26 #[.int .u64 de, .int .u64 ds, .int .u64 dh, .int .u64 dl] := Blk.kept t_d hP_
    have g_x : Blk w_3 (w_2.heap.size) 28 #[.int .u64 p1, .int .u64 p2, .int .u64 q1, .int .u64 q2, .int .u64 r1, .int .u64 r2, .int .u64 s1, .int .u64 s2, .int .u64 st] := by
      refine Blk.kept ?_ hb_3
      (repeat (first | with_reducible assumption | (with_reducible refine Blk.new' ?_; first | with_reducible rfl | (simp; done)) | with_reducible refine Blk.alloc ?_ _ | with_reducible refine Blk.grow ?_ _ | with_reducible refine Blk.drew ?_ | with_reducible refine Blk.drewN ?_ _ | (with_reducible refine Blk.far ?_ (by first | (dsimp only; omega) | (simp; omega)) _) | (with_reducible apply Blk.two) | (with_reducible refine Blk.set' ?_ _ _ ?_) | (with_reducible rfl) | rfl))
    clear hP_
    clear f_a a_l a_0 a_1 a_f0 a_f1 f_r r_l r_r f_d d_l d_0 d_1 d_2 d_3 d_f0 d_f1 d_f2 d_f3 t_a t_r t_d hB_2 hb_3
    have f_a := g_a
    clear g_a
    have f_r := g_r
    clear g_r
    have f_d := g_d
    clear g_d
    have f_x := g_x
    clear g_x
    have a_0 := (f_a).cell 0
    have a_1 := (f_a).cell 1
    have a_f0 := (f_a).frozen 0
    have a_f1 := (f_a).frozen 1
    have a_l := (f_a).lt
    replace f_a := Lib.hid f_a
    have r_r := rowAt_blk f_r
    have r_l := f_r.lt
    replace f_r := Lib.hid f_r
    have d_0 := (f_d).cell 0
    have d_1 := (f_d).cell 1
    have d_2 := (f_d).cell 2
    have d_3 := (f_d).cell 3
    have d_f0 := (f_d).frozen 0
    have d_f1 := (f_d).frozen 1
    have d_f2 := (f_d).frozen 2
    have d_f3 := (f_d).frozen 3
    have d_l := (f_d).lt
    replace f_d := Lib.hid f_d
    have r_x := rowAt_blk f_x
    have x_l := f_x.lt
    replace f_x := Lib.hid f_x
    replace hB_3 := Lib.hid hB_3
    as_aux_lemma =>
      go_wp2_with fail
      refine (HT.out A2 A3 c2 c3 j2 j3 _ s_2.out s_3.out).mono ?_
      rintro e w_4 ⟨rfl, hb_4⟩
      have z_4 := hb_4.size
      try simp at z_4
      have t_ := hB_3.out
      have hB_4 := bel_eld (w := w) (X := _) (by repeat (first | exact Below.refl _ _ | assumption | refine below_drewN ?_ _ | refine bel_grow ?_ _ | refine Below.drew ?_ | refine bel_alloc ?_ _ | refine bel_set ?_ (by first | exact Nat.le_refl _ | (simp; done) | (simp; omega) | omega) _ | refine bel_trans ?_ (by assumption))) hb_4
      clear t_
      have hP_ := bel_eld (w := w_3) (X := _) (by first | ((repeat (first | with_reducible exact Below.refl _ _ | with_reducible assumption | (with_reducible refine bel_set ?_ (by first | exact Nat.le_refl _ | (simp; done) | (simp; omega) | omega) _) | with_reducible refine bel_grow ?_ _ | with_reducible refine Below.drew ?_ | with_reducible refine below_drewN ?_ _ | with_reducible refine bel_alloc ?_ _ | with_reducible refine bel_trans ?_ (by assumption))); done) | (repeat (first | exact Below.refl _ _ | assumption | refine below_drewN ?_ _ | refine bel_grow ?_ _ | refine Below.drew ?_ | refine bel_alloc ?_ _ | refine bel_set ?_ (by first | exact Nat.le_refl _ | (simp; done) | (simp; omega) | omega) _ | refine bel_trans ?_ (by assumption)))) hb_4
      have k_s_1 := Lib.hid (s_1.out.below hP_)
      clear s_1
      have s_1 := k_s_1
      clear k_s_1
      have k_s_2 := Lib.hid (s_2.out.below hP_)
      clear s_2
      have s_2 := k_s_2
      clear k_s_2
      have k_s_3 := Lib.hid (s_3.out.below hP_)
      clear s_3
      have s_3 := k_s_3
      clear k_s_3
      have t_a := f_a.out
      have t_r := f_r.out
      have t_d := f_d.out
      have t_x := f_x.out
      have g_a : Blk w_4 (w.heap.size) 24 #[.int .u64 h, .int .u64 l] := Blk.kept t_a hP_
      have g_r : Blk w_4 (w.heap.size + 1) 30 #[.int .u64 p1, .int .u64 p2, .int .u64 q1, .int .u64 q2, .int .u64 r1, .int .u64 r2, .int .u64 s1, .int .u64 s2, .int .u64 st, .int .u8 sd] := Blk.kept t_r hP_
      have g_d : Blk w_4 (w.heap.size + 2) 26 #[.int .u64 de, .int .u64 ds, .int .u64 dh, .int .u64 dl] := Blk.kept t_d hP_
      have g_x : Blk w_4 (w_2.heap.size) 28 #[.int .u64 p1, .int .u64 p2, .int .u64 q1, .int .u64 q2, .int .u64 r1, .int .u64 r2, .int .u64 s1, .int .u64 s2, .int .u64 st] := Blk.kept t_x hP_
      clear hP_
      clear f_a a_l a_0 a_1 a_f0 a_f1 f_r r_l r_r f_d d_l d_0 d_1 d_2 d_3 d_f0 d_f1 d_f2 d_f3 f_x x_l r_x t_a t_r t_d t_x hB_3 hb_4
      have f_a := g_a
      clear g_a
      have f_r := g_r
      clear g_r
      have f_d := g_d
      clear g_d
      have f_x := g_x
      clear g_x
      have a_0 := (f_a).cell 0
      have a_1 := (f_a).cell 1
      have a_f0 := (f_a).frozen 0
      have a_f1 := (f_a).frozen 1
      have a_l := (f_a).lt
      replace f_a := Lib.hid f_a
      have r_r := rowAt_blk f_r
      have r_l := f_r.lt
      replace f_r := Lib.hid f_r
      have d_0 := (f_d).cell 0
      have d_1 := (f_d).cell 1
      have d_2 := (f_d).cell 2
      have d_3 := (f_d).cell 3
      have d_f0 := (f_d).frozen 0
      have d_f1 := (f_d).frozen 1
      have d_f2 := (f_d).frozen 2
      have d_f3 := (f_d).frozen 3
      have d_l := (f_d).lt
      replace f_d := Lib.hid f_d
      have r_x := rowAt_blk f_x
      have x_l := f_x.lt
      replace f_x := Lib.hid f_x
      replace hB_4 := Lib.hid hB_4
      go_wp2_with fail
      refine (RA.out _).mono ?_
      rintro e w_5 ⟨rfl, hb_5⟩
      have z_5 := hb_5.size
      try simp at z_5
      have t_ := hB_4.out
      have hB_5 := bel_eld (w := w) (X := _) (by repeat (first | exact Below.refl _ _ | assumption | refine below_drewN ?_ _ | refine bel_grow ?_ _ | refine Below.drew ?_ | refine bel_alloc ?_ _ | refine bel_set ?_ (by first | exact Nat.le_refl _ | (simp; done) | (simp; omega) | omega) _ | refine bel_trans ?_ (by assumption))) hb_5
      clear t_
      have hP_ := bel_eld (w := w_4) (X := _) (by first | ((repeat (first | with_reducible exact Below.refl _ _ | with_reducible assumption | (with_reducible refine bel_set ?_ (by first | exact Nat.le_refl _ | (simp; done) | (simp; omega) | omega) _) | with_reducible refine bel_grow ?_ _ | with_reducible refine Below.drew ?_ | with_reducible refine below_drewN ?_ _ | with_reducible refine bel_alloc ?_ _ | with_reducible refine bel_trans ?_ (by assumption))); done) | (repeat (first | exact Below.refl _ _ | assumption | refine below_drewN ?_ _ | refine bel_grow ?_ _ | refine Below.drew ?_ | refine bel_alloc ?_ _ | refine bel_set ?_ (by first | exact Nat.le_refl _ | (simp; done) | (simp; omega) | omega) _ | refine bel_trans ?_ (by assumption)))) hb_5
      have k_s_1 := Lib.hid (s_1.out.below hP_)
      clear s_1
      have s_1 := k_s_1
      clear k_s_1
      have k_s_2 := Lib.hid (s_2.out.below hP_)
      clear s_2
      have s_2 := k_s_2
      clear k_s_2
      have k_s_3 := Lib.hid (s_3.out.below hP_)
      clear s_3
      have s_3 := k_s_3
      clear k_s_3
      have t_a := f_a.out
      have t_r := f_r.out
      have t_d := f_d.out
      have t_x := f_x.out
      have g_a : Blk w_5 (w.heap.size) 24 #[.int .u64 h, .int .u64 l] := Blk.kept t_a hP_
      have g_r : Blk w_5 (w.heap.size + 1) 30 #[.int .u64 p1, .int .u64 p2, .int .u64 q1, .int .u64 q2, .int .u64 r1, .int .u64 r2, .int .u64 s1, .int .u64 s2, .int .u64 st, .int .u8 sd] := Blk.kept t_r hP_
      have g_d : Blk w_5 (w.heap.size + 2) 26 #[.int .u64 de, .int .u64 ds, .int .u64 dh, .int .u64 dl] := Blk.kept t_d hP_
      have g_x : Blk w_5 (w_2.heap.size) 28 #[.int .u64 p1, .int .u64 p2, .int .u64 q1, .int .u64 q2, .int .u64 r1, .int .u64 r2, .int .u64 s1, .int .u64 s2, .int .u64 st] := Blk.kept t_x hP_
      have g_y : Blk w_5 (w_4.heap.size) 24 #[.int .u64 h, .int .u64 l] := by
        refine Blk.kept ?_ hb_5
        (repeat (first | with_reducible assumption | (with_reducible refine Blk.new' ?_; first | with_reducible rfl | (simp; done)) | with_reducible refine Blk.alloc ?_ _ | with_reducible refine Blk.grow ?_ _ | with_reducible refine Blk.drew ?_ | with_reducible refine Blk.drewN ?_ _ | (with_reducible refine Blk.far ?_ (by first | (dsimp only; omega) | (simp; omega)) _) | (with_reducible apply Blk.two) | (with_reducible refine Blk.set' ?_ _ _ ?_) | (with_reducible rfl) | rfl))
      have g_z : Blk w_5 (w_4.heap.size + 1) 30 #[.int .u64 p1, .int .u64 p2, .int .u64 q1, .int .u64 q2, .int .u64 r1, .int .u64 r2, .int .u64 s1, .int .u64 s2, .int .u64 st, .int .u8 sd] := by
        refine Blk.kept ?_ hb_5
        (repeat (first | with_reducible assumption | (with_reducible refine Blk.new' ?_; first | with_reducible rfl | (simp; done)) | with_reducible refine Blk.alloc ?_ _ | with_reducible refine Blk.grow ?_ _ | with_reducible refine Blk.drew ?_ | with_reducible refine Blk.drewN ?_ _ | (with_reducible refine Blk.far ?_ (by first | (dsimp only; omega) | (simp; omega)) _) | (with_reducible apply Blk.two) | (with_reducible refine Blk.set' ?_ _ _ ?_) | (with_reducible rfl) | rfl))
      clear hP_
      clear f_a a_l a_0 a_1 a_f0 a_f1 f_r r_l r_r f_d d_l d_0 d_1 d_2 d_3 d_f0 d_f1 d_f2 d_f3 f_x x_l r_x t_a t_r t_d t_x hB_4 hb_5
      have f_a := g_a
      clear g_a
      have f_r := g_r
      clear g_r
      have f_d := g_d
      clear g_d
      have f_x := g_x
      clear g_x
      have f_y := g_y
      clear g_y
      have f_z := g_z
      clear g_z
      have a_0 := (f_a).cell 0
      have a_1 := (f_a).cell 1
      have a_f0 := (f_a).frozen 0
      have a_f1 := (f_a).frozen 1
      have a_l := (f_a).lt
      replace f_a := Lib.hid f_a
      have r_r := rowAt_blk f_r
      have r_l := f_r.lt
      replace f_r := Lib.hid f_r
      have d_0 := (f_d).cell 0
      have d_1 := (f_d).cell 1
      have d_2 := (f_d).cell 2
      have d_3 := (f_d).cell 3
      have d_f0 := (f_d).frozen 0
      have d_f1 := (f_d).frozen 1
      have d_f2 := (f_d).frozen 2
      have d_f3 := (f_d).frozen 3
      have d_l := (f_d).lt
      replace f_d := Lib.hid f_d
      have r_x := rowAt_blk f_x
      have x_l := f_x.lt
      replace f_x := Lib.hid f_x
      have y_0 := (f_y).cell 0
      have y_1 := (f_y).cell 1
      have y_f0 := (f_y).frozen 0
      have y_f1 := (f_y).frozen 1
      have y_l := (f_y).lt
      replace f_y := Lib.hid f_y
      have r_z := rowAt_blk f_z
      have z_l := f_z.lt
      replace f_z := Lib.hid f_z
      replace hB_5 := Lib.hid hB_5
      as_aux_lemma =>
        go_upto_region 6 with fail
        have HSS := Lib.hid (fun w' (B : Below w_5.heap.size w_5 w') => (show Below w_5.heap.size w_5 w' ∧ rowAt w' (w.heap.size + 1) = some #[.int .u64 p1, .int .u64 p2, .int .u64 q1, .int .u64 q2, .int .u64 r1, .int .u64 r2, .int .u64 s1, .int .u64 s2, .int .u64 st, .int .u8 sd] ∧ w'.cell? ⟨w.heap.size + 1, 8, none⟩ = some (.int .u64 st) ∧ w'.cell? ⟨w.heap.size + 1, 9, none⟩ = some (.int .u8 sd) ∧ w'.cell? ⟨w.heap.size, 0, none⟩ = some (.int .u64 h) ∧ w'.cell? ⟨w.heap.size, 1, none⟩ = some (.int .u64 l) ∧ rowAt w' w_2.heap.size = some #[.int .u64 p1, .int .u64 p2, .int .u64 q1, .int .u64 q2, .int .u64 r1, .int .u64 r2, .int .u64 s1, .int .u64 s2, .int .u64 st] ∧ w'.cell? ⟨w_4.heap.size, 0, none⟩ = some (.int .u64 h) ∧ w'.cell? ⟨w_4.heap.size, 1, none⟩ = some (.int .u64 l) ∧ rowAt w' (w_4.heap.size + 1) = some #[.int .u64 p1, .int .u64 p2, .int .u64 q1, .int .u64 q2, .int .u64 r1, .int .u64 r2, .int .u64 s1, .int .u64 s2, .int .u64 st, .int .u8 sd] ∧ (convert 32 9 (.slice A1 72 c1)).run Try.prog w' = .ok (.string (strF D 72)) w' ∧ (convert 32 9 (.slice A2 24 c2)).run Try.prog w' = .ok (.string (strF K 24)) w' ∧ (convert 32 9 (.slice A3 65 c3)).run Try.prog w' = .ok (.string (strF (cat (fun _ => sd) 1 D) 65)) w' from ⟨B, rowAt_blk (f_r.out.kept B), (f_r.out.kept B).cell 8, (f_r.out.kept B).cell 9, (f_a.out.kept B).cell 0, (f_a.out.kept B).cell 1, rowAt_blk (f_x.out.kept B), (f_y.out.kept B).cell 0, (f_y.out.kept B).cell 1, rowAt_blk (f_z.out.kept B), conv8 (s_1.out.below B) c1, conv8 (s_2.out.below B) c2, conv8 (s_3.out.below B) c3⟩))
        go_cut [93] (fun s93 wx => s93 = .bool false ∧ Below w_5.heap.size w_5 wx)
        case first =>
          go_region_held (fun w' => Below w_5.heap.size w_5 w' ∧ rowAt w' (w.heap.size + 1) = some #[.int .u64 p1, .int .u64 p2, .int .u64 q1, .int .u64 q2, .int .u64 r1, .int .u64 r2, .int .u64 s1, .int .u64 s2, .int .u64 st, .int .u8 sd] ∧ w'.cell? ⟨w.heap.size + 1, 8, none⟩ = some (.int .u64 st) ∧ w'.cell? ⟨w.heap.size + 1, 9, none⟩ = some (.int .u8 sd) ∧ w'.cell? ⟨w.heap.size, 0, none⟩ = some (.int .u64 h) ∧ w'.cell? ⟨w.heap.size, 1, none⟩ = some (.int .u64 l) ∧ rowAt w' w_2.heap.size = some #[.int .u64 p1, .int .u64 p2, .int .u64 q1, .int .u64 q2, .int .u64 r1, .int .u64 r2, .int .u64 s1, .int .u64 s2, .int .u64 st] ∧ w'.cell? ⟨w_4.heap.size, 0, none⟩ = some (.int .u64 h) ∧ w'.cell? ⟨w_4.heap.size, 1, none⟩ = some (.int .u64 l) ∧ rowAt w' (w_4.heap.size + 1) = some #[.int .u64 p1, .int .u64 p2, .int .u64 q1, .int .u64 q2, .int .u64 r1, .int .u64 r2, .int .u64 s1, .int .u64 s2, .int .u64 st, .int .u8 sd] ∧ (convert 32 9 (.slice A1 72 c1)).run Try.prog w' = .ok (.string (strF D 72)) w' ∧ (convert 32 9 (.slice A2 24 c2)).run Try.prog w' = .ok (.string (strF K 24)) w' ∧ (convert 32 9 (.slice A3 65 c3)).run Try.prog w' = .ok (.string (strF (cat (fun _ => sd) 1 D) 65)) w')
            (first | ((try go_split_ands); refine HSS.out _ ?_; (repeat (first | with_reducible exact Below.refl _ _ | with_reducible assumption | (with_reducible refine bel_set ?_ (by first | exact Nat.le_refl _ | (simp; done) | (simp; omega) | omega) _) | with_reducible refine bel_grow ?_ _ | with_reducible refine Below.drew ?_ | with_reducible refine below_drewN ?_ _ | with_reducible refine bel_alloc ?_ _ | with_reducible refine bel_trans ?_ (by assumption)))))
            (first | (go_at_call 40; (with_reducible refine (RP.out _).mono ?_); rintro e2 w2 ⟨rfl, hb2⟩))
          all_goals (
            go_wp2_with fail
            go_meet
            refine ⟨rfl, ?_⟩
            (repeat (first | with_reducible exact Below.refl _ _ | with_reducible assumption | (with_reducible refine bel_set ?_ (by first | exact Nat.le_refl _ | (simp; done) | (simp; omega) | omega) _) | with_reducible refine bel_grow ?_ _ | with_reducible refine Below.drew ?_ | with_reducible refine below_drewN ?_ _ | with_reducible refine bel_alloc ?_ _ | with_reducible refine bel_trans ?_ (by assumption))))
        case rest =>
          obtain ⟨rfl, hb6⟩ := hcut
          have gd := f_d.out.kept hb6
          have bW := bel_eld hB_5.out hb6
          clear HSS f_a f_r f_x f_y f_z f_d hB_5 hb6 s_1 s_2 s_3 r_r r_x r_z a_l r_l x_l y_l z_l a_0 a_1 a_f0 a_f1 y_0 y_1 y_f0 y_f1 d_0 d_f0 d_1 d_f1 d_2 d_f2 d_3 d_f3 d_l
          have f_d := gd
          clear gd
          as_aux_lemma =>
            have d_0 := (f_d).cell 0
            have d_1 := (f_d).cell 1
            have d_2 := (f_d).cell 2
            have d_3 := (f_d).cell 3
            have d_f0 := (f_d).frozen 0
            have d_f1 := (f_d).frozen 1
            have d_f2 := (f_d).frozen 2
            have d_f3 := (f_d).frozen 3
            have d_l := (f_d).lt
            replace f_d := Lib.hid f_d
            replace bW := Lib.hid bW
            go_wp2_with fail
            refine (HD.out _).mono ?_
            rintro e w_7 ⟨A4, c4, A5, c5, rfl, j4, j5, s_4, s_5, hb_7⟩
            have z_7 := hb_7.size
            try simp at z_7
            have t_ := bW.out
            have hB_7 := bel_eld (w := w) (X := _) (by repeat (first | exact Below.refl _ _ | assumption | refine below_drewN ?_ _ | refine bel_grow ?_ _ | refine Below.drew ?_ | refine bel_alloc ?_ _ | refine bel_set ?_ (by first | exact Nat.le_refl _ | (simp; done) | (simp; omega) | omega) _ | refine bel_trans ?_ (by assumption))) hb_7
            clear t_
            replace s_4 := Lib.hid s_4
            replace s_5 := Lib.hid s_5
            have t_d := f_d.out
            have g_d : Blk w_7 (w.heap.size + 2) 26 #[.int .u64 de, .int .u64 ds, .int .u64 dh, .int .u64 dl] := by
              refine Blk.kept ?_ hb_7
              (repeat (first | with_reducible assumption | (with_reducible refine Blk.new' ?_; first | with_reducible rfl | (simp; done)) | with_reducible refine Blk.alloc ?_ _ | with_reducible refine Blk.grow ?_ _ | with_reducible refine Blk.drew ?_ | with_reducible refine Blk.drewN ?_ _ | (with_reducible refine Blk.far ?_ (by first | (dsimp only; omega) | (simp; omega)) _) | (with_reducible apply Blk.two) | (with_reducible refine Blk.set' ?_ _ _ ?_) | (with_reducible rfl) | rfl))
            clear f_d d_l d_0 d_1 d_2 d_3 d_f0 d_f1 d_f2 d_f3 t_d bW hb_7
            have f_d := g_d
            clear g_d
            have d_0 := (f_d).cell 0
            have d_1 := (f_d).cell 1
            have d_2 := (f_d).cell 2
            have d_3 := (f_d).cell 3
            have d_f0 := (f_d).frozen 0
            have d_f1 := (f_d).frozen 1
            have d_f2 := (f_d).frozen 2
            have d_f3 := (f_d).frozen 3
            have d_l := (f_d).lt
            replace f_d := Lib.hid f_d
            replace hB_7 := Lib.hid hB_7
            go_wp2_with fail
            refine (HE.out A4 A5 c4 c5 j4 _ s_4.out s_5.out).mono ?_
            rintro e w_8 ⟨rfl, hb_8⟩
            have z_8 := hb_8.size
            try simp at z_8
            have t_ := hB_7.out
            have hB_8 := bel_eld (w := w) (X := _) (by repeat (first | exact Below.refl _ _ | assumption | refine below_drewN ?_ _ | refine bel_grow ?_ _ | refine Below.drew ?_ | refine bel_alloc ?_ _ | refine bel_set ?_ (by first | exact Nat.le_refl _ | (simp; done) | (simp; omega) | omega) _ | refine bel_trans ?_ (by assumption))) hb_8
            clear t_
            have hP_ := bel_eld (w := w_7) (X := _) (by first | ((repeat (first | with_reducible exact Below.refl _ _ | with_reducible assumption | (with_reducible refine bel_set ?_ (by first | exact Nat.le_refl _ | (simp; done) | (simp; omega) | omega) _) | with_reducible refine bel_grow ?_ _ | with_reducible refine Below.drew ?_ | with_reducible refine below_drewN ?_ _ | with_reducible refine bel_alloc ?_ _ | with_reducible refine bel_trans ?_ (by assumption))); done) | (repeat (first | exact Below.refl _ _ | assumption | refine below_drewN ?_ _ | refine bel_grow ?_ _ | refine Below.drew ?_ | refine bel_alloc ?_ _ | refine bel_set ?_ (by first | exact Nat.le_refl _ | (simp; done) | (simp; omega) | omega) _ | refine bel_trans ?_ (by assumption)))) hb_8
            have k_s_4 := Lib.hid (s_4.out.below hP_)
            clear s_4
            have s_4 := k_s_4
            clear k_s_4
            have k_s_5 := Lib.hid (s_5.out.below hP_)
            clear s_5
            have s_5 := k_s_5
            clear k_s_5
            have t_d := f_d.out
            have g_d : Blk w_8 (w.heap.size + 2) 26 #[.int .u64 de, .int .u64 ds, .int .u64 dh, .int .u64 dl] := Blk.kept t_d hP_
            clear hP_
            clear f_d d_l d_0 d_1 d_2 d_3 d_f0 d_f1 d_f2 d_f3 t_d hB_7 hb_8
            have f_d := g_d
            clear g_d
            have d_0 := (f_d).cell 0
            have d_1 := (f_d).cell 1
            have d_2 := (f_d).cell 2
            have d_3 := (f_d).cell 3
            have d_f0 := (f_d).frozen 0
            have d_f1 := (f_d).frozen 1
            have d_f2 := (f_d).frozen 2
            have d_f3 := (f_d).frozen 3
            have d_l := (f_d).lt
            replace f_d := Lib.hid f_d
            replace hB_8 := Lib.hid hB_8
            go_upto_region 10 with fail
            refine abs_wp (fun X => Below w_8.heap.size w_8 X ∧ Blk X w_8.heap.size 26 #[.int .u64 de, .int .u64 ds, .int .u64 dh, .int .u64 dl]) ?_ ?_
            · refine ⟨?_, ?_⟩
              · (repeat (first | with_reducible exact Below.refl _ _ | with_reducible assumption | (with_reducible refine bel_set ?_ (by first | exact Nat.le_refl _ | (simp; done) | (simp; omega) | omega) _) | with_reducible refine bel_grow ?_ _ | with_reducible refine Below.drew ?_ | with_reducible refine below_drewN ?_ _ | with_reducible refine bel_alloc ?_ _ | with_reducible refine bel_trans ?_ (by assumption)))
              · (repeat (first | with_reducible assumption | (with_reducible refine Blk.new' ?_; first | with_reducible rfl | (simp; done)) | with_reducible refine Blk.alloc ?_ _ | with_reducible refine Blk.grow ?_ _ | with_reducible refine Blk.drew ?_ | with_reducible refine Blk.drewN ?_ _ | (with_reducible refine Blk.far ?_ (by first | (dsimp only; omega) | (simp; omega)) _) | (with_reducible apply Blk.two) | (with_reducible refine Blk.set' ?_ _ _ ?_) | (with_reducible rfl) | rfl))
            rintro X ⟨b2, gy⟩
            have bX := bel_eld hB_8.out b2
            have gd := f_d.out.kept b2
            clear f_d hB_8 d_0 d_f0 d_1 d_f1 d_2 d_f2 d_3 d_f3 d_l
            as_aux_lemma =>
              have d0 := (gd).cell 0
              have d1 := (gd).cell 1
              have d2 := (gd).cell 2
              have d3 := (gd).cell 3
              have df0 := (gd).frozen 0
              have df1 := (gd).frozen 1
              have df2 := (gd).frozen 2
              have df3 := (gd).frozen 3
              have dl := (gd).lt
              have y0 := (gy).cell 0
              have y1 := (gy).cell 1
              have y2 := (gy).cell 2
              have y3 := (gy).cell 3
              have yf0 := (gy).frozen 0
              have yf1 := (gy).frozen 1
              have yf2 := (gy).frozen 2
              have yf3 := (gy).frozen 3
              have yl := (gy).lt
              have q1 := fun d => conv8 ((s_4.out.below b2).below (grow_below X d)) c4
              have q2 := fun d => conv8 ((s_5.out.below b2).below (grow_below X d)) c5
              replace bX := Lib.hid bX
              clear gd gy b2
              first | (with_reducible refine rgrow2 (by kernel_rfl) (by kernel_rfl) ?_) | (refine rgrow (by kernel_rfl) (by kernel_rfl) ?_)
              repeat (go_big_quiet_step (((first | (go_at_call 13; exact grow_call (RX.out _)) | (go_at_call 42; first | (with_reducible exact grow_call (R1.out _)) | (with_reducible exact grow_call (R2.out _))) | (go_at_call 36; exact grow_call (RB.out _))))))
              refine wpQuiet_nil ?_
              intro dr
              go_wp2_with fail
              go_ret
              exact ⟨rfl, by have t := bX.out; (repeat (first | exact Below.refl _ _ | assumption | refine below_drewN ?_ _ | refine bel_grow ?_ _ | refine Below.drew ?_ | refine bel_alloc ?_ _ | refine bel_set ?_ (by first | exact Nat.le_refl _ | (simp; done) | (simp; omega) | omega) _ | refine bel_trans ?_ (by assumption)))⟩
end Go.Proofs.Ytflaeljjalpnkaa
