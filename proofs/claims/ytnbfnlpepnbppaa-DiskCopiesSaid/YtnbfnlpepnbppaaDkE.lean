/-
  Sync, walked.
-/
import Derived.Test.YtnbfnlpepnbppaaDkD
namespace Go.Proofs.Ytnbfnlpepnbppaa
set_option linter.unusedVariables false
set_option linter.unusedSimpArgs false
open Go.RowKit

/-- the bytes of block b behind m writes -/
def curD (S : Nat → Nat → Int) (P : Nat → Nat) (D : Nat → Nat → Int) : Nat → Nat → Nat → Int
  | 0, b => S b
  | m + 1, b => if P m = b then D m else curD S P D m b
def DS.cur (d : DS) (b : Nat) : Nat → Int := curD d.S d.P d.D d.m b
def DS.flat (d : DS) : DS := { d with S := fun b => d.cur b, m := 0 }
def DS.sync (d : DS) : DS := if d.dn = true then d else if d.f = 0 then d.act else d.act.flat
def DS.serr (d : DS) : Int := if d.dn = true ∨ d.f = 0 then 7 else 0
theorem ld_W {w : World} {g cap n j : Nat} {F : Nat → List Value} {P : Nat → Nat} {D : Nat → Nat → Int} (h : Blk w g 69 (rowC cap F).toArray) (hf : ∀ i, (F i).length = 513) (hj : j < n) (hn : n ≤ cap) (he : ∀ i, i < n → F i = wcl (P i) (D i)) : loadV Try.prog 69 513 w (.pointer (some ⟨g, j * 513, none⟩)) = .ok (wV (P j) (D j)) w := by
  rw [load_at h hf (by omega), he j hj]; rfl
theorem cell_W {w : World} {g : Nat} {t : TypeId} {a : Int} {d : Nat → Int} (h : Blk w g t (wcl a d).toArray) : w.cell? ⟨g, 0, none⟩ = some (.int .i64 a) ∧ ∀ j, j < 512 → w.cell? ⟨g, 1 + j, none⟩ = some (.int .u8 (d j)) := by
  refine ⟨by rw [Blk.cell h 0, List.getElem?_toArray]; rfl, fun j hj => ?_⟩
  rw [Blk.cell h (1 + j), List.getElem?_toArray, Nat.add_comm 1 j]
  unfold wcl
  rw [List.getElem?_cons_succ]
  exact bytesL_at d hj
/-- a new write laid and filled -/
theorem new_W (W : World) (a : Int) (d : Nat → Int) : ∃ W', storeV Try.prog 69 513 (W.alloc (.cells zWc 69)) (.pointer (some ⟨W.heap.size, 0, none⟩)) (wV a d) = .ok () W' ∧ Blk W' W.heap.size 69 (wcl a d).toArray ∧ Below W.heap.size W W' ∧ W.heap.size < W'.heap.size := by
  have hz : Blk (W.alloc (.cells zWc 69)) W.heap.size 69 (rowC 1 (fun _ => wcl 0 (fun _ => 0))).toArray := by
    have : (rowC 1 (fun _ => wcl 0 (fun _ => 0))) = wcl 0 (fun _ => 0) := by simp [rowC]
    rw [this]
    exact Blk.new _ _ _
  have h := store_at (P := Try.prog) (ty := 69) hz (fun _ => wcl_len _ _) (i := 0) (by omega) (wcl_len a d) (wcl_one a d)
  rw [Nat.zero_mul] at h
  have e : rowC 1 (updL (fun _ => wcl 0 (fun _ => 0)) 0 (wcl a d)) = wcl a d := by simp [rowC, updL]
  rw [e] at h
  have hb := setRow_heap (W.alloc (.cells zWc 69)) W.heap.size _ (wcl a d).toArray _ _ hz
  refine ⟨_, h, hb, ?_, Blk.lt hb⟩
  exact ((Tch.refl (fun k => W.heap.size ≤ k) W).alloc _ |>.setRow (fun _ => Nat.le_refl _) _).below (Nat.le_refl _) (fun k h1 h2 => by omega)
section
attribute [local go_sem ↓] load_B store_B load_W store_W alloc_W
set_option maxRecDepth 4000 in
set_option maxHeartbeats 4000000 in
theorem sync_any (B : Nat) (G : Nat → Prop) (d : DS) (hn0 : 0 < d.n) (hn : d.n ≤ 4096) (hm : d.m ≤ 100000) (hP : ∀ i, i < d.m → d.P i < d.n) (hf : d.f < 9223372036854775808) (w : World) (h : DkIs w B G d) :
    Calls Try.prog 17 #[.pointer (some ⟨B, 0, none⟩)] w fun r w' => r = .returned (.int .i64 d.serr) ∧ DkIs w' B G d.sync ∧ Tch G w w' := by
  obtain ⟨sv, wv, h⟩ := h
  have hb := h.box
  have hl := hb.lt
  have c3 : w.cell? ⟨B, 3, none⟩ = some (.bool d.dn) := Blk.cell hb 3
  have hGB := h.gB
  cases hdn : d.dn with
  | true =>
    have hs : d.sync = d := by unfold DS.sync; rw [if_pos hdn]
    have he : d.serr = 7 := by unfold DS.serr; rw [if_pos (Or.inl hdn)]
    rw [hs, he]
    have hfin : Hid (DkIs w B G d) := Lib.hid ⟨sv, wv, h⟩
    rw [hdn] at c3
    clear hb h hs he hdn
    go_enter Try.func17, Try.ntmps17
    go_wp2_with fail
    go_ret
    exact ⟨rfl, hfin.out, Tch.refl _ _⟩
  | false =>
    have cA := Lib.hid (act_any B G sv wv d hf w h)
    rw [hdn] at c3
    clear hb h
    by_cases h0 : d.f = 0
    · have hs : d.sync = d.act := by unfold DS.sync; rw [if_neg (by rw [hdn]; simp), if_pos h0]
      have he : d.serr = 7 := by unfold DS.serr; rw [if_pos (Or.inr h0)]
      rw [hs, he]
      clear hdn hs he
      have kd : decide (d.f = 0) = true := decide_eq_true h0
      rw [kd] at cA
      clear h0 kd
      go_enter Try.func17, Try.ntmps17
      go_wp2_with fail
      refine cA.out.mono ?_
      rintro e1 w1 ⟨rfl, hA, ht⟩
      replace hA := Lib.hid hA
      replace ht := Lib.hid ht
      go_wp2_with fail
      go_ret
      exact ⟨rfl, ⟨_, _, hA.out⟩, ht.out.mono (fun k _ x => by rw [x]; exact hGB)⟩
    · have hs : d.sync = d.act.flat := by unfold DS.sync; rw [if_neg (by rw [hdn]; simp), if_neg h0]
      have he : d.serr = 0 := by unfold DS.serr; rw [if_neg (by rw [hdn]; simp; exact h0)]
      have hact : d.act.n = d.n ∧ d.act.S = d.S ∧ d.act.m = d.m ∧ d.act.P = d.P ∧ d.act.D = d.D := by unfold DS.act; rw [if_neg h0]; split <;> exact ⟨rfl, rfl, rfl, rfl, rfl⟩
      rw [hs, he]
      clear hdn hs he
      have kd : decide (d.f = 0) = false := decide_eq_false h0
      rw [kd] at cA
      clear h0 kd
      obtain ⟨d1, hd1⟩ : ∃ d1, d1 = d.act := ⟨_, rfl⟩
      obtain ⟨q1, q2, q3, q4, q5⟩ := hact
      rw [← hd1] at q1 q2 q3 q4 q5 ⊢
      rw [← q1] at hn hn0 hP
      rw [← q3, ← q4] at hP
      rw [← q3] at hm
      rw [← hd1] at cA
      clear q1 q2 q3 q4 q5 hd1 hf
      replace hP := Lib.hid hP
      go_enter Try.func17, Try.ntmps17
      go_wp2_with fail
      refine cA.out.mono ?_
      rintro e1 w1 ⟨rfl, hA, ht⟩
      obtain ⟨Aw, cw, rfl, hw1, hw2, hw3⟩ := hA.waits.ssis (fun i => wcl_len _ _)
      obtain ⟨gs, caps, Fs, rfl, _, hs1, hs2, hs3, hs4, hs5⟩ := hA.safe.row (fun i => bytesL_len _) hn0
      unfold maxLen at hw2 hs2
      have hb := hA.box
      have c0 : w1.cell? ⟨B, 0, none⟩ = some (.slice (some ⟨gs, 0, none⟩) d1.n caps) := Blk.cell hb 0
      have c1 : w1.cell? ⟨B, 1, none⟩ = some (.slice Aw d1.m cw) := Blk.cell hb 1
      have hl1 := hb.lt
      have hA' := Lib.hid hA
      have ht1 := Lib.hid (ht.mono (S' := G) (fun k _ x => by rw [x]; exact hGB))
      have hsafe0 : Hid (OwnS w1 0 67 512 (.slice (some ⟨gs, 0, none⟩) d1.n caps) d1.n (fun b => bytesL (curD d1.S d1.P d1.D 0 b))) := Lib.hid hA.safe
      have hgs := hA.gs gs rfl
      clear hw3 hs3 hs4 hs5 hA ht cA hb c3
      go_wp2_with fail
      go_loopw [18] (fun i wr => ∃ (j : Nat), j ≤ d1.m ∧ i = .int .i64 j ∧ Hid (OwnS wr 0 67 512 (.slice (some ⟨gs, 0, none⟩) d1.n caps) d1.n (fun b => bytesL (curD d1.S d1.P d1.D j b))) ∧ Hid (Tch (fun k => k = gs) w1 wr)) (fun i _ => d1.m - (intOf i).toNat)
      case atStart => exact ⟨0, by omega, rfl, hsafe0, Tch.refl _ _⟩
      case round =>
        clear hsafe0
        obtain ⟨j, hj, rfl, hS, htr⟩ := hrel
        have hwt := hA'.out.waits.tch htr.out (fun b x y => hA'.out.sw gs rfl (by rw [x, y]))
        have hbx := hA'.out.box.tch htr.out (fun x => hgs.2 x.symm)
        have hszr := htr.out.size
        by_cases hjl : j < d1.m
        · obtain ⟨gw, capw, Fw, ew, _, hw4, hw5, hw6, hw7, hw8⟩ := hwt.row (fun i => wcl_len _ _) (by omega)
          cases ew
          have hLW := ld_W hw6 hw7 hjl hw4 hw8
          obtain ⟨gs', capS, FS, eS, _, hS1, hS2, hS3, hS4, hS5⟩ := hS.out.row (fun i => bytesL_len _) hn0
          cases eS
          have hPj := hP.out j hjl
          obtain ⟨W8, hst8, hb8, hbel8, hlt8⟩ := new_W wr (d1.P j) (d1.D j)
          obtain ⟨x0, x1⟩ := cell_W hb8
          have hLB : loadV Try.prog 67 512 W8.drew (.pointer (some ⟨wr.heap.size, 1, none⟩)) = .ok (bytV (d1.D j)) W8.drew := load_sl (fun i hi => x1 i hi)
          have y0 : W8.cell? ⟨B, 0, none⟩ = some (.slice (some ⟨gs, 0, none⟩) d1.n caps) := Blk.cell (hbx.kept hbel8) 0
          have yl := (hbx.kept hbel8).lt
          have hstB : storeV Try.prog 67 512 W8.drew (.pointer (some ⟨gs, d1.P j * 512, none⟩)) (bytV (d1.D j)) = .ok () (W8.drew.setRow gs (rowC caps (updL FS (d1.P j) (bytesL (d1.D j)))).toArray) := store_at (hS3.kept hbel8).drew hS4 (by omega) (bytesL_len _) (bytesL_one _)
          have hrel' : Hid (OwnS (W8.drew.setRow gs (rowC caps (updL FS (d1.P j) (bytesL (d1.D j)))).toArray) 0 67 512 (.slice (some ⟨gs, 0, none⟩) d1.n caps) d1.n (fun b => bytesL (curD d1.S d1.P d1.D (j + 1) b)) ∧ Tch (fun k => k = gs) w1 (W8.drew.setRow gs (rowC caps (updL FS (d1.P j) (bytesL (d1.D j)))).toArray)) := Lib.hid (by
            refine ⟨OwnS.of_row (setRow_heap _ _ _ _ _ _ (hS3.kept hbel8).drew) (updL_len hS4 (bytesL_len _)) (fun b hb => ?_) (Nat.zero_le _) hS1 (by unfold maxLen; exact hs2), ((htr.out.bel hbel8).drew).setRow (fun _ => rfl) _⟩
            unfold updL
            show _ = bytesL (if d1.P j = b then d1.D j else curD d1.S d1.P d1.D j b)
            by_cases e : b = d1.P j
            · rw [if_pos e, if_pos e.symm]
            · rw [if_neg e, if_neg (fun x => e x.symm), hS5 b hb])
          clear hS3 hS4 hS5 hw6 hw7 hw8 hb8 x1 hwt hbx hS
          generalize d1.P j = p at *
          generalize d1.D j = dd at *
          go_wp2_with fail
          go_region
          all_goals
            go_wp2_with fail
            go_roundw
          all_goals first | exact ⟨j + 1, by omega, by go_num, Lib.hid hrel'.out.1, Lib.hid hrel'.out.2⟩ | (simp [intOf]; omega)
        · obtain rfl : j = d1.m := by omega
          have y1 : wr.cell? ⟨B, 1, none⟩ = some (.slice Aw d1.m cw) := Blk.cell hbx 1
          have yf := Blk.frozen hbx 1
          have yl := hbx.lt
          have hfin : Hid (DkIs (wr.setCell ⟨B, 1, none⟩ (.slice none 0 0)) B G d1.flat ∧ Tch G w (wr.setCell ⟨B, 1, none⟩ (.slice none 0 0))) := Lib.hid (by
            have hsT := (Tch.refl (fun k => k = B) wr).set (p := ⟨B, 1, none⟩) (fun _ => rfl) (.slice none 0 0)
            refine ⟨⟨.slice (some ⟨gs, 0, none⟩) d1.n caps, .slice none 0 0, Blk.set' hbx 1 _ rfl, hS.out.tch hsT (fun b x y => ?_), OwnS.nil _ _ _ _ _, hGB, hA'.out.gs, fun b x => by simp [Value.ownBlock] at x, fun b _ x => by simp [Value.ownBlock] at x, fun k hk => ?_⟩, ?_⟩
            · exact (hA'.out.gs b x).2 y
            · exact Nat.lt_of_lt_of_le (hA'.out.lt k hk) (Nat.le_trans hszr hsT.size)
            · exact (ht1.out.trans2 htr.out (fun k _ x => by rw [x]; exact hgs.1)).trans2 hsT (fun k _ x => by rw [x]; exact hGB))
          clear hwt hbx hS htr
          go_wp2_with fail
          go_ret
          exact ⟨rfl, hfin.out⟩
end
end Go.Proofs.Ytnbfnlpepnbppaa
