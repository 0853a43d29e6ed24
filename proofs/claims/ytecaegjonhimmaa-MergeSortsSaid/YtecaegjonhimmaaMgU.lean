/-
  The document's merge, walked.
-/
import Derived.Test.YtecaegjonhimmaaJ1
namespace Go.Proofs.Ytecaegjonhimmaa
set_option linter.unusedVariables false
set_option linter.unusedSimpArgs false
open Go.RowKit Go.Shelf

theorem info_RIt : (Try.prog.info? 33).map (fun i => (i.zero, i.size, i.bytes)) = some (some (.agg #[.int .u64 0, .int .u64 0, .int .u64 0, .int .u8 0]), 4, 32) := by kernel_rfl
/-- a head's item, where it lies -/
theorem LsIs.item {w : World} {A : Option Addr} {n : Nat} {L : Nat → List (Nat → Int)} (h : LsIs w A n L) {s i : Nat} (hs : s < n) (hi : i < (L s).length) :
    ∃ b o bs os cs, A = some ⟨b, o, none⟩ ∧ b < w.heap.size ∧ w.cell? ⟨b, o + s, none⟩ = some (.slice (some ⟨bs, os, none⟩) (L s).length cs) ∧ (L s).length ≤ cs ∧ cs ≤ maxLen ∧ bs < w.heap.size ∧
      w.cell? ⟨bs, os + i * 4, none⟩ = some (.int .u64 (atL (L s) i 0)) ∧ w.cell? ⟨bs, os + i * 4 + 1, none⟩ = some (.int .u64 (atL (L s) i 1)) ∧ w.cell? ⟨bs, os + i * 4 + 2, none⟩ = some (.int .u64 (atL (L s) i 2)) ∧ w.cell? ⟨bs, os + i * 4 + 3, none⟩ = some (.int .u8 (atL (L s) i 3)) := by
  obtain ⟨b, o, e, hl, hc⟩ := h (by omega)
  obtain ⟨Ai, ci, h1, h2, h3, h4⟩ := hc s hs
  obtain ⟨bs, os, e2, q⟩ := ssis_at h4 hi
  subst e2
  exact ⟨b, o, bs, os, ci, e, hl, h1, h2, h3, q⟩
set_option maxRecDepth 8000 in
set_option maxHeartbeats 8000000 in
theorem refmerge_any (dn : Bool) (A : Option Addr) (n c : Nat) (L : Nat → List (Nat → Int)) (hn : n ≤ c) (hc : c ≤ maxLen) (hn2 : n ≤ 20) (hl : ∀ i, i < n → (L i).length ≤ 100) (bx rb : Nat → Nat) (w : World) (hL : LsIs w A n L) :
    Calls Try.prog 10 #[.bool dn, .slice A n c] w fun r w' => ∃ l p v, Runs (ofSys n bx rb L) dn (fun _ => 0) l p ∧ Done (ofSys n bx rb L) p ∧ r = .returned v ∧ LI 33 w' v l ∧ (∀ b, v.ownBlock = some b → w.heap.size ≤ b) ∧ l.length ≤ 2000 ∧ Below w.heap.size w w' := by
  replace hL := Lib.hid hL
  have hl' := Lib.hid hl
  clear hl
  unfold maxLen at hc
  have hmk := fun W => run_mkI W n (by omega)
  obtain ⟨S, hS⟩ : ∃ S, S = ofSys n bx rb L := ⟨_, rfl⟩
  have hSK : S.K = n := by rw [hS]; rfl
  have hSl : Hid (∀ s, S.len s = (L s).length) := Lib.hid (fun s => by rw [hS]; rfl)
  have hSX : Hid (∀ s i, S.X s i = atL (L s) i) := Lib.hid (fun s i => by rw [hS]; rfl)
  rw [← hS]
  replace hS := Lib.hid hS
  have hroom : Hid (∀ l p b, Runs S dn (fun _ => 0) l p → b < n → p b < S.len b → l.length < 2000) := Lib.hid (fun l p b h1 h2 h3 => by
    have h4 := h1.room (by rw [hSK]; exact h2) h3
    have h5 : sumN S.K S.len ≤ S.K * 100 := sumN_const (fun s hs => by rw [hSl.out]; exact hl'.out s (by omega))
    have h6 : S.K * 100 ≤ 20 * 100 := Nat.mul_le_mul_right _ (by omega)
    omega)
  go_enter Try.func10, Try.ntmps10
  go_upto_region 3 with fail
  refine abs_wp (fun X => Below w.heap.size w X ∧ NRow X w.heap.size n (fun _ => 0) ∧ LI 33 X (.slice (some ⟨w.heap.size + 1, 0, none⟩) 0 0) [] ∧ w.heap.size + 1 < X.heap.size) ⟨by (repeat (first | exact Below.refl _ _ | assumption | refine below_drewN ?_ _ | refine bel_grow ?_ _ | refine Below.drew ?_ | refine bel_alloc ?_ _ | refine bel_set ?_ (by first | exact Nat.le_refl _ | (simp; done) | (simp; omega) | omega) _ | refine bel_trans ?_ (by assumption))), Blk.alloc (Blk.new _ _ _) _, ⟨by simp, Or.inr ⟨w.heap.size + 1, 0, #[], rfl, Nat.zero_le _, Blk.new' (by simp), Nat.le_refl _, by simp [maxLen], by simp, by simp⟩⟩, by simp⟩ ?_
  rintro X ⟨hbX, hNX, hLX, hsX⟩
  replace hbX := Lib.hid hbX
  replace hNX := Lib.hid hNX
  replace hLX := Lib.hid hLX
  clear hmk
  go_loopw [6] (fun v wr => ∃ (l : List (Nat → Int)) (p : Nat → Nat), Hid (Runs S dn (fun _ => 0) l p) ∧ l.length ≤ 2000 ∧ Hid (LI 33 wr v l) ∧ Hid (NRow wr w.heap.size n p) ∧ Hid (∀ b, v.ownBlock = some b → w.heap.size < b) ∧ Hid (Below w.heap.size w wr)) (fun v _ => 2000 - lenV v)
  case atStart => exact ⟨[], fun _ => 0, Runs.nil, by simp, hLX, hNX, Lib.hid (fun b hb => by simp [Value.ownBlock] at hb; omega), hbX⟩
  case round =>
    clear hbX hNX hLX hsX
    obtain ⟨l, p, hr, hle, hLI, hN, hob, hb⟩ := hrel
    obtain ⟨A1, c1, rfl, hq1, hq2⟩ := hLI.out.form
    unfold maxLen at hq2
    have hsz := hb.out.size
    go_upto_region 5 with fail
    go_loopw [7, 8] (fun z i wi => ∃ (m : Nat) (zz : Int), m ≤ n ∧ i = .int .i64 m ∧ z = .int .i64 zz ∧ Hid (ScanV S dn p m zz) ∧ Hid (Below wr.heap.size wr wi)) (fun _ i _ => n - (intOf i).toNat)
    case atStart => exact ⟨0, -1, by omega, rfl, rfl, ScanV.none, Below.refl _ _⟩
    case round =>
      obtain ⟨m, zz, hm, rfl, rfl, hsc, hbi⟩ := hrel
      have hszi := hbi.out.size
      have hNi := hN.out.kept hbi.out
      have lga := hNi.lt
      have hLi := Lib.hid (hL.out.kept (bel_eld hb.out hbi.out))
      by_cases hlt : m < n
      · have c5 := hNi.cell hlt
        obtain ⟨b0, o0, hA, hb0l, hcs⟩ := hLi.out (by omega)
        obtain ⟨Am, cm, a0, a1, a2, a3⟩ := hcs m hlt
        have hlm := hl'.out m hlt
        unfold maxLen at a2
        subst hA
        by_cases hgo : p m < (L m).length
        · obtain ⟨b1, o1, e1, hb1l, x0, _⟩ := ssis_at a3 hgo
          subst e1
          by_cases hz : zz < 0
          · have hz1 : zz = -1 := by
              rcases hsc.out with ⟨h, _⟩ | ⟨b, h, _⟩ <;> omega
            subst hz1
            have hsc2 := Lib.hid (hsc.out.first (by rw [hSl.out]; exact hgo))
            clear hcs a3 hNi
            go_wp2_with fail
            go_region
            go_wp2_with fail
            go_roundw
            case rel => exact ⟨m + 1, m, by omega, by go_num, rfl, hsc2, Lib.hid hbi.out.drew⟩
            case measure => simp [intOf]; omega
          · obtain ⟨b, rfl, hB⟩ : ∃ b : Nat, zz = b ∧ BestTo S dn p m b := by
              rcases hsc.out with ⟨h, _⟩ | h
              · omega
              · exact h
            have hbm := hB.1
            have hbl := hB.2.1
            rw [hSl.out] at hbl
            have c6 := hNi.cell (show b < n by omega)
            have hlb := hl'.out b (by omega)
            obtain ⟨Ab, cb, y0, y1, y2, y3⟩ := hcs b (by omega)
            unfold maxLen at y2
            obtain ⟨b2, o2, e2, hb2l, z0, _⟩ := ssis_at y3 hbl
            subst e2
            have lu := less_up (S := S) (p := p) hbm
            have ld := less_dn (S := S) (p := p) hbm
            rw [hSX.out, hSX.out] at lu ld
            replace hB := Lib.hid hB
            replace lu := Lib.hid lu
            replace ld := Lib.hid ld
            clear hcs a3 y3 hNi hsc
            generalize atL (L m) (p m) 0 = xm at *
            generalize atL (L b) (p b) 0 = xb at *
            go_wp2_with fail
            go_region
            go_wp2_with fail
            go_region
            cases dn with
            | false =>
              by_cases hx : xm < xb
              · have hsc2 : Hid (ScanV S false p (m + 1) m) := Lib.hid (Or.inr ⟨m, rfl, hB.out.swap (by rw [hSl.out]; exact hgo) (by rw [lu.out, decide_eq_true hx])⟩)
                clear lu ld hB
                go_wp2_with fail
                go_roundw
                case rel => exact ⟨m + 1, m, by omega, by go_num, rfl, hsc2, Lib.hid hbi.out.drew.drew⟩
                case measure => simp [intOf]; omega
              · have hsc2 : Hid (ScanV S false p (m + 1) b) := Lib.hid (Or.inr ⟨b, rfl, hB.out.keep (by rw [lu.out, decide_eq_false hx])⟩)
                clear lu ld hB
                go_wp2_with fail
                go_roundw
                case rel => exact ⟨m + 1, b, by omega, by go_num, rfl, hsc2, Lib.hid hbi.out.drew.drew⟩
                case measure => simp [intOf]; omega
            | true =>
              by_cases hx : xb < xm
              · have hsc2 : Hid (ScanV S true p (m + 1) m) := Lib.hid (Or.inr ⟨m, rfl, hB.out.swap (by rw [hSl.out]; exact hgo) (by rw [ld.out, decide_eq_true hx])⟩)
                clear lu ld hB
                go_wp2_with fail
                go_roundw
                case rel => exact ⟨m + 1, m, by omega, by go_num, rfl, hsc2, Lib.hid hbi.out.drew.drew⟩
                case measure => simp [intOf]; omega
              · have hsc2 : Hid (ScanV S true p (m + 1) b) := Lib.hid (Or.inr ⟨b, rfl, hB.out.keep (by rw [ld.out, decide_eq_false hx])⟩)
                clear lu ld hB
                go_wp2_with fail
                go_roundw
                case rel => exact ⟨m + 1, b, by omega, by go_num, rfl, hsc2, Lib.hid hbi.out.drew.drew⟩
                case measure => simp [intOf]; omega
        · have hsc2 := Lib.hid (hsc.out.skip (by rw [hSl.out]; omega))
          clear hcs a3 hNi
          go_wp2_with fail
          go_region
          go_wp2_with fail
          go_roundw
          case rel => exact ⟨m + 1, zz, by omega, by go_num, rfl, hsc2, Lib.hid hbi.out.drew⟩
          case measure => simp [intOf]; omega
      · obtain rfl : m = n := by omega
        by_cases hz : zz < 0
        · have hdone : Done S p := by
            rcases hsc.out with ⟨_, h⟩ | ⟨b, h, _⟩
            · exact fun s hs => h s (by omega)
            · omega
          have hLf := Lib.hid (hLI.out.kept hbi.out)
          clear hNi
          go_wp2_with fail
          go_ret
          exact ⟨l, p, _, hr.out, hdone, rfl, hLf.out, fun b hb => by have := hob.out b hb; omega, hle, bel_eld hb.out hbi.out⟩
        · obtain ⟨b, rfl, hB⟩ : ∃ b : Nat, zz = b ∧ BestTo S dn p m b := by
            rcases hsc.out with ⟨h, _⟩ | h
            · omega
            · exact h
          have hbm := hB.1
          have hbl := hB.2.1
          have hr2 := Lib.hid (hr.out.snoc (b := b) ⟨by omega, hbl, fun t ht => hB.2.2 t (by omega)⟩)
          have hlt2 := hroom.out l p b hr.out hbm hbl
          rw [hSl.out] at hbl
          rw [hSX.out] at hr2
          have c6 := hNi.cell hbm
          have fz6 := hNi.frozen b
          have hlb := hl'.out b hbm
          obtain ⟨b0, o0, b2, o2, cb, hA, hb0l, y0, y1, y2, hb2l, z0, z1, z2, z3⟩ := hLi.out.item hbm hbl
          subst hA
          unfold maxLen at y2
          obtain ⟨x, hx⟩ : ∃ x, x = atL (L b) (p b) := ⟨_, rfl⟩
          rw [← hx] at z0 z1 z2 z3 hr2
          have hLi2 := Lib.hid (hLI.out.kept hbi.out)
          have hNi2 := Lib.hid hNi
          replace hx := Lib.hid hx
          clear hNi hB hsc
          have hbw := Lib.hid (bel_eld hb.out hbi.out)
          have hsz2 := hbw.out.size
          have hobl := Lib.hid (hLi2.out.lt)
          clear hb hbi hN hLI
          go_wp2_with fail
          go_region_law (go_loud (refine step_appI (t0 := 33) (x := x) rfl (.tmp 75) (.tmp 86) (t := 27) Try.underlying27 info_RIt rfl (by omega) rfl rfl rfl (hLi2.out.kept (bel_alloc (Below.drew (Below.refl _ _)) _)) (Blk.new' rfl) (by omega) ?_); intro v5 w5 ho5 ht5 hob5; have hfar : Hid (∀ b, (Value.slice A1 l.length c1).ownBlock = some b → w.heap.size < b) := hob; have ht6 := Lib.hid ((tch_of (bel_alloc (Below.drew (Below.refl wr.heap.size wr)) _) _).trans ht5); have hN5 := Lib.hid (hNi2.out.tch ht6.out (fun e => by have := hfar.out _ e; omega)); replace ht5 := Lib.hid ht5)
          all_goals (
            have hown5 : Hid (∀ k, v5.ownBlock = some k → w.heap.size < k) := Lib.hid (fun k hk => by
              rcases hob5 with e | e
              · exact hob.out k (e.symm.trans hk)
              · rw [e] at hk; simp at hk; omega)
            obtain ⟨A5, c5', e5, _, _⟩ := ho5.form
            rw [List.length_append] at e5
            subst e5
            have n5 := hN5.out.cell hbm
            have n6 := hN5.out.frozen b
            have n7 := hN5.out.lt
            replace ho5 := Lib.hid ho5
            clear hob5
            go_wp2_with fail
            go_roundw)
          case rel => exact ⟨l ++ [x], updN p b (p b + 1), hr2, by simp; omega, Lib.hid (LI.tch ho5.out ((Tch.refl (fun k => k = w.heap.size) _).set (p := ⟨w.heap.size, b, none⟩) (fun _ => rfl) _) (fun k hk e => by have := hown5.out k hk; omega)), Lib.hid (hN5.out.set b (p b + 1)), hown5, Lib.hid (bel_set (hbw.out.trans (ht6.out.below hsz2 (fun k hk e => by have := hfar.out k e; omega))) (Nat.le_refl _) _)⟩
          case measure => simp only [lenV]; omega
          case rel => exact ⟨l ++ [x], updN p b (p b + 1), hr2, by simp; omega, Lib.hid (LI.tch ho5.out ((Tch.refl (fun k => k = w.heap.size) _).set (p := ⟨w.heap.size, b, none⟩) (fun _ => rfl) _) (fun k hk e => by have := hown5.out k hk; omega)), Lib.hid (hN5.out.set b (p b + 1)), hown5, Lib.hid (bel_set (hbw.out.trans (ht6.out.below hsz2 (fun k hk e => by have := hfar.out k e; omega))) (Nat.le_refl _) _)⟩
          case measure => simp only [lenV]; omega
end Go.Proofs.Ytecaegjonhimmaa
