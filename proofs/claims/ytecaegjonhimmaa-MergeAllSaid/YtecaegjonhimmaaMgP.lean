/-
  The laws' helpers: item, items, great, walked.
-/
import Derived.Test.YtecaegjonhimmaaMgO
namespace Go.Proofs.Ytecaegjonhimmaa
set_option linter.unusedVariables false
set_option linter.unusedSimpArgs false
open Go.RowKit Go.Shelf

/-- a list of lists of items -/
def LsIs (w : World) (A : Option Addr) (n : Nat) (L : Nat → List (Nat → Int)) : Prop :=
  0 < n → ∃ b o, A = some ⟨b, o, none⟩ ∧ b < w.heap.size ∧ ∀ i, i < n → ∃ Ai ci, w.cell? ⟨b, o + i, none⟩ = some (.slice Ai (L i).length ci) ∧ (L i).length ≤ ci ∧ ci ≤ maxLen ∧ SsIs w Ai (L i).length 4 (fun j => icl (atL (L i) j))
theorem LsIs.kept {w w' : World} {A : Option Addr} {n : Nat} {L : Nat → List (Nat → Int)} (h : LsIs w A n L) (hb : Below w.heap.size w w') : LsIs w' A n L := fun hn => by
  obtain ⟨b, o, e, hl, hc⟩ := h hn
  refine ⟨b, o, e, Nat.lt_of_lt_of_le hl hb.size, fun i hi => ?_⟩
  obtain ⟨Ai, ci, h1, h2, h3, h4⟩ := hc i hi
  exact ⟨Ai, ci, keepc hb h1, h2, h3, h4.below hb⟩
theorem results_c1 {P : Program} {fn : Func} {a : Tmp} {t : TypeId} {tmps : Array Value} {w : World} {ad : Addr} {v : Value} (h : fn.results = #[.cell a t]) (ha : tmps.getD a undef = .pointer (some ad)) (hl : (loadVar t ad).run P w = .ok v w) : (results fn tmps).run P w = .ok v w := by
  simp at ha
  simp [results, h, ha, hl, asAddr, Sem.run_bind]
set_option maxHeartbeats 4000000 in
theorem item_any (x : Nat → Int) (w : World) : Calls Try.prog 12 #[itV x] w fun r w' => r = .returned (itV x) ∧ Below w.heap.size w w' := by
  unfold itV
  generalize x 0 = x0 at *
  generalize x 1 = x1 at *
  generalize x 2 = x2 at *
  generalize x 3 = x3 at *
  go_enter Try.func12, Try.ntmps12
  go_wp2_with fail
  refine abs_post (fun Y_ => Below w.heap.size w Y_ ∧ Blk Y_ (w.heap.size + 1) 34 #[.int .u64 x0, .int .u64 x1, .int .u64 x2, .int .u8 x3]) ⟨by (repeat (first | exact Below.refl _ _ | assumption | refine below_drewN ?_ _ | refine bel_grow ?_ _ | refine Below.drew ?_ | refine bel_alloc ?_ _ | refine bel_set ?_ (by first | exact Nat.le_refl _ | (simp; done) | (simp; omega) | omega) _ | refine bel_trans ?_ (by assumption))), by (repeat (first | with_reducible assumption | (with_reducible refine Blk.new' ?_; first | with_reducible rfl | (simp; done)) | with_reducible refine Blk.alloc ?_ _ | with_reducible refine Blk.grow ?_ _ | with_reducible refine Blk.drew ?_ | with_reducible refine Blk.drewN ?_ _ | (with_reducible refine Blk.far ?_ (by first | (dsimp only; omega) | (simp; omega)) _) | (with_reducible apply Blk.two) | (with_reducible refine Blk.set' ?_ _ _ ?_) | (with_reducible rfl) | rfl))⟩ ?_
  rintro Y_ ⟨tY_, gP_⟩
  have HLV := loadVar_blk (ty := 34) Try.underlying34 rfl (by kernel_rfl) gP_ rfl
  exact bodyPost_ret (v := .agg #[.int .u64 x0, .int .u64 x1, .int .u64 x2, .int .u8 x3]) (results_c1 Try.results12 rfl HLV) rfl ⟨rfl, tY_⟩
theorem ssis_at {w : World} {A : Option Addr} {l : List (Nat → Int)} {i : Nat} (h : SsIs w A l.length 4 (fun j => icl (atL l j))) (hi : i < l.length) : ∃ b o, A = some ⟨b, o, none⟩ ∧ b < w.heap.size ∧ w.cell? ⟨b, o + i * 4, none⟩ = some (.int .u64 (atL l i 0)) ∧ w.cell? ⟨b, o + i * 4 + 1, none⟩ = some (.int .u64 (atL l i 1)) ∧ w.cell? ⟨b, o + i * 4 + 2, none⟩ = some (.int .u64 (atL l i 2)) ∧ w.cell? ⟨b, o + i * 4 + 3, none⟩ = some (.int .u8 (atL l i 3)) := by
  obtain ⟨b, o, e, hl, hc⟩ := h (by omega)
  have q := hc i hi
  exact ⟨b, o, e, hl, by simpa [icl] using q 0 _ rfl, by simpa [icl] using q 1 _ rfl, by simpa [icl] using q 2 _ rfl, by simpa [icl] using q 3 _ rfl⟩
set_option maxHeartbeats 8000000 in
theorem items_any (A : Option Addr) (c : Nat) (l : List (Nat → Int)) (hc : l.length ≤ c) (hc2 : c ≤ maxLen) (hn : l.length ≤ 1000) (w : World) (hs : SsIs w A l.length 4 (fun j => icl (atL l j))) :
    Calls Try.prog 16 #[.slice A l.length c] w fun r w' => ∃ v, r = .returned v ∧ OwnS w' w.heap.size 34 4 v l.length (fun j => icl (atL l j)) ∧ Below w.heap.size w w' := by
  replace hs := Lib.hid hs
  unfold maxLen at hc2
  obtain ⟨n, hnl⟩ : ∃ n, n = l.length := ⟨_, rfl⟩
  rw [← hnl] at hc hn ⊢
  replace hnl := Lib.hid hnl
  have kcl : ∀ m, icl (atL l m) = [.int .u64 (atL l m 0), .int .u64 (atL l m 1), .int .u64 (atL l m 2), .int .u8 (atL l m 3)] := fun _ => rfl
  replace kcl := Lib.hid kcl
  have ho0 : OwnS w w.heap.size 34 4 (.slice none 0 0) 0 (fun j => icl (atL l j)) := OwnS.nil _ _ _ _ _
  replace ho0 := Lib.hid ho0
  go_enter Try.func16, Try.ntmps16
  go_wp2_with fail
  go_loopw [3, 8] (fun v i wr => ∃ m : Nat, m ≤ n ∧ i = .int .i64 m ∧ Hid (OwnS wr w.heap.size 34 4 v m (fun j => icl (atL l j))) ∧ Hid (Below w.heap.size w wr)) (fun _ i _ => n - (intOf i).toNat)
  case atStart => exact ⟨0, by omega, rfl, ho0, Below.refl _ _⟩
  case round =>
    clear ho0
    obtain ⟨m, hm, rfl, ho, hb⟩ := hrel
    have hsz := hb.out.size
    obtain ⟨A1, c1, rfl, hq1, hq2, _⟩ := ho.out.ssis (fun _ => rfl)
    by_cases hlt : m < n
    · obtain ⟨b, o, rfl, hbl, a0, a1, a2, a3⟩ := ssis_at (i := m) (hs.out.below hb.out) (by rw [← hnl.out]; exact hlt)
      have kx := kcl.out m
      have cI := item_any (atL l m)
      unfold itV at cI
      replace kx := Lib.hid kx
      generalize hx0 : atL l m 0 = x0 at *
      generalize hx1 : atL l m 1 = x1 at *
      generalize hx2 : atL l m 2 = x2 at *
      generalize hx3 : atL l m 3 = x3 at *
      clear hx0 hx1 hx2 hx3
      go_wp2_with fail
      refine (cI _).mono ?_
      rintro e2 w2 ⟨rfl, hb2⟩
      have hb3 := Lib.hid (bel_eld (bel_alloc hb.out _) hb2)
      have ho3 := Lib.hid (ho.out.kept (bel_eld (bel_alloc (Below.refl _ _) _) hb2))
      have hsz3 := hb3.out.size
      replace hb2 := Lib.hid hb2
      clear ho hb cI
      go_wp2_with (at_builtin; refine wpList_appS rfl (.tmp 12) (.tmp 15) (t0 := 34) (t := 38) Try.underlying38 info_Itm rfl (by omega) (by omega) rfl rfl rfl (ho3.out.kept (bel_alloc (Below.refl _ _) _)) rfl (by rw [kx.out]; exact Blk.new _ _ _) (icl_one _) (by omega) (by simp; omega) ?_; intro v5 w5 ho5 hb5; obtain ⟨A8, c8, rfl, _, _, _⟩ := OwnS.ssis ho5 (fun _ => rfl))
      go_roundw
      case rel => exact ⟨m + 1, by omega, by go_num, ho5, Lib.hid ((bel_alloc hb3.out _).trans hb5)⟩
      case measure => simp [intOf]; omega
    · obtain rfl : m = n := by omega
      go_wp2_with fail
      go_ret
      exact ⟨_, rfl, ho.out, hb.out⟩
set_option maxHeartbeats 4000000 in
theorem great_any (A : Option Addr) (n c : Nat) (L : Nat → List (Nat → Int)) (hn : n ≤ c) (hc : c ≤ maxLen) (w : World) (hL : LsIs w A n L) :
    Calls Try.prog 7 #[.slice A n c] w fun r w' => ∃ b : Bool, r = .returned (.bool b) ∧ (b = false → n ≤ 20 ∧ ∀ i, i < n → (L i).length ≤ 100) ∧ Below w.heap.size w w' := by
  replace hL := Lib.hid hL
  unfold maxLen at hc
  by_cases h20 : 20 < n
  · go_enter Try.func7, Try.ntmps7
    go_wp2_with fail
    go_ret
    exact ⟨true, rfl, fun h => (Bool.noConfusion h), Below.refl _ _⟩
  · go_enter Try.func7, Try.ntmps7
    go_wp2_with fail
    go_loopw [10] (fun i wr => ∃ m : Nat, m ≤ n ∧ i = .int .i64 m ∧ Hid (∀ i, i < m → (L i).length ≤ 100) ∧ wr = w) (fun i _ => n - (intOf i).toNat)
    case atStart => exact ⟨0, by omega, rfl, fun i h => by omega, rfl⟩
    case round =>
      obtain ⟨m, hm, rfl, hq, rfl⟩ := hrel
      by_cases hlt : m < n
      · obtain ⟨b, o, rfl, hbl, hcs⟩ := hL.out (by omega)
        obtain ⟨Ai, ci, a0, a1, a2, _⟩ := hcs m hlt
        unfold maxLen at a2
        clear hcs
        by_cases h100 : 100 < (L m).length
        · go_wp2_with fail
          go_ret
          exact ⟨true, rfl, fun h => (Bool.noConfusion h), Below.refl _ _⟩
        · go_wp2_with fail
          go_roundw
          case rel => exact ⟨m + 1, by omega, by go_num, Lib.hid (fun i hi => by
            by_cases e : i = m
            · subst e; omega
            · exact hq.out i (by omega)), trivial⟩
          case measure => simp [intOf]; omega
      · obtain rfl : m = n := by omega
        go_wp2_with fail
        go_ret
        exact ⟨false, rfl, fun _ => ⟨by omega, hq.out⟩, Below.refl _ _⟩
end Go.Proofs.Ytecaegjonhimmaa
