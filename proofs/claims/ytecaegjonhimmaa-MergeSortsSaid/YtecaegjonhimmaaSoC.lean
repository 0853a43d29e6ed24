/-
  MergeSorts, walked.
-/
import Derived.Test.YtecaegjonhimmaaSoB
namespace Go.Proofs.Ytecaegjonhimmaa
set_option linter.unusedVariables false
set_option linter.unusedSimpArgs false
open Go.RowKit Go.Shelf

theorem Made.congr {w : World} {base m : Nat} {bx rb : Nat → Nat} {L L' : Nat → List (Nat → Int)} (h : Made w base m bx rb L) (e : ∀ s, s < m → L s = L' s) : Made w base m bx rb L' := ⟨fun s hs => by rw [← e s hs]; exact h.src s hs, h.lt, h.ne⟩
def updF (L : Nat → List (Nat → Int)) (s : Nat) (l : List (Nat → Int)) : Nat → List (Nat → Int) := fun t => if t = s then l else L t
theorem ins_store {w : World} {base g cap k j : Nat} {R : Nat → List Value} {F F1 : Nat → Nat → Int} (X : Nat → Int) (h : Blk w g 34 (rowC cap (fun i => if j + 1 ≤ i ∧ i < k + 1 then R (i - 1) else R i)).toArray) (hf : ∀ i, (R i).length = 4) (he : ∀ i, i < k + 1 → R i = icl (F1 i)) (hF1 : F1 = fun i => if i < k then F i else fun _ => 0) (hj : j ≤ k) (hk : k + 1 ≤ cap) (hm : cap ≤ maxLen) (hb : base ≤ g) :
    ∃ w', storeV Try.prog 34 4 w (.pointer (some ⟨g, j * 4, none⟩)) (.agg #[.int .u64 (X 0), .int .u64 (X 1), .int .u64 (X 2), .int .u8 (X 3)]) = .ok () w' ∧ OwnS w' base 34 4 (.slice (some ⟨g, 0, none⟩) (k + 1) cap) (k + 1) (fun i => icl (insF F j X i)) ∧ ∀ B w0, Below B w0 w → B ≤ g → Below B w0 w' := by
  have hf2 : ∀ i, ((fun i => if j + 1 ≤ i ∧ i < k + 1 then R (i - 1) else R i) i).length = 4 := fun i => by dsimp only; split <;> exact hf _
  have hs := store_at (P := Try.prog) (ty := 34) h hf2 (i := j) (by omega) (l := icl X) rfl (icl_one X)
  refine ⟨_, hs, OwnS.of_row (setRow_heap w g _ _ _ _ h) (updL_len hf2 rfl) (fun i hi => ?_) hb hk hm, fun B w0 hb hB => bel_setRw hb hB _⟩
  unfold updL insF
  dsimp only
  by_cases e : i = j
  · subst e; rw [if_pos rfl, if_neg (by omega), if_pos rfl]
  · rw [if_neg e]
    by_cases e2 : i < j
    · rw [if_neg (by omega), if_pos e2, he i hi, hF1]
      dsimp only
      rw [if_pos (by omega)]
    · rw [if_pos (by omega), if_neg e2, if_neg e, he (i - 1) (by omega), hF1]
      dsimp only
      rw [if_pos (by omega)]
theorem nrow0s {w : World} {g n : Nat} (h : Blk w g 3 (Array.ofFn (fun _ : Fin n => (.int .i64 0 : Value)))) : NRow w g n (fun _ => 0) := h
def xOf (x : Int) (s : Nat) : Nat → Int := fun t => if t = 0 then x else if t = 3 then s else 0
section
attribute [local go_sem ↓] store_It
set_option maxRecDepth 8000 in
set_option maxHeartbeats 8000000 in
theorem mergeSorts_any (A : Option Addr) (n c : Nat) (ln : Nat → Nat) (q : Nat → Nat → Int) (hn : n ≤ c) (hc : c ≤ maxLen) (w : World) (hL : UsIs w A n ln q) :
    Calls Try.prog 5 #[.slice A n c] w fun r w' => r = .returned (.bool true) ∧ Below w.heap.size w w' := by
  replace hL := Lib.hid hL
  unfold maxLen at hc
  have h0 : ∃ bx rb : Nat → Nat, Hid (OwnS w 0 36 1 (.slice none 0 0) 0 (fun s => [srcV (bx s)])) := ⟨fun _ => 0, fun _ => 0, OwnS.nil _ _ _ _ _⟩
  replace h0 := Lib.hid h0
  go_enter Try.func5, Try.ntmps5
  by_cases h20p : 20 < n
  · go_wp2_with fail
    refine (fixed_any w).mono ?_
    rintro e2 w2 ⟨rfl, hB2⟩
    go_wp2_with fail
    go_ret
    exact ⟨rfl, hB2⟩
  · go_wp2_with fail
    go_loopw [3, 4, 24] (fun v z i wr => ∃ (m : Nat) (bx rb : Nat → Nat) (L : Nat → List (Nat → Int)), m ≤ n ∧ i = .int .i64 m ∧ z = .int .i64 (sumN m ln) ∧ Hid (∀ s, s < m → (L s).length = ln s ∧ ln s ≤ 100 ∧ SortL (L s) s) ∧ Hid (Made wr w.heap.size m bx rb L) ∧ Hid (OwnS wr 0 36 1 v m (fun s => [srcV (bx s)])) ∧ Hid (∀ b, v.ownBlock = some b → w.heap.size ≤ b ∧ ∀ s, s < m → b ≠ bx s ∧ b ≠ rb s) ∧ Hid (Below w.heap.size w wr)) (fun _ _ i _ => n - (intOf i).toNat)
    case atStart =>
      obtain ⟨bx, rb, h2⟩ := h0.out
      exact ⟨0, bx, rb, fun _ => [], by omega, rfl, rfl, Lib.hid (fun s h => by omega), ⟨fun s h => by omega, fun s h => by omega, fun s t h => by omega⟩, h2, Lib.hid (fun b hb => by simp [Value.ownBlock] at hb), Below.refl _ _⟩
    case round =>
      clear h0
      obtain ⟨m, bx, rb, L, hm, rfl, rfl, hLs, hM, hO, hob, hb⟩ := hrel
      have hsz := hb.out.size
      obtain ⟨A1, c1, rfl, hq1, hq2, hq3⟩ := hO.out.ssis (fun _ => rfl)
      unfold maxLen at hq2
      have hsum : sumN m ln ≤ m * 100 := sumN_const (fun s hs => (hLs.out s hs).2.1)
      by_cases hlt : m < n
      · obtain ⟨b, o, rfl, hbl, hcs⟩ := (hL.out.kept hb.out) (by omega)
        obtain ⟨Ai, ci, a0, a1, a2, a3⟩ := hcs m hlt
        unfold maxLen at a2
        clear hcs
        by_cases h100p : 100 < ln m
        · clear hq3
          replace a3 := Lib.hid a3
          go_wp2_with fail
          refine (fixed_any _).mono ?_
          rintro e2 w2 ⟨rfl, hB2⟩
          go_wp2_with fail
          go_ret
          exact ⟨rfl, bel_eld hb.out hB2⟩
        · replace hq3 := Lib.hid hq3
          replace a3 := Lib.hid a3
          obtain ⟨wo, hwo⟩ : ∃ x : World, x = wr := ⟨_, rfl⟩
          subst hwo
          go_upto_region 12 with fail
          refine abs_wp (fun X => Below wo.heap.size wo X ∧ OwnS X wo.heap.size 34 4 (.slice (some ⟨wo.heap.size, 0, none⟩) 0 0) 0 (fun i => icl ((fun _ _ => 0 : Nat → Nat → Int) i))) ⟨bel_alloc (Below.refl _ _) _, ⟨by simp, Or.inr ⟨wo.heap.size, 0, #[], rfl, Nat.le_refl _, Blk.new _ _ _, Nat.le_refl _, by simp [maxLen], by simp, by simp⟩⟩⟩ ?_
          rintro X ⟨hbX, hOX⟩
          replace hbX := Lib.hid hbX
          replace hOX := Lib.hid hOX
          go_loopw [7, 36] (fun v i wi => ∃ (k : Nat) (F : Nat → Nat → Int), k ≤ ln m ∧ i = .int .i64 k ∧ Hid (SortF k m F) ∧ Hid (OwnS wi wo.heap.size 34 4 v k (fun i => icl (F i))) ∧ Hid (Below wo.heap.size wo wi)) (fun _ i _ => ln m - (intOf i).toNat)
          case atStart => exact ⟨0, fun _ _ => 0, by omega, rfl, ⟨fun i h => by omega, fun i h => by omega⟩, hOX, hbX⟩
          case round =>
            clear hbX hOX
            obtain ⟨k, F, hk, rfl, hSF, hOk, hbk⟩ := hrel
            obtain ⟨A2, c2, rfl, hr1, hr2, hr3⟩ := hOk.out.ssis (fun _ => rfl)
            unfold maxLen at hr2
            by_cases hkl : k < ln m
            · obtain ⟨b1, o1, e1, hb1l, hc1⟩ := a3.out (by omega)
              subst e1
              have x0 : World.cell? _ ⟨b1, o1 + k, none⟩ = some (.int .u64 (q m k)) := keepc hbk.out (hc1 k hkl)
              clear hc1
              generalize q m k = x at *
              replace hr3 := Lib.hid hr3
              go_upto_region 15 with fail
              obtain ⟨wi, hwi⟩ : ∃ x : World, x = wr := ⟨_, rfl⟩
              subst hwi
              go_loopw [10] (fun t wx => wi = wx ∧ ∃ j : Nat, j ≤ k ∧ t = .int .i64 j ∧ Hid (∀ r, j ≤ r → r < k → x < F r 0)) (fun t _ => (intOf t).toNat)
              case atStart => exact ⟨rfl, k, by omega, rfl, Lib.hid (fun r h1 h2 => by omega)⟩
              case round =>
                obtain ⟨rfl, j, hj, rfl, hxr⟩ := hrel
                by_cases hgo : ∃ j', j = j' + 1 ∧ x < F j' 0
                · obtain ⟨j', rfl, hx⟩ := hgo
                  obtain ⟨b2, o2, e2, hb2l, hc2⟩ := hr3.out (by omega)
                  subst e2
                  have y0 : World.cell? wi ⟨b2, o2 + j' * 4, none⟩ = some (.int .u64 (F j' 0)) := by simpa [icl] using hc2 j' (by omega) 0 _ rfl
                  have hxr' : Hid (∀ r, j' ≤ r → r < k → x < F r 0) := Lib.hid (fun r h1 h2 => by
                    by_cases e : r = j'
                    · subst e; exact hx
                    · exact hxr.out r (by omega) h2)
                  generalize F j' 0 = fx at *
                  clear hc2
                  go_wp2_with fail
                  go_roundw
                  case rel => exact ⟨trivial, j', by omega, by go_num, hxr'⟩
                  case measure => simp [intOf]
                · have h1 : j = 0 ∨ F (j - 1) 0 ≤ x := by
                    rcases Nat.eq_zero_or_pos j with h | h
                    · exact Or.inl h
                    · right
                      rcases Int.lt_or_le x (F (j - 1) 0) with h2 | h2
                      · exact absurd ⟨j - 1, by omega, h2⟩ hgo
                      · exact h2
                  have hwoi := hbk.out.size
                  clear hgo
                  have hcase : j = 0 ∨ ∃ j', j = j' + 1 ∧ ∃ b2 o2 fx, A2 = some ⟨b2, o2, none⟩ ∧ World.cell? wi ⟨b2, o2 + j' * 4, none⟩ = some (.int .u64 fx) ∧ ¬ x < fx := by
                    rcases h1 with h1 | h1
                    · exact Or.inl h1
                    · rcases Nat.eq_zero_or_pos j with h | h
                      · exact Or.inl h
                      · right
                        obtain ⟨b2, o2, e2, hb2l, hc2⟩ := hr3.out (by omega)
                        refine ⟨j - 1, by omega, b2, o2, F (j - 1) 0, e2, by simpa [icl] using hc2 (j - 1) (by omega) 0 _ rfl, by omega⟩
                  replace h1 := Lib.hid h1
                  obtain ⟨F1, hF1⟩ : ∃ F1 : Nat → Nat → Int, F1 = fun i => if i < k then F i else fun _ => 0 := ⟨_, rfl⟩
                  have hOk1 : Hid (OwnS wi wo.heap.size 34 4 (.slice A2 k c2) k (fun i => icl (F1 i))) := Lib.hid (hOk.out.congr (fun i hi => by rw [hF1]; dsimp only; rw [if_pos hi]))
                  have hFk : Hid (icl (F1 k) = [.int .u64 0, .int .u64 0, .int .u64 0, .int .u8 0]) := Lib.hid (by rw [hF1]; dsimp only; rw [if_neg (by omega)]; rfl)
                  replace hF1 := Lib.hid hF1
                  clear hOk
                  rcases hcase with rfl | ⟨j', rfl, b2, o2, fx, rfl, y0, hfx⟩
                  · go_upto_region 17 with fail
                    go_upto_region 18 with (at_builtin; go_loud (refine wpList_appS rfl (.tmp 56) (.tmp 58) (t0 := 34) (f := fun i => icl (F1 i)) (t := 38) Try.underlying38 info_Itm rfl (by omega) (by omega) rfl rfl rfl (hOk1.out.kept (bel_alloc (Below.refl _ _) _)) rfl (by rw [hFk.out]; exact Blk.new _ _ _) (icl_one _) (by omega) (by simp; omega) ?_); intro v5 w5 ho5 hb5)
                    obtain ⟨g5, cap5, R5, rfl, hg5, hk5, hm5, hB5, hl5, he5⟩ := ho5.row (fun _ => rfl) (by omega)
                    unfold maxLen at hm5
                    have hone : ∀ i, i < k → ∀ u ∈ R5 i, u.oneCell' = true := fun i hi u hu => by rw [he5 i (by omega)] at hu; exact icl_one _ u hu
                    obtain ⟨w6, z6, hcp, hB6, hbl6⟩ := copy_ins (w := w5.drew) (j := 0) (n := k) hB5.drew hl5 hk5 (by omega) hone
                    have hcp' : (Builtin.copy_ #[38, 38] 3 #[.slice (if cap5 = 1 then some ⟨g5, 0, none⟩ else some ⟨g5, 4, none⟩) k (cap5 - 1), .slice (some ⟨g5, 0, none⟩) (k + 1) cap5]).run Try.prog w5.drew = .ok (.int .i64 z6) w6 := by simpa using hcp
                    clear hcp
                    obtain ⟨w7, hst, hO7, hbl7⟩ := ins_store (base := wo.heap.size) (j := 0) (xOf x m) hB6 hl5 he5 hF1.out (by omega) hk5 (by unfold maxLen; omega) hg5
                    have hst' : storeV Try.prog 34 4 w6 (.pointer (some ⟨g5, 0, none⟩)) (.agg #[.int .u64 x, .int .u64 0, .int .u64 0, .int .u8 m]) = .ok () w7 := by simpa [xOf] using hst
                    have hSF7 := Lib.hid (hSF.out.ins (j := 0) (x := xOf x m) (by omega) (Or.inl rfl) (by simpa [xOf] using hxr.out) rfl)
                    have hbk7 := Lib.hid (hbl7 _ _ (hbl6 _ _ ((bel_alloc hbk.out _).trans hb5).drew hg5) hg5)
                    replace hO7 := Lib.hid hO7
                    clear hst hbl6 hbl7 hone hB6 he5 hB5 hl5 hb5 hbk hSF
                    go_region
                    go_wp2_with fail
                    go_roundw
                    case rel => exact ⟨k + 1, _, by omega, by go_num, hSF7, hO7, hbk7⟩
                    case measure => simp [intOf]; omega
                  · go_upto_region 17 with fail
                    go_upto_region 18 with (at_builtin; go_loud (refine wpList_appS rfl (.tmp 56) (.tmp 58) (t0 := 34) (f := fun i => icl (F1 i)) (t := 38) Try.underlying38 info_Itm rfl (by omega) (by omega) rfl rfl rfl (hOk1.out.kept (bel_alloc (Below.refl _ _) _)) rfl (by rw [hFk.out]; exact Blk.new _ _ _) (icl_one _) (by omega) (by simp; omega) ?_); intro v5 w5 ho5 hb5)
                    obtain ⟨g5, cap5, R5, rfl, hg5, hk5, hm5, hB5, hl5, he5⟩ := ho5.row (fun _ => rfl) (by omega)
                    unfold maxLen at hm5
                    have hone : ∀ i, i < k → ∀ u ∈ R5 i, u.oneCell' = true := fun i hi u hu => by rw [he5 i (by omega)] at hu; exact icl_one _ u hu
                    obtain ⟨w6, z6, hcp, hB6, hbl6⟩ := copy_ins (w := w5.drew) (j := j' + 1) (n := k) hB5.drew hl5 hk5 (by omega) hone
                    have hcp' : (Builtin.copy_ #[38, 38] 3 #[.slice (if cap5 = j' + 1 + 1 then some ⟨g5, 0, none⟩ else some ⟨g5, (j' + 1 + 1) * 4, none⟩) (k - (j' + 1)) (cap5 - (j' + 1 + 1)), .slice (some ⟨g5, (j' + 1) * 4, none⟩) (k - j') (cap5 - (j' + 1))]).run Try.prog w5.drew = .ok (.int .i64 z6) w6 := by simpa using hcp
                    clear hcp
                    obtain ⟨w7, hst, hO7, hbl7⟩ := ins_store (base := wo.heap.size) (j := j' + 1) (xOf x m) hB6 hl5 he5 hF1.out (by omega) hk5 (by unfold maxLen; omega) hg5
                    have hst' : storeV Try.prog 34 4 w6 (.pointer (some ⟨g5, (j' + 1) * 4, none⟩)) (.agg #[.int .u64 x, .int .u64 0, .int .u64 0, .int .u8 m]) = .ok () w7 := by simpa [xOf] using hst
                    have hSF7 := Lib.hid (hSF.out.ins (j := j' + 1) (x := xOf x m) (by omega) (by simpa [xOf] using h1.out) (by simpa [xOf] using hxr.out) rfl)
                    have hbk7 := Lib.hid (hbl7 _ _ (hbl6 _ _ ((bel_alloc hbk.out _).trans hb5).drew hg5) hg5)
                    replace hO7 := Lib.hid hO7
                    clear hst hbl6 hbl7 hone hB6 he5 hB5 hl5 hb5 hbk hSF
                    go_region
                    go_wp2_with fail
                    go_roundw
                    case rel => exact ⟨k + 1, _, by omega, by go_num, hSF7, hO7, hbk7⟩
                    case measure => simp [intOf]; omega
            · obtain rfl : k = ln m := by omega
              have hlm : ((List.range (ln m)).map F).length = ln m := by simp
              have hSsi : SsIs wr A2 ((List.range (ln m)).map F).length 4 (fun i => icl (atL ((List.range (ln m)).map F) i)) := by
                rw [hlm]
                exact hr3.congr (fun i hi => by rw [atL_map hi])
              have cO := of_any A2 c2 _ (by rw [hlm]; omega) wr hSsi
              rw [hlm] at cO
              have hSLm : Hid (SortL ((List.range (ln m)).map F) m) := Lib.hid (by
                unfold SortL
                rw [hlm]
                refine ⟨fun i hi => ?_, fun i hi => ?_⟩
                · dsimp only; rw [atL_map (by omega), atL_map (by omega)]; exact hSF.out.1 i hi
                · dsimp only; rw [atL_map hi]; exact hSF.out.2 i hi)
              generalize (List.range (ln m)).map F = l at *
              replace cO := Lib.hid cO
              have hwoi := hbk.out.size
              clear hSsi hr3 hOk hSF
              go_wp2_with fail
              refine cO.out.mono ?_
              rintro e3 w3 ⟨bb, rr, rfl, hsrc, z1, z2, z3, z4, hb3⟩
              have hb23 := bel_eld hbk.out hb3
              have u1 : ∀ {L : Nat → List (Nat → Int)} {l}, updF L m l m = l := if_pos rfl
              have u2 : ∀ {L : Nat → List (Nat → Int)} {l s}, s ≠ m → updF L m l s = L s := fun h => if_neg h
              have hM3 := Lib.hid ((hM.out.congr (L' := updF L m l) (fun s hs => (u2 (by omega)).symm)).next hb23 (b := bb) (r := rr) (by rw [u1]; exact hsrc) (by omega) z2 (by omega) z4 (by omega))
              have hLs3 : Hid (∀ s, s < m + 1 → (updF L m l s).length = ln s ∧ ln s ≤ 100 ∧ SortL (updF L m l s) s) := Lib.hid (fun s hs => by
                by_cases e : s = m
                · subst e; rw [u1]; exact ⟨hlm, by omega, hSLm.out⟩
                · rw [u2 e]; exact hLs.out s (by omega))
              have hO3 : Hid (OwnS w3 0 36 1 (.slice A1 m c1) m (fun s => [srcV (updN bx m bb s)])) := Lib.hid ((hO.out.kept hb23).congr (fun i hi => by unfold updN; rw [if_neg (by omega)]))
              have hnew : Hid (srcV (updN bx m bb m) = .func (.func 22) #[] #[.pointer (some ⟨bb, 0, none⟩)]) := Lib.hid (by unfold updN srcV; rw [if_pos rfl])
              have hbb := Lib.hid (bel_eld hb.out hb23)
              have hob3 : Hid (∀ b, (Value.slice A1 m c1).ownBlock = some b → w.heap.size ≤ b ∧ b < wo.heap.size ∧ ∀ s, s < m + 1 → b ≠ updN bx m bb s ∧ b ≠ updN rb m rr s) := Lib.hid (fun b hb4 => by
                have hlt4 := hO.out.ltB b hb4
                obtain ⟨q1, q2⟩ := hob.out b hb4
                refine ⟨q1, hlt4, fun s hs => ?_⟩
                unfold updN
                by_cases e : s = m
                · rw [if_pos e, if_pos e]; omega
                · rw [if_neg e, if_neg e]; exact q2 s (by omega))
              have hsz3 := hb3.size
              have hsm : Hid (((sumN m ln : Nat) : Int) + (ln m : Nat) = (sumN (m + 1) ln : Nat)) := Lib.hid (by rw [show sumN (m + 1) ln = sumN m ln + ln m from rfl]; omega)
              clear hM hO hob hb hsrc hb3 hbk cO hq3 hLs hSLm u1 u2 hb23
              go_wp2_with (at_builtin; go_loud (refine wpList_appT rfl (.tmp 80) (.tmp 83) (t0 := 36) (f := fun s => [srcV (updN bx m bb s)]) (t := 45) Try.underlying45 info_Fn rfl (by omega) (by omega) rfl rfl rfl (hO3.out.kept (bel_alloc (Below.refl _ _) _)) rfl (by rw [hnew.out]; exact Blk.new _ _ _) (by intro u hu; simp only [List.mem_cons, List.not_mem_nil, or_false] at hu; subst hu; rfl) (by omega) ?_); intro v5 w5 ho5 ht5 hob5)
              go_roundw
              case rel =>
                refine ⟨m + 1, updN bx m bb, updN rb m rr, updF L m l, by omega, by go_num, by rw [hsm.out], hLs3, Lib.hid ((hM3.out.kept (bel_alloc (Below.refl _ _) _)).tch ht5 (fun s hs => ⟨fun e => ((hob3.out _ e).2.2 s hs).1 rfl, fun e => ((hob3.out _ e).2.2 s hs).2 rfl⟩)), Lib.hid ho5, Lib.hid (fun b hb6 => ?_), Lib.hid (((tch_of (bel_alloc hbb.out _) (fun _ => False)).trans2 ht5 (fun k hk e => by have := (hob3.out _ e).1; omega)).below (Nat.le_refl _) (fun _ _ => id))⟩
                rcases hob5 with e | e
                · rw [e] at hb6
                  obtain ⟨q1, q2, q3⟩ := hob3.out b hb6
                  exact ⟨q1, q3⟩
                · rw [e] at hb6
                  simp at hb6
                  refine ⟨by omega, fun s hs => ?_⟩
                  have := hM3.out.lt s hs
                  omega
              case measure => simp [intOf]; omega
      · obtain rfl : n = m := by omega
        have hok : (ofSys n bx rb L).Ok := ofSys_ok (by omega) hM.out.ne
        have cN := new_any (ofSys n bx rb L) false A1 c1 wr hok hq3 hM.out.st
        have hT : ∀ k, (ofSys n bx rb L).T k → w.heap.size ≤ k ∧ k < wr.heap.size := fun k ⟨s, hs, e⟩ => by
          have := hM.out.lt s hs
          rcases e with e | e <;> omega
        replace hT := Lib.hid hT
        replace hok := Lib.hid hok
        replace cN := Lib.hid cN
        clear hq3
        go_wp2_with fail
        refine cN.out.mono ?_
        rintro e2 w2 ⟨B, rfl, hMA, hB, hb2⟩
        have hBT : ¬ (ofSys n bx rb L).T B := fun h => by have := (hT.out _ h).2; omega
        have cM := Lib.hid (most_at (ofSys n bx rb L) B false (fun _ => 0) _ w2 3000 hok.out hBT hMA (by omega) (by omega))
        have hB2 := Lib.hid (bel_eld hb.out hb2)
        have hsz2 := hb2.size
        clear hMA cN hM hO hob
        go_wp2_with fail
        refine cM.out.mono ?_
        rintro e3 w3 ⟨R, hd, v, hr, hn3, rfl, hLI, _, ht3⟩
        obtain ⟨A3, c3, rfl, k1, k2⟩ := hLI.form
        have hlenS : ∀ s, s < n → (ofSys n bx rb L).len s = ln s := fun s hs => (hLs.out s hs).1
        have hle := hr.le
        have hK : (ofSys n bx rb L).K = n := rfl
        rw [hK] at hle hn3
        have hsum2 : sumN n hd ≤ n * 100 := sumN_const (fun s hs => by
          have h1 := hle.1 s hs
          rw [hlenS s hs] at h1
          have := (hLs.out s hs).2.1
          omega)
        have hD : ∀ s, s < n → hd s = ln s := fun s hs => by
          rcases hn3 with h | ⟨_, h⟩
          · omega
          · have h1 := h s hs
            have h2 := hle.1 s hs
            rw [hlenS s hs] at h1 h2
            omega
        have hRl : sumN n ln = R.length := by
          rw [← hle.2]
          apply Nat.le_antisymm
          · exact sumN_le (fun s hs => by rw [hD s hs]; exact Nat.le_refl _)
          · exact sumN_le (fun s hs => by rw [hD s hs]; exact Nat.le_refl _)
        have hR2 : R.length ≤ 2000 := by omega
        rw [hRl]
        have hB3 := Lib.hid (hB2.out.trans (ht3.below hB2.out.size (fun k hk h => by
          rcases h with h | h | h
          · have := hT.out _ h; omega
          · omega
          · omega)))
        have hsz3 := ht3.size
        have hob3 : Hid (∀ k, (Value.slice A3 R.length c3).ownBlock = some k → k < w3.heap.size) := Lib.hid hLI.lt
        have hSL : Hid (∀ s, s < n → SortL (L s) s) := Lib.hid (fun s hs => (hLs.out s hs).2.2)
        have hll : Hid (∀ s, s < n → (L s).length ≤ 100) := Lib.hid (fun s hs => by have := hLs.out s hs; omega)
        have hmk : ∀ W, (Instr.makeSlice 49 (.int .i64 20) (.int .i64 20)).run Try.prog W = .ok (.slice (some ⟨W.heap.size, 0, none⟩) 20 20) (W.alloc (.cells (Array.ofFn (fun s : Fin 20 => (.int .i64 ((fun _ => 0 : Nat → Nat) s) : Value))) 3)) := fun W => run_mkI W 20 (by omega)
        unfold maxLen at k2
        replace hLI := Lib.hid hLI
        replace hr := Lib.hid hr
        replace hD := Lib.hid hD
        clear ht3 cM hLs hlenS hle hn3 hsum2 hRl hsum hB2
        go_upto_region 29 with fail
        refine abs_wp (fun X => Below w3.heap.size w3 X ∧ NRow X w3.heap.size 20 (fun _ => 0)) ⟨bel_alloc (Below.refl _ _) _, nrow0s (Blk.new _ _ _)⟩ ?_
        rintro X ⟨hbX, hNX⟩
        have hLX := Lib.hid (hLI.out.kept hbX)
        have hBX := Lib.hid (bel_eld hB3.out hbX)
        replace hNX := Lib.hid hNX
        have hszX := hbX.size
        clear hmk hbX hLI hB3
        go_upto_region 30 with fail
        go_loopw [95] (fun i wr => ∃ (g : Nat) (hk : Nat → Nat), g ≤ R.length ∧ i = .int .i64 g ∧ Hid (Runs (ofSys n bx rb L) false (fun _ => 0) (R.take g) hk) ∧ Hid (NRow wr w3.heap.size 20 hk) ∧ Hid (LI 34 wr (.slice A3 R.length c3) R) ∧ Hid (Below w.heap.size w wr)) (fun i _ => R.length - (intOf i).toNat)
        case atStart => exact ⟨0, fun _ => 0, by omega, rfl, Lib.hid (by simpa using Runs.nil), hNX, hLX, hBX⟩
        case round =>
          clear hNX hLX hBX
          obtain ⟨g, hk, hg, rfl, hrg, hN, hLI, hBg⟩ := hrel
          by_cases hgl : g < R.length
          · obtain ⟨b, hbn, _, hxe, hx3, hkb, hr2⟩ := runs_side hSL.out hr.out hrg.out hgl
            have hkl := hll.out b hbn
            obtain ⟨b3, o3, e3, hb3l, x0, x1, x2, x3⟩ := hLI.out.item hgl
            subst e3
            rw [hx3] at x3
            have hord : g = 0 ∨ ∃ g' y, g = g' + 1 ∧ y = atL R g' ∧ (y 0 < atL R g 0 ∨ (y 0 = atL R g 0 ∧ y 3 ≤ b)) := by
              rcases Nat.eq_zero_or_pos g with h | h
              · exact Or.inl h
              · obtain ⟨g', rfl⟩ : ∃ g', g = g' + 1 := ⟨g - 1, by omega⟩
                have := runs_order hSL.out hr.out hgl
                rw [hx3] at this
                exact Or.inr ⟨g', _, rfl, rfl, this⟩
            obtain ⟨x, hx⟩ : ∃ x, x = atL R g := ⟨_, rfl⟩
            rw [← hx] at x0 x1 x2 hord
            have nc := hN.out.cell (show b < 20 by omega)
            have nf := hN.out.frozen b
            have nl := hN.out.lt
            replace hr2 := Lib.hid hr2
            clear hxe hx3 hx
            have hzb : Blk (World.alloc wr (.cells #[.int .u64 0, .int .u64 0, .int .u64 0, .int .u8 0] 34)) wr.heap.size 34 (rowC 1 (fun _ => [.int .u64 0, .int .u64 0, .int .u64 0, .int .u8 0])).toArray := Blk.new _ _ _
            obtain ⟨w8, hst, hQ8, hb8⟩ : ∃ w8, storeV Try.prog 34 4 (World.alloc wr (.cells #[.int .u64 0, .int .u64 0, .int .u64 0, .int .u8 0] 34)) (.pointer (some ⟨wr.heap.size, 0, none⟩)) (.agg #[.int .u64 (x 0), .int .u64 (x 1), .int .u64 (x 2), .int .u8 b]) = .ok () w8 ∧ Blk w8 wr.heap.size 34 #[.int .u64 (x 0), .int .u64 (x 1), .int .u64 (x 2), .int .u8 b] ∧ Below wr.heap.size wr w8 :=
              ⟨_, store_at (P := Try.prog) (ty := 34) hzb (fun _ => rfl) (i := 0) (by omega) (l := [.int .u64 (x 0), .int .u64 (x 1), .int .u64 (x 2), .int .u8 b]) rfl (by intro u hu; simp only [List.mem_cons, List.not_mem_nil, or_false] at hu; rcases hu with rfl | rfl | rfl | rfl <;> rfl), setRow_heap _ _ _ _ _ _ hzb, bel_setRw (bel_alloc (Below.refl _ _) _) (Nat.le_refl _) _⟩
            have q0 : w8.cell? ⟨wr.heap.size, 0, none⟩ = some (.int .u64 (x 0)) := hQ8.cell 0
            have q3 : w8.cell? ⟨wr.heap.size, 3, none⟩ = some (.int .u8 b) := hQ8.cell 3
            have ql := hQ8.lt
            have nc8 := keepc hb8 nc
            have nf8 := (hN.out.kept hb8).frozen b
            have hsz8 := hb8.size
            have hL8 := Lib.hid (hLI.out.kept hb8)
            have hN8 := Lib.hid (hN.out.kept hb8)
            have hB8 := Lib.hid (bel_eld hBg.out hb8)
            have hfin : Hid (∀ dr, NRow ((Grow w8 dr).setCell ⟨w3.heap.size, b, none⟩ (.int .i64 ((hk b : Int) + 1))) w3.heap.size 20 (updN hk b (hk b + 1)) ∧ LI 34 ((Grow w8 dr).setCell ⟨w3.heap.size, b, none⟩ (.int .i64 ((hk b : Int) + 1))) (.slice (some ⟨b3, o3, none⟩) R.length c3) R ∧ Below w.heap.size w ((Grow w8 dr).setCell ⟨w3.heap.size, b, none⟩ (.int .i64 ((hk b : Int) + 1)))) := Lib.hid (fun dr => by
              have hg := grow_below w8 dr
              refine ⟨?_, (hL8.out.kept hg).tch ((Tch.refl (fun k => k = w3.heap.size) _).set (p := ⟨w3.heap.size, b, none⟩) (fun _ => rfl) _) (fun k hk2 e => by have := hob3.out k hk2; omega), (bel_eld hB8.out hg).trans (((Tch.refl (fun k => k = w3.heap.size) _).set (p := ⟨w3.heap.size, b, none⟩) (fun _ => rfl) _).below (by have := hg.size; have := hB8.out.size; omega) (fun k hk2 e => by omega))⟩
              have := (hN8.out.kept hg).set b (hk b + 1)
              rw [show ((hk b + 1 : Nat) : Int) = (hk b : Int) + 1 by omega] at this
              exact this)
            have hcc : Hid (∀ dr, World.cell? (Grow w8 dr) ⟨wr.heap.size, 3, none⟩ = some (.int .u8 b) ∧ World.cell? (Grow w8 dr) ⟨w3.heap.size, b, none⟩ = some (.int .i64 (hk b)) ∧ World.frozen? (Grow w8 dr) ⟨w3.heap.size, b, none⟩ = false ∧ w3.heap.size < (Grow w8 dr).heap.size) := Lib.hid (fun dr => by
              have hg := grow_below w8 dr
              have h2 := hN8.out.kept hg
              exact ⟨keepc hg q3, h2.cell (by omega), h2.frozen b, h2.lt⟩)
            clear hzb hQ8 hb8 nc nf
            go_upto_region 32 with fail
            have d5 : decide ((20 : Int) ≤ (b : Int)) = false := decide_eq_false (by omega)
            generalize x 0 = xs at *
            rcases hord with rfl | ⟨g', y, rfl, hy, hyx⟩
            · first | (with_reducible refine rgrow2 (by kernel_rfl) (by kernel_rfl) ?_) | (refine rgrow (by kernel_rfl) (by kernel_rfl) ?_)
              repeat (go_big_quiet_step ((fail)))
              refine wpQuiet_nil ?_
              intro dr
              obtain ⟨z1, z2, z3, z4⟩ := hcc.out dr
              obtain ⟨f1, f2, f3⟩ := hfin.out dr
              replace f1 := Lib.hid f1
              replace f2 := Lib.hid f2
              replace f3 := Lib.hid f3
              go_wp2_with fail
              go_roundw
              case rel => exact ⟨_, updN hk b (hk b + 1), by omega, by go_num, hr2, f1, f2, f3⟩
              case measure => simp [intOf]; omega
            · obtain ⟨b4, o4, e4, hb4l, y0, _, _, y3⟩ := hL8.out.item (i := g') (by omega)
              cases e4
              rw [← hy] at y0 y3
              have d1 : decide ((0 : Int) < (g' : Int) + 1) = true := decide_eq_true (by omega)
              generalize y 0 = ys at *
              generalize y 3 = yt at *
              rcases hyx with hyx | ⟨rfl, hyt⟩
              · have d2 : decide (xs < ys) = false := decide_eq_false (by omega)
                have d3 : decide (ys = xs) = false := decide_eq_false (by omega)
                have d3' : (ys == xs) = false := beq_false_of_ne (by omega)
                first | (with_reducible refine rgrow2 (by kernel_rfl) (by kernel_rfl) ?_) | (refine rgrow (by kernel_rfl) (by kernel_rfl) ?_)
                repeat (go_big_quiet_step ((fail)))
                refine wpQuiet_nil ?_
                intro dr
                obtain ⟨z1, z2, z3, z4⟩ := hcc.out dr
                obtain ⟨f1, f2, f3⟩ := hfin.out dr
                replace f1 := Lib.hid f1
                replace f2 := Lib.hid f2
                replace f3 := Lib.hid f3
                go_wp2_with fail
                go_roundw
                case rel => exact ⟨_, updN hk b (hk b + 1), by omega, by go_num, hr2, f1, f2, f3⟩
                case measure => simp [intOf]; omega
              · have d2 : decide (ys < ys) = false := decide_eq_false (by omega)
                have d3 : decide (ys = ys) = true := decide_eq_true rfl
                have d4 : decide ((b : Int) < yt) = false := decide_eq_false (by omega)
                first | (with_reducible refine rgrow2 (by kernel_rfl) (by kernel_rfl) ?_) | (refine rgrow (by kernel_rfl) (by kernel_rfl) ?_)
                repeat (go_big_quiet_step ((fail)))
                refine wpQuiet_nil ?_
                intro dr
                obtain ⟨z1, z2, z3, z4⟩ := hcc.out dr
                obtain ⟨f1, f2, f3⟩ := hfin.out dr
                replace f1 := Lib.hid f1
                replace f2 := Lib.hid f2
                replace f3 := Lib.hid f3
                go_wp2_with fail
                go_roundw
                case rel => exact ⟨_, updN hk b (hk b + 1), by omega, by go_num, hr2, f1, f2, f3⟩
                case measure => simp [intOf]; omega
          · obtain rfl : g = R.length := by omega
            have hrg2 := hrg.out
            rw [List.take_length] at hrg2
            obtain ⟨_, rfl⟩ := hr.out.det hrg2 rfl
            have hLg := Lib.hid (hL.out.kept hBg.out)
            have nl := hN.out.lt
            go_wp2_with fail
            go_loopw [150] (fun i wx => wr = wx ∧ ∃ j : Nat, j ≤ n ∧ i = .int .i64 j) (fun i _ => n - (intOf i).toNat)
            case atStart => exact ⟨rfl, 0, by omega, rfl⟩
            case round =>
              obtain ⟨rfl, j, hj, rfl⟩ := hrel
              by_cases hjn : j < n
              · obtain ⟨b5, o5, rfl, hb5l, hc5⟩ := hLg.out (by omega)
                obtain ⟨Aj, cj, a0, a1, a2, a3⟩ := hc5 j hjn
                have nc := hN.out.cell (show j < 20 by omega)
                rw [hD.out j hjn] at nc
                unfold maxLen at a2
                clear hc5 a3
                go_wp2_with fail
                go_roundw
                case rel => exact ⟨trivial, j + 1, by omega, by go_num⟩
                case measure => simp [intOf]; omega
              · obtain rfl : n = j := by omega
                go_wp2_with fail
                refine (fixed_any _).mono ?_
                rintro e5 w5 ⟨rfl, hb5⟩
                go_wp2_with fail
                go_ret
                exact ⟨rfl, bel_eld hBg.out hb5⟩
end
end Go.Proofs.Ytecaegjonhimmaa
