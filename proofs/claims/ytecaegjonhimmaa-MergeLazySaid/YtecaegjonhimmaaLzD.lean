/-
  MergeLazy, walked.
-/
import Derived.Test.YtecaegjonhimmaaLzC
namespace Go.Proofs.Ytecaegjonhimmaa
set_option linter.unusedVariables false
set_option linter.unusedSimpArgs false
open Go.RowKit Go.Shelf

theorem nrow0 {w : World} {g n : Nat} (h : Blk w g 3 (Array.ofFn (fun _ : Fin n => (.int .i64 0 : Value)))) : NRow w g n (fun _ => 0) := h
set_option maxRecDepth 8000 in
set_option maxHeartbeats 8000000 in
theorem mergeLazy_any (dn : Bool) (A : Option Addr) (n c : Nat) (L : Nat → List (Nat → Int)) (hn : n ≤ c) (hc : c ≤ maxLen) (k : Int) (hk1 : 0 ≤ k) (hk2 : k < 256) (w : World) (hL : LsIs w A n L) :
    Calls Try.prog 6 #[.bool dn, .slice A n c, .int .u8 k] w fun r w' => r = .returned (.bool true) ∧ Below w.heap.size w w' := by
  have HG := Lib.hid (great_any A n c L hn hc w hL)
  replace hL := Lib.hid hL
  go_enter Try.func6, Try.ntmps6
  go_wp2_with fail
  refine HG.out.mono ?_
  rintro e1 w1 ⟨b, rfl, hb, hB1⟩
  replace hB1 := Lib.hid hB1
  cases b with
  | true =>
    go_wp2_with fail
    refine (fixed_any w1).mono ?_
    rintro e2 w2 ⟨rfl, hB2⟩
    go_wp2_with fail
    go_ret
    exact ⟨rfl, bel_eld hB1.out hB2⟩
  | false =>
    obtain ⟨h20, h100⟩ := hb rfl
    have hL1 := Lib.hid (hL.out.kept hB1.out)
    replace h100 := Lib.hid h100
    clear hb HG
    have hmk := fun W => run_mkI W n (by omega)
    unfold maxLen at hc
    go_upto_region 3 with fail
    go_cut [7, 8] (fun s7 s8 wx => ∃ tb tk hb, s7 = .pointer (some ⟨tb, 0, none⟩) ∧ s8 = .slice (some ⟨hb, 0, none⟩) n n ∧ TkIs wx tb tk n (fun _ => 0) ∧ NRow wx hb n (fun _ => 0) ∧ (tb ≠ tk ∧ tb ≠ hb ∧ tk ≠ hb) ∧ (w1.heap.size ≤ tb ∧ w1.heap.size ≤ tk ∧ w1.heap.size ≤ hb) ∧ Below w1.heap.size w1 wx)
    case first =>
      go_region
      all_goals go_wp2_with fail
      all_goals
        go_meet
        first
          | (refine ⟨_, w1.heap.size, _, rfl, rfl, ⟨Blk.drew ?_, nrow0 (Blk.drew ?_)⟩, nrow0 (Blk.drew ?_), ⟨by omega, by omega, by omega⟩, ⟨by omega, by omega, by omega⟩, ?_⟩
             · (repeat (first | with_reducible assumption | (with_reducible refine Blk.new' ?_; first | with_reducible rfl | (simp; done)) | with_reducible refine Blk.alloc ?_ _ | with_reducible refine Blk.grow ?_ _ | with_reducible refine Blk.drew ?_ | with_reducible refine Blk.drewN ?_ _ | (with_reducible refine Blk.far ?_ (by first | (dsimp only; omega) | (simp; omega)) _) | (with_reducible apply Blk.two) | (with_reducible refine Blk.set' ?_ _ _ ?_) | (with_reducible rfl) | rfl))
             · (repeat (first | with_reducible assumption | (with_reducible refine Blk.new' ?_; first | with_reducible rfl | (simp; done)) | with_reducible refine Blk.alloc ?_ _ | with_reducible refine Blk.grow ?_ _ | with_reducible refine Blk.drew ?_ | with_reducible refine Blk.drewN ?_ _ | (with_reducible refine Blk.far ?_ (by first | (dsimp only; omega) | (simp; omega)) _) | (with_reducible apply Blk.two) | (with_reducible refine Blk.set' ?_ _ _ ?_) | (with_reducible rfl) | rfl))
             · (repeat (first | with_reducible assumption | (with_reducible refine Blk.new' ?_; first | with_reducible rfl | (simp; done)) | with_reducible refine Blk.alloc ?_ _ | with_reducible refine Blk.grow ?_ _ | with_reducible refine Blk.drew ?_ | with_reducible refine Blk.drewN ?_ _ | (with_reducible refine Blk.far ?_ (by first | (dsimp only; omega) | (simp; omega)) _) | (with_reducible apply Blk.two) | (with_reducible refine Blk.set' ?_ _ _ ?_) | (with_reducible rfl) | rfl))
             · (repeat (first | exact Below.refl _ _ | assumption | refine below_drewN ?_ _ | refine bel_grow ?_ _ | refine Below.drew ?_ | refine bel_alloc ?_ _ | refine bel_set ?_ (by first | exact Nat.le_refl _ | (simp; done) | (simp; omega) | omega) _ | refine bel_trans ?_ (by assumption))))
          | (refine ⟨_, w1.heap.size + 1, _, rfl, rfl, ⟨Blk.drew ?_, nrow0 (Blk.drew ?_)⟩, nrow0 (Blk.drew ?_), ⟨by omega, by omega, by omega⟩, ⟨by omega, by omega, by omega⟩, ?_⟩
             · (repeat (first | with_reducible assumption | (with_reducible refine Blk.new' ?_; first | with_reducible rfl | (simp; done)) | with_reducible refine Blk.alloc ?_ _ | with_reducible refine Blk.grow ?_ _ | with_reducible refine Blk.drew ?_ | with_reducible refine Blk.drewN ?_ _ | (with_reducible refine Blk.far ?_ (by first | (dsimp only; omega) | (simp; omega)) _) | (with_reducible apply Blk.two) | (with_reducible refine Blk.set' ?_ _ _ ?_) | (with_reducible rfl) | rfl))
             · (repeat (first | with_reducible assumption | (with_reducible refine Blk.new' ?_; first | with_reducible rfl | (simp; done)) | with_reducible refine Blk.alloc ?_ _ | with_reducible refine Blk.grow ?_ _ | with_reducible refine Blk.drew ?_ | with_reducible refine Blk.drewN ?_ _ | (with_reducible refine Blk.far ?_ (by first | (dsimp only; omega) | (simp; omega)) _) | (with_reducible apply Blk.two) | (with_reducible refine Blk.set' ?_ _ _ ?_) | (with_reducible rfl) | rfl))
             · (repeat (first | with_reducible assumption | (with_reducible refine Blk.new' ?_; first | with_reducible rfl | (simp; done)) | with_reducible refine Blk.alloc ?_ _ | with_reducible refine Blk.grow ?_ _ | with_reducible refine Blk.drew ?_ | with_reducible refine Blk.drewN ?_ _ | (with_reducible refine Blk.far ?_ (by first | (dsimp only; omega) | (simp; omega)) _) | (with_reducible apply Blk.two) | (with_reducible refine Blk.set' ?_ _ _ ?_) | (with_reducible rfl) | rfl))
             · (repeat (first | exact Below.refl _ _ | assumption | refine below_drewN ?_ _ | refine bel_grow ?_ _ | refine Below.drew ?_ | refine bel_alloc ?_ _ | refine bel_set ?_ (by first | exact Nat.le_refl _ | (simp; done) | (simp; omega) | omega) _ | refine bel_trans ?_ (by assumption))))
          | (refine ⟨_, w1.heap.size + 1 + 1, _, rfl, rfl, ⟨Blk.drew ?_, nrow0 (Blk.drew ?_)⟩, nrow0 (Blk.drew ?_), ⟨by omega, by omega, by omega⟩, ⟨by omega, by omega, by omega⟩, ?_⟩
             · (repeat (first | with_reducible assumption | (with_reducible refine Blk.new' ?_; first | with_reducible rfl | (simp; done)) | with_reducible refine Blk.alloc ?_ _ | with_reducible refine Blk.grow ?_ _ | with_reducible refine Blk.drew ?_ | with_reducible refine Blk.drewN ?_ _ | (with_reducible refine Blk.far ?_ (by first | (dsimp only; omega) | (simp; omega)) _) | (with_reducible apply Blk.two) | (with_reducible refine Blk.set' ?_ _ _ ?_) | (with_reducible rfl) | rfl))
             · (repeat (first | with_reducible assumption | (with_reducible refine Blk.new' ?_; first | with_reducible rfl | (simp; done)) | with_reducible refine Blk.alloc ?_ _ | with_reducible refine Blk.grow ?_ _ | with_reducible refine Blk.drew ?_ | with_reducible refine Blk.drewN ?_ _ | (with_reducible refine Blk.far ?_ (by first | (dsimp only; omega) | (simp; omega)) _) | (with_reducible apply Blk.two) | (with_reducible refine Blk.set' ?_ _ _ ?_) | (with_reducible rfl) | rfl))
             · (repeat (first | with_reducible assumption | (with_reducible refine Blk.new' ?_; first | with_reducible rfl | (simp; done)) | with_reducible refine Blk.alloc ?_ _ | with_reducible refine Blk.grow ?_ _ | with_reducible refine Blk.drew ?_ | with_reducible refine Blk.drewN ?_ _ | (with_reducible refine Blk.far ?_ (by first | (dsimp only; omega) | (simp; omega)) _) | (with_reducible apply Blk.two) | (with_reducible refine Blk.set' ?_ _ _ ?_) | (with_reducible rfl) | rfl))
             · (repeat (first | exact Below.refl _ _ | assumption | refine below_drewN ?_ _ | refine bel_grow ?_ _ | refine Below.drew ?_ | refine bel_alloc ?_ _ | refine bel_set ?_ (by first | exact Nat.le_refl _ | (simp; done) | (simp; omega) | omega) _ | refine bel_trans ?_ (by assumption))))
    case rest =>
      obtain ⟨tb, tk, hb, rfl, rfl, hTk, hHd, hne, hge, hBX⟩ := hcut
      have hszX := hBX.size
      have tbl := hTk.box.lt
      have tkl := hTk.row.lt
      have hbl := hHd.lt
      have hLX := Lib.hid (hL1.out.kept hBX)
      have hBX' := Lib.hid (bel_eld hB1.out hBX)
      replace hTk := Lib.hid hTk
      replace hHd := Lib.hid hHd
      have hsz1 := hB1.out.size
      clear hmk hBX hL1 hL
      have h0 : ∃ nb ib : Nat → Nat, Hid (OwnS wc 0 36 1 (.slice none 0 0) 0 (fun s => [lzV tb (nb s) (ib s)])) := ⟨fun _ => 0, fun _ => 0, OwnS.nil _ _ _ _ _⟩
      replace h0 := Lib.hid h0
      go_wp2_with fail
      go_loopw [9, 29] (fun v i wr => ∃ (m : Nat) (nb ib bx rb : Nat → Nat), m ≤ n ∧ i = .int .i64 m ∧ Hid (LMade wr wc.heap.size m nb ib bx rb L) ∧ Hid (OwnS wr 0 36 1 v m (fun s => [lzV tb (nb s) (ib s)])) ∧ Hid (∀ b, v.ownBlock = some b → wc.heap.size ≤ b ∧ ∀ s, s < m → b ≠ nb s ∧ b ≠ ib s ∧ b ≠ bx s ∧ b ≠ rb s) ∧ Hid (Below wc.heap.size wc wr)) (fun _ i _ => n - (intOf i).toNat)
      case atStart =>
        obtain ⟨nb, ib, h2⟩ := h0.out
        exact ⟨0, nb, ib, fun _ => 0, fun _ => 0, by omega, rfl, LMade.nil, h2, fun b hb => by simp [Value.ownBlock] at hb, Below.refl _ _⟩
      case round =>
        clear h0
        obtain ⟨m, nb, ib, bx, rb, hm, rfl, hM, hO, hob, hbb⟩ := hrel
        have hsz := hbb.out.size
        obtain ⟨A1, c1, rfl, hq1, hq2, hq3⟩ := hO.out.ssis (fun _ => rfl)
        unfold maxLen at hq2
        by_cases hlt : m < n
        · obtain ⟨b, o, rfl, hbl2, hcs⟩ := (hLX.out.kept hbb.out) (by omega)
          obtain ⟨Ai, ci, a0, a1, a2, a3⟩ := hcs m hlt
          have hlm := h100.out m hlt
          have cI := fun W (hW : Below wr.heap.size wr W) => items_any Ai ci (L m) a1 a2 (by omega) W (a3.below hW)
          replace cI := Lib.hid cI
          unfold maxLen at a2
          replace hq3 := Lib.hid hq3
          clear hcs a3
          go_wp2_with fail
          refine (cI.out _ (bel_alloc (Below.refl _ _) _)).mono ?_
          rintro e2 w2 ⟨v2, rfl, ho2, hb2⟩
          obtain ⟨A2, c2, rfl, _, _, hs2⟩ := ho2.ssis (fun _ => rfl)
          have cO := of_any A2 c2 (L m) (by omega) w2 hs2
          replace cO := Lib.hid cO
          have gi2 := Lib.hid ((Blk.new wr 3 #[.int .i64 m]).kept hb2)
          have hb2' := Lib.hid (bel_eld (bel_alloc (Below.refl wr.heap.size wr) _) hb2)
          have hz2 := hb2.size
          simp at hz2
          clear ho2 hs2 cI hb2
          go_wp2_with fail
          refine cO.out.mono ?_
          rintro e3 w3 ⟨bb, rr, rfl, hsrc, z1, z2, z3, z4, hb3⟩
          go_upto_region 9 with fail
          refine abs_wp (fun Y => Below w3.heap.size w3 Y ∧ Blk Y w3.heap.size 36 #[srcV bb] ∧ w3.heap.size < Y.heap.size) ⟨bel_alloc (Below.refl _ _) _, Blk.new _ _ _, by simp⟩ ?_
          rintro Y ⟨hbY, gY, hYl⟩
          have hb3Y := bel_eld hb3 hbY
          have hb2Y := bel_eld hb2'.out hb3Y
          have hsz3 := hb3.size
          have hM3 := Lib.hid (hM.out.next (n1 := w3.heap.size) (i1 := wr.heap.size) (b1 := bb) (r1 := rr) hb2Y ⟨gY, gi2.out.kept hb3Y, hsrc.kept hbY, by omega⟩ (by omega) (by omega) (by omega) hsz)
          have hO3 : Hid (OwnS Y 0 36 1 (.slice A1 m c1) m (fun s => [lzV tb (updN nb m w3.heap.size s) (updN ib m wr.heap.size s)])) := Lib.hid ((hO.out.kept hb2Y).congr (fun i hi => by unfold updN; rw [if_neg (by omega), if_neg (by omega)]))
          have hnew : Hid (lzV tb (updN nb m w3.heap.size m) (updN ib m wr.heap.size m) = .func (.func 17) #[] #[.pointer (some ⟨w3.heap.size, 0, none⟩), .pointer (some ⟨tb, 0, none⟩), .pointer (some ⟨wr.heap.size, 0, none⟩)]) := Lib.hid (by unfold updN lzV; rw [if_pos rfl, if_pos rfl])
          have hbbY := Lib.hid (bel_eld hbb.out hb2Y)
          have hob3 : Hid (∀ b, (Value.slice A1 m c1).ownBlock = some b → wc.heap.size ≤ b ∧ b < wr.heap.size ∧ ∀ s, s < m + 1 → b ≠ updN nb m w3.heap.size s ∧ b ≠ updN ib m wr.heap.size s ∧ b ≠ updN bx m bb s ∧ b ≠ updN rb m rr s) := Lib.hid (fun b hb4 => by
            have hlt4 := hO.out.ltB b hb4
            obtain ⟨q1, q2⟩ := hob.out b hb4
            refine ⟨q1, hlt4, fun s hs => ?_⟩
            unfold updN
            by_cases e : s = m
            · rw [if_pos e, if_pos e, if_pos e, if_pos e]; omega
            · rw [if_neg e, if_neg e, if_neg e, if_neg e]; exact q2 s (by omega))
          have hszY := hbY.size
          clear hM hO hob hbb hsrc hb3 hb2' cO hq3 gi2 hb3Y hb2Y gY
          replace hbY := Lib.hid hbY
          go_wp2_with (at_builtin; go_loud (refine wpList_appT rfl (.tmp 37) (.tmp 39) (t0 := 36) (f := fun s => [lzV tb (updN nb m w3.heap.size s) (updN ib m wr.heap.size s)]) (t := 45) Try.underlying45 info_Fn rfl (by omega) (by omega) rfl rfl rfl (hO3.out.kept (bel_alloc (Below.refl _ _) _)) rfl (by rw [hnew.out]; exact Blk.new _ _ _) (by intro u hu; simp only [List.mem_cons, List.not_mem_nil, or_false] at hu; subst hu; rfl) (by omega) ?_); intro v5 w5 ho5 ht5 hob5)
          go_roundw
          case rel =>
            refine ⟨m + 1, updN nb m w3.heap.size, updN ib m wr.heap.size, updN bx m bb, updN rb m rr, by omega, by go_num, Lib.hid ((hM3.out.kept (bel_alloc (Below.refl _ _) _)).tch ht5 (fun s hs => ⟨fun e => ((hob3.out _ e).2.2 s hs).1 rfl, fun e => ((hob3.out _ e).2.2 s hs).2.1 rfl, fun e => ((hob3.out _ e).2.2 s hs).2.2.1 rfl, fun e => ((hob3.out _ e).2.2 s hs).2.2.2 rfl⟩)), Lib.hid ho5, Lib.hid (fun b hb6 => ?_), Lib.hid (((tch_of (bel_alloc hbbY.out _) (fun _ => False)).trans2 ht5 (fun k hk e => by have := (hob3.out _ e).1; omega)).below (Nat.le_refl _) (fun _ _ => id))⟩
            rcases hob5 with e | e
            · rw [e] at hb6
              obtain ⟨q1, q2, q3⟩ := hob3.out b hb6
              exact ⟨q1, q3⟩
            · rw [e] at hb6
              simp at hb6
              refine ⟨by omega, fun s hs => ?_⟩
              have := hM3.out.lt s hs
              omega
          case measure => simp [intOf]; omega
        · obtain rfl : m = n := by omega
          obtain ⟨S, hS⟩ : ∃ S, S = lzSys m tb tk nb ib bx rb L := ⟨_, rfl⟩
          have hSt : S.St wr (fun _ => 0) := by rw [hS]; exact hM.out.st ⟨hTk.out.box.kept hbb.out, hTk.out.row.kept hbb.out⟩
          have hok : S.Ok := by rw [hS]; exact lzSys_ok h20 h100.out (hM.out.apart tbl tkl hne.1)
          have hT : ∀ k, S.T k → w1.heap.size ≤ k ∧ k < wr.heap.size ∧ k ≠ hb := fun k hk => by
            rw [hS] at hk
            rcases hk with e | e | ⟨s, hs, e⟩
            · omega
            · omega
            · have := hM.out.lt s hs
              omega
          have hSK : S.K = m := by rw [hS]; rfl
          have cN := new_any S dn A1 c1 wr hok (by rw [hS]; exact hq3) hSt
          rw [hSK] at cN
          replace hS := Lib.hid hS
          replace hT := Lib.hid hT
          replace hok := Lib.hid hok
          replace hSt := Lib.hid hSt
          replace cN := Lib.hid cN
          have hHd2 := Lib.hid (hHd.out.kept hbb.out)
          have hBr := Lib.hid (bel_eld hBX'.out hbb.out)
          clear hq3 hM hO hob hTk hHd hBX'
          go_wp2_with fail
          refine cN.out.mono ?_
          rintro e2 w2 ⟨B, rfl, hMA, hB, hb2⟩
          replace hMA := Lib.hid hMA
          have hHd3 := Lib.hid (hHd2.out.kept hb2)
          have hB2 := Lib.hid (bel_eld hBr.out hb2)
          have hSt2 := Lib.hid (hok.out.stab _ _ _ hSt.out (tch_of hb2 _))
          clear hHd2 hSt cN hBr
          have kt : TkIs w2 tb tk m (fun _ => 0) := by
            have := hSt2.out
            rw [hS.out] at this
            exact this.1
          have kb := kt.box.cell 0
          have kr : Hid (∀ j, j < m → w2.cell? ⟨tk, j, none⟩ = some (.int .i64 0)) := Lib.hid (fun j hj => kt.row.cell hj)
          have hsz2 := hb2.size
          clear kt hSt2 hb2
          go_wp2_with fail
          go_loopw [49] (fun i wx => wx = w2 ∧ ∃ j : Nat, j ≤ m ∧ i = .int .i64 j) (fun i _ => m - (intOf i).toNat)
          case atStart => exact ⟨rfl, 0, by omega, rfl⟩
          case round =>
            obtain ⟨rfl, j, hj, rfl⟩ := hrel
            by_cases hjl : j < m
            · have kc := kr.out j hjl
              go_wp2_with fail
              go_roundw
              case rel => exact ⟨trivial, j + 1, by omega, by go_num⟩
              case measure => simp [intOf]; omega
            · obtain rfl : m = j := by omega
              obtain ⟨q, rfl⟩ : ∃ q : Nat, k = q := ⟨k.toNat, by omega⟩
              have hM0 : Hid (MAt S _ B dn (fun _ => 0) (fun z => w1.heap.size ≤ z ∧ z ≠ hb)) := Lib.hid (hMA.out.mono (fun z h1 h2 => by omega))
              have hB0 := hB2.out
              clear kr kb hMA
              go_wp2_with fail
              go_loopw [60] (fun i wz => ∃ (j : Nat) (hd : Nat → Nat), j ≤ q ∧ i = .int .i64 j ∧ Hid (∀ s, hd s ≤ j) ∧ Hid (MAt S wz B dn hd (fun z => w1.heap.size ≤ z ∧ z ≠ hb)) ∧ Hid (NRow wz hb m hd) ∧ Hid (Below w.heap.size w wz)) (fun i _ => q - (intOf i).toNat)
              case atStart => exact ⟨0, fun _ => 0, by omega, rfl, Lib.hid (fun _ => Nat.le_refl _), hM0, hHd3, hB2⟩
              case round =>
                clear hM0 hHd3 hB2 hB0
                obtain ⟨j, hd, hj, rfl, hle, hM, hN, hBz⟩ := hrel
                by_cases hjq : j < q
                · have hBT : ¬ S.T B := fun h => by have := (hT.out _ h).2; omega
                  have cN := Lib.hid (next_at S B dn hd (fun z => w1.heap.size ≤ z ∧ z ≠ hb) _ hok.out hBT hM.out)
                  go_wp2_with fail
                  refine cN.out.mono ?_
                  rintro e4 w4 ⟨hd4, hNR, hM4, ht4⟩
                  have hszz := ht4.size
                  have hNl := hN.out.lt
                  have hM5 := Lib.hid (hM4.mono (G' := fun z => w1.heap.size ≤ z ∧ z ≠ hb) (fun z h1 h2 => by
                    rcases h2 with h2 | h2
                    · exact h2
                    · omega))
                  have hN5 := Lib.hid (hN.out.tch ht4 (fun h => by
                    rcases h with h | h | h
                    · have := (hT.out _ h).2.2; omega
                    · omega
                    · exact h.2 rfl))
                  have hB5 := Lib.hid (hBz.out.trans (ht4.below hBz.out.size (fun z hz h => by
                    rcases h with h | h | h
                    · have := hT.out _ h; omega
                    · omega
                    · omega)))
                  clear cN hM4 ht4 hM hN hBz
                  rcases hNR with ⟨b, hb4, rfl, rfl⟩ | ⟨hall, rfl, rfl⟩
                  · have hbm : b < m := by have := hb4.1; omega
                    have hx3 : S.X b (hd b) 3 = b := by rw [hS.out]; rfl
                    have hdb := hle.out b
                    obtain ⟨x, hx⟩ : ∃ x, x = S.X b (hd b) := ⟨_, rfl⟩
                    rw [← hx] at hx3 ⊢
                    clear hx hb4
                    unfold itV
                    rw [hx3]
                    obtain ⟨p, hTp, hpl⟩ := MAt.taken (by have := hM5.out; rw [hS.out] at this; exact this)
                    go_upto_region 23 with fail
                    refine abs_wp (fun Y => Below w4.heap.size w4 Y ∧ Blk Y w4.heap.size 34 #[.int .u64 (x 0), .int .u64 (x 1), .int .u64 (x 2), .int .u8 b]) ⟨bel_alloc (Below.refl _ _) _, Blk.new _ _ _⟩ ?_
                    rintro Y ⟨hbY, gY⟩
                    have y3 := gY.cell 3
                    have yf3 := gY.frozen 3
                    have yl := gY.lt
                    have hNY := hN5.out.kept hbY
                    have nc := hNY.cell hbm
                    have nf := hNY.frozen b
                    have nl := hNY.lt
                    have hMY := Lib.hid (hM5.out.kept hok.out hbY)
                    have hTY : Hid (TkIs Y tb tk m p) := Lib.hid ⟨hTp.box.kept hbY, hTp.row.kept hbY⟩
                    have hBY := Lib.hid (bel_eld hB5.out hbY)
                    have tb0 := hTY.out.box.cell 0
                    replace hNY := Lib.hid hNY
                    clear hM5 hTp hB5 hbY hN5 gY
                    go_wp2_with fail
                    have hNZ : NRow (Y.setCell ⟨hb, b, none⟩ (.int .i64 ((hd b : Int) + 1))) hb m (updN hd b (hd b + 1)) := by
                      have := hNY.out.set b (hd b + 1)
                      rw [show ((hd b + 1 : Nat) : Int) = (hd b : Int) + 1 by omega] at this
                      exact this
                    have htZ := (Tch.refl (fun z => z = hb) Y).set (p := ⟨hb, b, none⟩) (fun _ => rfl) (.int .i64 ((hd b : Int) + 1))
                    have hMZ := Lib.hid (hMY.out.tch hok.out htZ (by omega) (fun z _ h => h.2) (fun z h => (hT.out z h).2.2))
                    have hTZ : Hid (TkIs _ tb tk m p) := Lib.hid ⟨hTY.out.box.tch htZ hne.2.1, hTY.out.row.tch htZ hne.2.2⟩
                    have hBZ := Lib.hid (hBY.out.trans (htZ.below (B := w.heap.size) (by omega) (fun z hz h => by omega)))
                    replace hNZ := Lib.hid hNZ
                    clear hMY hTY hBY hNY nc nf y3 yf3 tb0 htZ
                    go_upto_region 28 with fail
                    refine abs_wp (fun Z => Hid (MAt S Z B dn (updN hd b (hd b + 1)) (fun z => w1.heap.size ≤ z ∧ z ≠ hb)) ∧ Hid (TkIs Z tb tk m p) ∧ Hid (Below w.heap.size w Z) ∧ Hid (NRow Z hb m (updN hd b (hd b + 1)))) ⟨hMZ, hTZ, hBZ, hNZ⟩ ?_
                    clear hMZ hTZ hBZ hNZ
                    rintro Z ⟨hMZ, hTZ, hBZ, hNZ⟩
                    replace hpl := Lib.hid hpl
                    go_loopw [84] (fun i wi => ∃ (g : Nat), g ≤ m ∧ i = .int .i64 g ∧ Hid (Below Z.heap.size Z wi)) (fun i _ => m - (intOf i).toNat)
                    case atStart => exact ⟨0, by omega, rfl, Below.refl _ _⟩
                    case round =>
                      obtain ⟨g, hg, rfl, hbi⟩ := hrel
                      by_cases hgm : g < m
                      · have tb0 : World.cell? _ ⟨tb, 0, none⟩ = some (.slice (some ⟨tk, 0, none⟩) m m) := (hTZ.out.box.kept hbi.out).cell 0
                        have tr := (hTZ.out.row.kept hbi.out).cell hgm
                        have hr := (hNZ.out.kept hbi.out).cell hgm
                        obtain ⟨p1, p2⟩ := hpl.out g hgm
                        have p3 := h100.out g hgm
                        have p4 : updN hd b (hd b + 1) g ≤ j + 1 ∧ hd g ≤ updN hd b (hd b + 1) g := by
                          have := hle.out g
                          unfold updN
                          split
                          · rename_i e; subst e; omega
                          · omega
                        generalize updN hd b (hd b + 1) g = hg2 at *
                        generalize p g = pg at *
                        go_upto_region 30 with fail
                        go_region
                        go_wp2_with fail
                        go_roundw
                        case rel => exact ⟨g + 1, by omega, by go_num, Lib.hid hbi.out.drew⟩
                        case measure => simp [intOf]; omega
                      · obtain rfl : m = g := by omega
                        go_wp2_with fail
                        go_roundw
                        case rel =>
                          refine ⟨j + 1, updN hd b (hd b + 1), by omega, by go_num, Lib.hid (fun z => ?_), Lib.hid (hMZ.out.kept hok.out hbi.out), Lib.hid (hNZ.out.kept hbi.out), Lib.hid (bel_eld hBZ.out hbi.out)⟩
                          have := hle.out z
                          unfold updN
                          split
                          · rename_i e; subst e; omega
                          · omega
                        case measure => simp [intOf]; omega
                  · unfold itV
                    dsimp only
                    go_upto_region 23 with fail
                    refine abs_wp (fun Y => Hid (Below w.heap.size w Y)) (Lib.hid (bel_alloc hB5.out _)) ?_
                    rintro Y hBY
                    go_wp2_with fail
                    refine (fixed_any _).mono ?_
                    rintro e4 w4 ⟨rfl, hB4⟩
                    go_wp2_with fail
                    go_ret
                    exact ⟨rfl, bel_eld hBY.out hB4⟩
                · obtain rfl : q = j := by omega
                  go_wp2_with fail
                  refine (fixed_any _).mono ?_
                  rintro e4 w4 ⟨rfl, hB4⟩
                  go_wp2_with fail
                  go_ret
                  exact ⟨rfl, bel_eld hBz.out hB4⟩
end Go.Proofs.Ytecaegjonhimmaa
