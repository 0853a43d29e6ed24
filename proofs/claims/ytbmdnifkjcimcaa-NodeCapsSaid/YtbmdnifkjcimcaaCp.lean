/-
  NodeCaps, walked.
-/
import Derived.Test.YtbmdnifkjcimcaaNC
namespace Go.Proofs.Ytbmdnifkjcimcaa
set_option linter.unusedVariables false
set_option linter.unusedSimpArgs false
open Go.RowKit

theorem wp_region_TN {P : Program} {S : World → Prop} {Q : Exit → Act → World → Prop} {id : Nat} {a : Act} {w : World} {l : List Oper} (n N : Nat) (hm : P.follows .mixedOrders = true) (hN : l.length = N) (h : wpAnyT P .any l.toArray Q S n N (Array.replicate N false) a w.drew) : (Code.region id l.toArray true).wp P Q a w := by
  subst hN
  refine wp_region_T (S := S) n hm ?_
  simpa using h
theorem wp_skip_ {P : Program} {o : Oper} {a : Act} {w w' : World} {K : Act → World → Prop} {Q : Exit → Act → World → Prop} (h : (execOp a.eval o).run P w = .ok .skip w') (hk : K (a.put o.dst undef) w') : Oper.wp P o a w K Q := by
  unfold Oper.wp
  rw [h]
  exact hk
theorem two_shape {W : World} {base : Nat} {a b : Value} {m k m' k' : Nat} {K K' : Nat → Nat → Int} (h : Two W base a m k K b m' k' K') : ∃ A c, a = .slice A m c := by
  obtain ⟨U, U', h1, h2, h3, h4, h5⟩ := h
  obtain ⟨A, c, e, _⟩ := h1.slis
  exact ⟨A, c, e⟩
theorem two_rows {W : World} {base : Nat} {A : Option Addr} {c : Nat} {b : Value} {m k m' k' : Nat} {K K' : Nat → Nat → Int} (h : Two W base (.slice A m c) m k K b m' k' K') : m ≤ c ∧ c ≤ maxLen ∧ RsIs W A m (fun _ => k) K := by
  obtain ⟨U, U', h1, h2, h3, h4, h5⟩ := h
  obtain ⟨A', c', e, q1, q2, q3⟩ := rows_is h1 h2
  cases e
  exact ⟨q1, q2, q3⟩
theorem run_mk (W : World) (n : Nat) (hn : n ≤ 1000000) : (Instr.makeSlice 29 (.int .i64 n) (.int .i64 n)).run Try.prog W = .ok (.slice (some ⟨W.heap.size, 0, none⟩) n n) (W.alloc (.cells (Array.replicate n (.int .u8 0)) 5)) := by
  obtain ⟨i0, hi0, hz0, hz1, hz2⟩ := info_parts info_u8
  have h := run_makeSlice (P := Try.prog) (w := W) 29 5 i0 _ Try.underlying29 hi0 hz0 .i64 .i64 n n (by omega) (by omega) (by rw [hz1]; simp; omega) (by rw [hz2]; omega) (by omega)
  rw [h, hz1]
  have e : madeCells (Value.int .u8 0).cells ((n : Int).toNat * 1) = Array.replicate n (.int .u8 0) := by
    unfold madeCells
    apply Array.ext
    · simp
    · intro i h1 h2
      simp [Value.cells, Nat.mod_one]
  rw [e]
  rfl
theorem exec_bsl {o : Oper} {a : Act} {W : World} {A : Option Addr} {n c : Nat} {s : Operand} (ho : o.op = .buildSlice 25 1 #[(0, s)]) (hs : a.eval s = .slice A n c) :
    (execOp a.eval o).run Try.prog W = .ok (.value (.slice (some ⟨W.heap.size, 0, none⟩) 1 1)) (W.alloc (.cells #[.slice A n c] 29)) := by
  unfold execOp
  rw [ho]
  generalize a.eval = ev at hs ⊢
  simp [hs, go_sem]
theorem exec_mk {o : Oper} {a : Act} {W : World} {n : Nat} {s t : Operand} (hn : n ≤ 1000000) (ho : o.op = .makeSlice 29 s t) (hs : a.eval s = .int .i64 n) (ht : a.eval t = .int .i64 n) :
    (execOp a.eval o).run Try.prog W = .ok (.value (.slice (some ⟨W.heap.size, 0, none⟩) n n)) (W.alloc (.cells (Array.replicate n (.int .u8 0)) 5)) := by
  unfold execOp
  rw [ho]
  simp [hs, ht, run_mk W n hn]

set_option maxRecDepth 8000 in
set_option maxHeartbeats 8000000 in
theorem nodeCaps_yes (k v A : Nat) (w : World) (hk : 1 ≤ k ∧ k ≤ 24) (hv : v ≤ 108) (hA : (A : Int) = capL k v) (hA1 : 1 ≤ A ∧ A ≤ 498) :
    Calls Try.prog 3 #[.int .i64 k, .int .i64 v] w fun r w' => r = .returned (.bool true) ∧ Below w.heap.size w w' := by
  have HC := Lib.hid (fun w => caps_any (k : Int) (v : Int) w)
  have HD := Lib.hid (fun w => refcaps_any (k : Int) (v : Int) w)
  have RX := Lib.hid (fun w => nfixed_any w)
  have hmore := Lib.hid (caps_more hA)
  have hright := Lib.hid (fun h1 => caps_right hk hv hA h1)
  rw [← hA] at HC HD
  generalize capI (k : Int) (v : Int) = ci at *
  replace hA := Lib.hid hA
  have HK := Lib.hid (fun W => run_mk W k (by omega))
  have HV := Lib.hid (fun W => run_mk W v (by omega))
  have hA0 : ((A : Int) == 0) = false := by
    rw [beq_eq_false_iff_ne]; omega
  have hb0 := Below.refl w.heap.size w
  go_enter Try.func3, Try.ntmps3
  replace hb0 := Lib.hid hb0
  go_wp2_with fail
  refine (HC.out _).mono ?_
  rintro e w_1 ⟨rfl, hb_1⟩
  have z_1 := hb_1.size
  try simp at z_1
  have t_ := hb0.out
  have hB_1 := bel_eld (w := w) (X := _) (by first | ((repeat (first | with_reducible exact Below.refl _ _ | with_reducible assumption | (with_reducible refine bel_set ?_ (by first | exact Nat.le_refl _ | (simp; done) | (simp; omega) | omega) _) | with_reducible refine bel_grow ?_ _ | with_reducible refine Below.drew ?_ | with_reducible refine below_drewN ?_ _ | with_reducible refine bel_alloc ?_ _ | with_reducible refine bel_trans ?_ (by assumption))); done) | (repeat (first | exact Below.refl _ _ | assumption | refine below_drewN ?_ _ | refine bel_grow ?_ _ | refine Below.drew ?_ | refine bel_alloc ?_ _ | refine bel_set ?_ (by first | exact Nat.le_refl _ | (simp; done) | (simp; omega) | omega) _ | refine bel_trans ?_ (by assumption)))) hb_1
  clear t_
  clear hb0 hb_1
  replace hB_1 := Lib.hid hB_1
  go_wp2_with fail
  refine (HD.out _).mono ?_
  rintro e w_2 ⟨rfl, hb_2⟩
  have z_2 := hb_2.size
  try simp at z_2
  have t_ := hB_1.out
  have hB_2 := bel_eld (w := w) (X := _) (by first | ((repeat (first | with_reducible exact Below.refl _ _ | with_reducible assumption | (with_reducible refine bel_set ?_ (by first | exact Nat.le_refl _ | (simp; done) | (simp; omega) | omega) _) | with_reducible refine bel_grow ?_ _ | with_reducible refine Below.drew ?_ | with_reducible refine below_drewN ?_ _ | with_reducible refine bel_alloc ?_ _ | with_reducible refine bel_trans ?_ (by assumption))); done) | (repeat (first | exact Below.refl _ _ | assumption | refine below_drewN ?_ _ | refine bel_grow ?_ _ | refine Below.drew ?_ | refine bel_alloc ?_ _ | refine bel_set ?_ (by first | exact Nat.le_refl _ | (simp; done) | (simp; omega) | omega) _ | refine bel_trans ?_ (by assumption)))) hb_2
  clear t_
  clear hB_1 hb_2
  replace hB_2 := Lib.hid hB_2
  go_upto_region 8 with fail
  have hn0 : w.heap.size ≤ w_2.heap.size := hB_2.out.size
  refine abs_wp (fun Y_ => Below w.heap.size w Y_ ∧ Blk Y_ (w_2.heap.size) 28 #[.bool true, .slice none 0 0, .slice none 0 0, .slice none 0 0]) ?_ ?_
  · have t_B := hB_2.out
    refine ⟨by (repeat (first | with_reducible exact Below.refl _ _ | with_reducible assumption | (with_reducible refine bel_set ?_ (by first | exact Nat.le_refl _ | (simp; done) | (simp; omega) | omega) _) | with_reducible refine bel_grow ?_ _ | with_reducible refine Below.drew ?_ | with_reducible refine bel_alloc ?_ _ | with_reducible refine bel_eld ?_ (by assumption))), ?_⟩
    · (repeat (first | with_reducible assumption | (with_reducible refine Blk.new' ?_; first | with_reducible rfl | (simp; done)) | with_reducible refine Blk.alloc ?_ _ | with_reducible refine Blk.grow ?_ _ | with_reducible refine Blk.drew ?_ | with_reducible refine Blk.drewN ?_ _ | (with_reducible refine Blk.far ?_ (by first | (dsimp only; omega) | (simp; omega)) _) | (with_reducible apply Blk.two) | (with_reducible refine Blk.kept ?_ (by assumption)) | (with_reducible refine Blk.setRow ?_ (by first | rfl | (simp; done))) | (with_reducible refine Blk.setRow_far ?_ (by first | omega | (simp; omega)) _) | (with_reducible refine Blk.set' ?_ _ _ (by first | rfl | (simp; done)))))
  clear hB_2
  rintro X ⟨hB_3, f_n⟩
  have n_0 : X.cell? ⟨w_2.heap.size, 0, none⟩ = some (.bool true) := (f_n).cell 0
  have n_1 : X.cell? ⟨w_2.heap.size, 1, none⟩ = some (.slice none 0 0) := (f_n).cell 1
  have n_2 : X.cell? ⟨w_2.heap.size, 2, none⟩ = some (.slice none 0 0) := (f_n).cell 2
  have n_3 : X.cell? ⟨w_2.heap.size, 3, none⟩ = some (.slice none 0 0) := (f_n).cell 3
  have n_f0 := (f_n).frozen 0
  have n_f1 := (f_n).frozen 1
  have n_f2 := (f_n).frozen 2
  have n_f3 := (f_n).frozen 3
  have n_l := (f_n).lt
  replace f_n := Lib.hid f_n
  replace hB_3 := Lib.hid hB_3
  generalize w_2.heap.size = g at *
  have hgX : Hid (g < X.heap.size) := Lib.hid n_l
  clear n_0 n_1 n_2 n_3 n_f0 n_f1 n_f2 n_f3 n_l HC HD
  go_wp2_with fail
  go_loopw [39] (fun i wr => ∃ (m : Nat) (a b : Value), m ≤ A + 1 ∧ i = .int .i64 m ∧ Hid (Two wr X.heap.size a m k (kY k) b m v (fun _ _ => 0)) ∧ Hid (Blk wr g 28 #[.bool true, a, b, .slice none 0 0]) ∧ Hid (Below w.heap.size w wr) ∧ Hid (X.heap.size ≤ wr.heap.size)) (fun i _ => A + 1 - (intOf i).toNat)
  case atStart => exact ⟨0, .slice none 0 0, .slice none 0 0, by omega, rfl, Two.nil _ _ _ _ _ _, f_n.out, hB_3.out, Nat.le_refl _⟩
  case round =>
    clear f_n hB_3
    obtain ⟨m, a, b, hm, rfl, hT, hN, hB, hZ⟩ := hrel
    by_cases hlt : m < A + 1
    · have qk := HK.out
      have hdc : decide ((m : Int) < (A : Int) + 1) = true := decide_eq_true (by omega)
      go_upto_region 12 with fail
      clear qk
      have hb0' := bel_alloc (Below.refl wr.heap.size wr) (.cells (Array.replicate k (.int .u8 0)) 5)
      have hq0 : Blk (wr.alloc (.cells (Array.replicate k (.int .u8 0)) 5)) wr.heap.size 5 (Array.replicate k (.int .u8 0)) := Blk.new _ _ _
      generalize wr.alloc (.cells (Array.replicate k (.int .u8 0)) 5) = W0 at *
      replace hb0' := Lib.hid hb0'
      replace hq0 := Lib.hid hq0
      have c0 : W0.cell? ⟨wr.heap.size, 0, none⟩ = some (.int .u8 0) := by rw [hq0.out.cell 0, Array.getElem?_replicate, if_pos (by omega)]
      have f0 := hq0.out.frozen 0
      have cl := hq0.out.lt
      go_upto_if 49 with fail
      have hb1' := Lib.hid (bel_set hb0'.out (Nat.le_refl wr.heap.size) (p := ⟨wr.heap.size, 0, none⟩) (.int .u8 ((m : Int) % 256)))
      have hq1 := Lib.hid (hq0.out.set_ 0 (.int .u8 ((m : Int) % 256)))
      clear hb0' hq0 c0 f0 cl
      generalize W0.setCell ⟨wr.heap.size, 0, none⟩ (.int .u8 ((m : Int) % 256)) = W1 at *
      go_cut [] (fun wx => Below wr.heap.size wr wx ∧ ∃ cs, Blk wx wr.heap.size 5 cs ∧ cs.size = k ∧ ∀ i, i < k → cs[i]? = some (yV (kY k m) i))
      case first =>
        have cl := hq1.out.lt
        by_cases h1 : k = 1
        · have hk1 : decide ((1 : Int) < (k : Int)) = false := decide_eq_false (by omega)
          go_wp2_with fail
          go_meet
          refine ⟨hb1'.out, _, hq1.out, by simp, fun i hi => ?_⟩
          obtain rfl : i = 0 := by omega
          rw [Array.getElem?_setIfInBounds_self_of_lt (by simp; omega)]
          unfold yV kY
          rw [if_pos h1, if_pos rfl]
        · have hk1 : decide ((1 : Int) < (k : Int)) = true := decide_eq_true (by omega)
          have c0 : W1.cell? ⟨wr.heap.size, 0, none⟩ = some (.int .u8 ((m : Int) % 256)) := by rw [hq1.out.cell 0, Array.getElem?_setIfInBounds_self_of_lt (by simp; omega)]
          have c1 : W1.cell? ⟨wr.heap.size, 1, none⟩ = some (.int .u8 0) := by rw [hq1.out.cell 1, Array.getElem?_setIfInBounds_ne (by omega), Array.getElem?_replicate, if_pos (by omega)]
          have f0 := hq1.out.frozen 0
          have f1 := hq1.out.frozen 1
          have kk : (1 : Int) < (k : Int) := by omega
          go_wp2_with fail
          go_meet
          refine ⟨bel_set (bel_set hb1'.out (Nat.le_refl _) _) (Nat.le_refl _) _, _, (hq1.out.set_ 0 _).set_ 1 _, by simp, fun i hi => ?_⟩
          unfold yV kY
          rw [if_neg h1]
          rcases (by omega : i = 0 ∨ i = 1 ∨ 2 ≤ i) with rfl | rfl | h2
          · rw [Array.getElem?_setIfInBounds_ne (by omega), Array.getElem?_setIfInBounds_self_of_lt (by simp; omega), if_pos rfl]
            congr 2
            omega
          · rw [Array.getElem?_setIfInBounds_self_of_lt (by simp; omega), if_neg (by omega), if_pos rfl]
          · rw [Array.getElem?_setIfInBounds_ne (by omega), Array.getElem?_setIfInBounds_ne (by omega), Array.getElem?_setIfInBounds_ne (by omega), Array.getElem?_replicate, if_pos (by omega), if_neg (by omega), if_neg (by omega)]
      case rest =>
        obtain ⟨hbC, cs, hqc, hcs, hce⟩ := hcut
        have hx : OwnB wc X.heap.size (.slice (some ⟨wr.heap.size, 0, none⟩) k k) k (kY k m) := OwnB.base (row_own (base := wr.heap.size) ⟨cs, hqc, hcs, hce⟩ (fun i hi => rfl) (Nat.le_refl _) (Nat.le_refl _) (by unfold maxLen; omega)) hZ.out
        have T := Lib.hid (hT.out.kept hbC)
        have N := Lib.hid (hN.out.kept hbC)
        have Xx := Lib.hid hx
        have B := Lib.hid (bel_eld hB.out hbC)
        have Z : Hid (X.heap.size ≤ wc.heap.size) := Lib.hid (Nat.le_trans hZ.out hbC.size)
        have qa : Hid (∀ q, a.ownBlock = some q → q < wc.heap.size) := Lib.hid (fun q e => by
          obtain ⟨U, U', h1, _⟩ := T.out
          exact (h1.lt q e).2)
        have qz : Hid (wc.heap.size ≤ wc.drew.heap.size) := Lib.hid (Nat.le_refl _)
        clear hbC hqc hcs hce cs hx hT hN hB hZ hb1' hq1
        generalize wr.heap.size = gx at *
        go_upto_region 15 with fail
        refine wp_region_TN (S := fun w' => w'.cell? ⟨g, 1, none⟩ = some a ∧ w'.cell? ⟨g, 2, none⟩ = some b) 11 15 (by kernel_rfl) rfl ?_
        have hS0 : (fun w' : World => w'.cell? ⟨g, 1, none⟩ = some a ∧ w'.cell? ⟨g, 2, none⟩ = some b) wc.drew := ⟨N.out.cell 1, N.out.cell 2⟩
        replace T := Lib.hid (T.out.kept (Below.drew (Below.refl wc.heap.size wc)))
        replace N := Lib.hid (show Blk wc.drew g 28 #[.bool true, a, b, .slice none 0 0] from N.out)
        replace Xx := Lib.hid (Xx.out.kept (Below.drew (Below.refl wc.heap.size wc)))
        replace B := Lib.hid (Below.drew B.out)
        replace Z : Hid (X.heap.size ≤ wc.drew.heap.size) := Z
        refine wpAnyT_take 20 0 (v := ?_) rfl (by kernel_rfl) (by kernel_rfl) (by kernel_rfl) (by kernel_rfl) (by kernel_rfl) (fun _ _ _ _ _ h => h) (by rfl) ?_ hS0 ?_; rotate_left; (rintro X_ ⟨hX1_, hX2_⟩; go_simp; try with_reducible rfl); try simp only [List.getElem_toArray, List.getElem_cons_zero, List.getElem_cons_succ, Act.put, List.setIfInBounds_toArray, List.set_cons_zero, List.set_cons_succ]
        refine wpAnyT_take 20 1 (v := ?_) rfl (by kernel_rfl) (by kernel_rfl) (by kernel_rfl) (by kernel_rfl) (by kernel_rfl) (fun _ _ _ _ _ h => h) (by rfl) ?_ hS0 ?_; rotate_left; (rintro X_ ⟨hX1_, hX2_⟩; go_simp; try with_reducible rfl); try simp only [List.getElem_toArray, List.getElem_cons_zero, List.getElem_cons_succ, Act.put, List.setIfInBounds_toArray, List.set_cons_zero, List.set_cons_succ]
        refine wpAnyT_take 20 2 (v := ?_) rfl (by kernel_rfl) (by kernel_rfl) (by kernel_rfl) (by kernel_rfl) (by kernel_rfl) (fun _ _ _ _ _ h => h) (by rfl) ?_ hS0 ?_; rotate_left; (rintro X_ ⟨hX1_, hX2_⟩; go_simp; try with_reducible rfl); try simp only [List.getElem_toArray, List.getElem_cons_zero, List.getElem_cons_succ, Act.put, List.setIfInBounds_toArray, List.set_cons_zero, List.set_cons_succ]
        refine wpAnyT_take 20 5 (v := ?_) rfl (by kernel_rfl) (by kernel_rfl) (by kernel_rfl) (by kernel_rfl) (by kernel_rfl) (fun _ _ _ _ _ h => h) (by rfl) ?_ hS0 ?_; rotate_left; (rintro X_ ⟨hX1_, hX2_⟩; go_simp; try with_reducible rfl); try simp only [List.getElem_toArray, List.getElem_cons_zero, List.getElem_cons_succ, Act.put, List.setIfInBounds_toArray, List.set_cons_zero, List.set_cons_succ]
        refine wpAnyT_take 20 6 (v := ?_) rfl (by kernel_rfl) (by kernel_rfl) (by kernel_rfl) (by kernel_rfl) (by kernel_rfl) (fun _ _ _ _ _ h => h) (by rfl) ?_ hS0 ?_; rotate_left; (rintro X_ ⟨hX1_, hX2_⟩; go_simp; try with_reducible rfl); try simp only [List.getElem_toArray, List.getElem_cons_zero, List.getElem_cons_succ, Act.put, List.setIfInBounds_toArray, List.set_cons_zero, List.set_cons_succ]
        refine wpAnyT_take 20 7 (v := ?_) rfl (by kernel_rfl) (by kernel_rfl) (by kernel_rfl) (by kernel_rfl) (by kernel_rfl) (fun _ _ _ _ _ h => h) (by rfl) ?_ hS0 ?_; rotate_left; (rintro X_ ⟨hX1_, hX2_⟩; go_simp; try with_reducible rfl); try simp only [List.getElem_toArray, List.getElem_cons_zero, List.getElem_cons_succ, Act.put, List.setIfInBounds_toArray, List.set_cons_zero, List.set_cons_succ]
        clear hS0
        refine wpAnyT_two 3 8 (by kernel_rfl) rfl rfl (by rfl) (by rfl) (fun K hK => ?_) (fun K hK => ?_)
        · refine wp_value (exec_bsl (s := .tmp 61) (A := some ⟨gx, 0, none⟩) (n := k) (c := k) rfl (by kernel_rfl)) ?_
          have hbA := Lib.hid (bel_alloc (Below.refl (wc.drew).heap.size (wc.drew)) (.cells #[.slice (some ⟨gx, 0, none⟩) k k] 29))
          have G := Lib.hid ((Blk.new (wc.drew) 29 #[.slice (some ⟨gx, 0, none⟩) k k]).cell 0)
          have T_ := Lib.hid (T.out.kept hbA.out)
          have N_ := Lib.hid (N.out.kept hbA.out)
          have Xx_ := Lib.hid (Xx.out.kept hbA.out)
          have B_ := Lib.hid (bel_eld B.out hbA.out)
          have Z_ := Lib.hid (Nat.le_trans Z.out hbA.out.size)
          have qz_ := Lib.hid (Nat.le_trans qz.out hbA.out.size)
          clear hbA T N Xx B Z qz
          have T := T_
          clear T_
          have N := N_
          clear N_
          have Xx := Xx_
          clear Xx_
          have B := B_
          clear B_
          have Z := Z_
          clear Z_
          have qz := qz_
          clear qz_
          generalize (wc.drew).alloc (.cells #[.slice (some ⟨gx, 0, none⟩) k k] 29) = v0_00 at *
          generalize (wc.drew).heap.size = g3 at *
          refine hK.out _ _ (fun _ => ⟨N.out.cell 1, N.out.cell 2⟩) ?_
          clear hK K
          try simp only [List.getElem_toArray, List.getElem_cons_zero, List.getElem_cons_succ, Act.put, List.setIfInBounds_toArray, List.set_cons_zero, List.set_cons_succ]
          refine wpAnyT_two 4 8 (by kernel_rfl) rfl rfl (by rfl) (by rfl) (fun K hK => ?_) (fun K hK => ?_)
          · obtain ⟨v4, v1_10, hr, hT4, hk4, hb4, hg4⟩ := two_app (c' := 1) 25 T.out Xx.out G.out (by omega) Z.out
            obtain ⟨A8, c8, rfl⟩ := two_shape hT4
            refine Lib.wp_append_run _ (.tmp 60) (.tmp 62) _ _ rfl a (.slice (some ⟨g3, 0, none⟩) 1 1) (by kernel_rfl) (by kernel_rfl) _ _ hr ?_
            clear hr
            have T_ := Lib.hid hT4
            have N_ := Lib.hid (N.out.lowb hb4 hgX.out)
            have Xx_ := Lib.hid (Xx.out.kb hk4)
            have B_ := Lib.hid (B.out.trans (hb4.mono (by have := hgX.out; omega)))
            have Z_ := Lib.hid (Nat.le_trans Z.out hb4.size)
            have qz_ := Lib.hid (Nat.le_trans qz.out hb4.size)
            clear hT4 hk4 hb4 hg4 G T N Xx B Z qz
            have T := T_
            clear T_
            have N := N_
            clear N_
            have Xx := Xx_
            clear Xx_
            have B := B_
            clear B_
            have Z := Z_
            clear Z_
            have qz := qz_
            clear qz_
            refine hK.out _ _ (fun _ => ⟨N.out.cell 1, N.out.cell 2⟩) ?_
            clear hK K
            try simp only [List.getElem_toArray, List.getElem_cons_zero, List.getElem_cons_succ, Act.put, List.setIfInBounds_toArray, List.set_cons_zero, List.set_cons_succ]
            have hS0 : (fun w' : World => w'.cell? ⟨g, 1, none⟩ = some a ∧ w'.cell? ⟨g, 2, none⟩ = some b) v1_10 := ⟨N.out.cell 1, N.out.cell 2⟩
            refine wpAnyT_take 20 11 (v := ?_) rfl (by kernel_rfl) (by kernel_rfl) (by kernel_rfl) (by kernel_rfl) (by kernel_rfl) (fun _ _ _ _ _ h => h) (by rfl) ?_ hS0 ?_; rotate_left; (rintro X_ ⟨hX1_, hX2_⟩; go_simp; try with_reducible rfl); try simp only [List.getElem_toArray, List.getElem_cons_zero, List.getElem_cons_succ, Act.put, List.setIfInBounds_toArray, List.set_cons_zero, List.set_cons_succ]
            clear hS0
            refine wpAnyT_one 8 (by kernel_rfl) rfl (by rfl) (fun K hK => ?_)
            refine wp_value (exec_mk (n := v) (s := .tmp 66) (t := .tmp 66) (by omega) rfl (by kernel_rfl) (by kernel_rfl)) ?_
            have hbA := Lib.hid (bel_alloc (Below.refl (v1_10).heap.size (v1_10)) (.cells (Array.replicate v (.int .u8 0)) 5))
            have Y : Hid (OwnB ((v1_10).alloc (.cells (Array.replicate v (.int .u8 0)) 5)) X.heap.size (.slice (some ⟨(v1_10).heap.size, 0, none⟩) v v) v (fun _ => 0)) := Lib.hid (OwnB.base (row_own (base := (v1_10).heap.size) (rowIs_zero (.int .u8 0) rfl rfl) (fun i hi => rfl) (Nat.le_refl _) (Nat.le_refl _) (by unfold maxLen; omega)) Z.out)
            have T_ := Lib.hid (T.out.kept hbA.out)
            have N_ := Lib.hid (N.out.kept hbA.out)
            have Xx_ := Lib.hid (Xx.out.kept hbA.out)
            have B_ := Lib.hid (bel_eld B.out hbA.out)
            have Z_ := Lib.hid (Nat.le_trans Z.out hbA.out.size)
            have qz_ := Lib.hid (Nat.le_trans qz.out hbA.out.size)
            clear hbA T N Xx B Z qz
            have T := T_
            clear T_
            have N := N_
            clear N_
            have Xx := Xx_
            clear Xx_
            have B := B_
            clear B_
            have Z := Z_
            clear Z_
            have qz := qz_
            clear qz_
            generalize (v1_10).alloc (.cells (Array.replicate v (.int .u8 0)) 5) = v2_20 at *
            generalize (v1_10).heap.size = gy at *
            refine hK.out _ _ (fun _ => ⟨N.out.cell 1, N.out.cell 2⟩) ?_
            clear hK K
            try simp only [List.getElem_toArray, List.getElem_cons_zero, List.getElem_cons_succ, Act.put, List.setIfInBounds_toArray, List.set_cons_zero, List.set_cons_succ]
            refine wpAnyT_one 9 (by kernel_rfl) rfl (by rfl) (fun K hK => ?_)
            refine wp_value (exec_bsl (s := .tmp 67) (A := some ⟨gy, 0, none⟩) (n := v) (c := v) rfl (by kernel_rfl)) ?_
            have hbA := Lib.hid (bel_alloc (Below.refl (v2_20).heap.size (v2_20)) (.cells #[.slice (some ⟨gy, 0, none⟩) v v] 29))
            have H := Lib.hid ((Blk.new (v2_20) 29 #[.slice (some ⟨gy, 0, none⟩) v v]).cell 0)
            have qh : Hid (wc.heap.size ≤ (v2_20).heap.size) := Lib.hid (Nat.le_trans (Nat.le_refl _) qz.out)
            have T_ := Lib.hid (T.out.kept hbA.out)
            have N_ := Lib.hid (N.out.kept hbA.out)
            have Xx_ := Lib.hid (Xx.out.kept hbA.out)
            have B_ := Lib.hid (bel_eld B.out hbA.out)
            have Z_ := Lib.hid (Nat.le_trans Z.out hbA.out.size)
            have qz_ := Lib.hid (Nat.le_trans qz.out hbA.out.size)
            have Y_ := Lib.hid (Y.out.kept hbA.out)
            clear hbA T N Xx B Z qz Y
            have T := T_
            clear T_
            have N := N_
            clear N_
            have Xx := Xx_
            clear Xx_
            have B := B_
            clear B_
            have Z := Z_
            clear Z_
            have qz := qz_
            clear qz_
            have Y := Y_
            clear Y_
            generalize (v2_20).alloc (.cells #[.slice (some ⟨gy, 0, none⟩) v v] 29) = v3_21 at *
            generalize (v2_20).heap.size = gh at *
            refine hK.out _ _ (fun _ => ⟨N.out.cell 1, N.out.cell 2⟩) ?_
            clear hK K
            try simp only [List.getElem_toArray, List.getElem_cons_zero, List.getElem_cons_succ, Act.put, List.setIfInBounds_toArray, List.set_cons_zero, List.set_cons_succ]
            refine wpAnyT_one 10 (by kernel_rfl) rfl (by rfl) (fun K hK => ?_)
            obtain ⟨v5, v4_22, hr, hT4, hk4, hb4, hg4⟩ := two_app (c' := 1) 25 T.out.swap Y.out H.out (by omega) Z.out
            obtain ⟨A9, c9, rfl⟩ := two_shape hT4
            refine Lib.wp_append_run _ (.tmp 65) (.tmp 68) _ _ rfl b (.slice (some ⟨gh, 0, none⟩) 1 1) (by kernel_rfl) (by kernel_rfl) _ _ hr ?_
            clear hr
            have T_ := Lib.hid hT4.swap
            have N_ := Lib.hid (N.out.lowb hb4 hgX.out)
            have B_ := Lib.hid (B.out.trans (hb4.mono (by have := hgX.out; omega)))
            have Z_ := Lib.hid (Nat.le_trans Z.out hb4.size)
            clear hT4 hk4 hb4 hg4 H Y Xx qz qh T N B Z
            have T := T_
            clear T_
            have N := N_
            clear N_
            have B := B_
            clear B_
            have Z := Z_
            clear Z_
            refine hK.out _ _ (fun _ => ⟨N.out.cell 1, N.out.cell 2⟩) ?_
            clear hK K
            try simp only [List.getElem_toArray, List.getElem_cons_zero, List.getElem_cons_succ, Act.put, List.setIfInBounds_toArray, List.set_cons_zero, List.set_cons_succ]
            refine wpAnyT_tail 12 rfl (by kernel_rfl) (by kernel_rfl) ?_
            simp only [List.drop_succ_cons, List.drop_zero]
            have x0 := (N.out).cell 0
            have x1 := (N.out).cell 1
            have x2 := (N.out).cell 2
            have x3 := (N.out).cell 3
            have xf0 := (N.out).frozen 0
            have xf1 := (N.out).frozen 1
            have xf2 := (N.out).frozen 2
            have xf3 := (N.out).frozen 3
            have xl := (N.out).lt
            go_wp2_with fail
            go_roundw
            case rel => exact ⟨m + 1, .slice A8 (m + 1) c8, .slice A9 (m + 1) c9, by omega, by go_num, Two.set (Two.set T.out N.out (by decide) hgX.out _) (N.out.set_ 1 _) (by decide) hgX.out _, Blk.set' (Blk.set' N.out 1 _ rfl) 2 _ rfl, bel_set (bel_set B.out (by dsimp only; omega) _) (by dsimp only; omega) _, Lib.hid (by simpa using Z.out)⟩
            case measure => simp [intOf]; omega
          · refine wp_value (exec_mk (n := v) (s := .tmp 66) (t := .tmp 66) (by omega) rfl (by kernel_rfl) (by kernel_rfl)) ?_
            have hbA := Lib.hid (bel_alloc (Below.refl (v0_00).heap.size (v0_00)) (.cells (Array.replicate v (.int .u8 0)) 5))
            have Y : Hid (OwnB ((v0_00).alloc (.cells (Array.replicate v (.int .u8 0)) 5)) X.heap.size (.slice (some ⟨(v0_00).heap.size, 0, none⟩) v v) v (fun _ => 0)) := Lib.hid (OwnB.base (row_own (base := (v0_00).heap.size) (rowIs_zero (.int .u8 0) rfl rfl) (fun i hi => rfl) (Nat.le_refl _) (Nat.le_refl _) (by unfold maxLen; omega)) Z.out)
            have T_ := Lib.hid (T.out.kept hbA.out)
            have N_ := Lib.hid (N.out.kept hbA.out)
            have Xx_ := Lib.hid (Xx.out.kept hbA.out)
            have B_ := Lib.hid (bel_eld B.out hbA.out)
            have Z_ := Lib.hid (Nat.le_trans Z.out hbA.out.size)
            have qz_ := Lib.hid (Nat.le_trans qz.out hbA.out.size)
            have G_ := Lib.hid (keepc hbA.out G.out)
            clear hbA T N Xx B Z qz G
            have T := T_
            clear T_
            have N := N_
            clear N_
            have Xx := Xx_
            clear Xx_
            have B := B_
            clear B_
            have Z := Z_
            clear Z_
            have qz := qz_
            clear qz_
            have G := G_
            clear G_
            generalize (v0_00).alloc (.cells (Array.replicate v (.int .u8 0)) 5) = v1_10 at *
            generalize (v0_00).heap.size = gy at *
            refine hK.out _ _ (fun _ => ⟨N.out.cell 1, N.out.cell 2⟩) ?_
            clear hK K
            try simp only [List.getElem_toArray, List.getElem_cons_zero, List.getElem_cons_succ, Act.put, List.setIfInBounds_toArray, List.set_cons_zero, List.set_cons_succ]
            refine wpAnyT_two 4 9 (by kernel_rfl) rfl rfl (by rfl) (by rfl) (fun K hK => ?_) (fun K hK => ?_)
            · obtain ⟨v4, v2_11, hr, hT4, hk4, hb4, hg4⟩ := two_app (c' := 1) 25 T.out Xx.out G.out (by omega) Z.out
              obtain ⟨A8, c8, rfl⟩ := two_shape hT4
              refine Lib.wp_append_run _ (.tmp 60) (.tmp 62) _ _ rfl a (.slice (some ⟨g3, 0, none⟩) 1 1) (by kernel_rfl) (by kernel_rfl) _ _ hr ?_
              clear hr
              have T_ := Lib.hid hT4
              have N_ := Lib.hid (N.out.lowb hb4 hgX.out)
              have Xx_ := Lib.hid (Xx.out.kb hk4)
              have B_ := Lib.hid (B.out.trans (hb4.mono (by have := hgX.out; omega)))
              have Z_ := Lib.hid (Nat.le_trans Z.out hb4.size)
              have qz_ := Lib.hid (Nat.le_trans qz.out hb4.size)
              have Y_ := Lib.hid (Y.out.kb hk4)
              clear hT4 hk4 hb4 hg4 G T N Xx B Z qz Y
              have T := T_
              clear T_
              have N := N_
              clear N_
              have Xx := Xx_
              clear Xx_
              have B := B_
              clear B_
              have Z := Z_
              clear Z_
              have qz := qz_
              clear qz_
              have Y := Y_
              clear Y_
              refine hK.out _ _ (fun _ => ⟨N.out.cell 1, N.out.cell 2⟩) ?_
              clear hK K
              try simp only [List.getElem_toArray, List.getElem_cons_zero, List.getElem_cons_succ, Act.put, List.setIfInBounds_toArray, List.set_cons_zero, List.set_cons_succ]
              have hS0 : (fun w' : World => w'.cell? ⟨g, 1, none⟩ = some a ∧ w'.cell? ⟨g, 2, none⟩ = some b) v2_11 := ⟨N.out.cell 1, N.out.cell 2⟩
              refine wpAnyT_take 20 11 (v := ?_) rfl (by kernel_rfl) (by kernel_rfl) (by kernel_rfl) (by kernel_rfl) (by kernel_rfl) (fun _ _ _ _ _ h => h) (by rfl) ?_ hS0 ?_; rotate_left; (rintro X_ ⟨hX1_, hX2_⟩; go_simp; try with_reducible rfl); try simp only [List.getElem_toArray, List.getElem_cons_zero, List.getElem_cons_succ, Act.put, List.setIfInBounds_toArray, List.set_cons_zero, List.set_cons_succ]
              clear hS0
              refine wpAnyT_one 9 (by kernel_rfl) rfl (by rfl) (fun K hK => ?_)
              refine wp_value (exec_bsl (s := .tmp 67) (A := some ⟨gy, 0, none⟩) (n := v) (c := v) rfl (by kernel_rfl)) ?_
              have hbA := Lib.hid (bel_alloc (Below.refl (v2_11).heap.size (v2_11)) (.cells #[.slice (some ⟨gy, 0, none⟩) v v] 29))
              have H := Lib.hid ((Blk.new (v2_11) 29 #[.slice (some ⟨gy, 0, none⟩) v v]).cell 0)
              have qh : Hid (wc.heap.size ≤ (v2_11).heap.size) := Lib.hid (Nat.le_trans (Nat.le_refl _) qz.out)
              have T_ := Lib.hid (T.out.kept hbA.out)
              have N_ := Lib.hid (N.out.kept hbA.out)
              have Xx_ := Lib.hid (Xx.out.kept hbA.out)
              have B_ := Lib.hid (bel_eld B.out hbA.out)
              have Z_ := Lib.hid (Nat.le_trans Z.out hbA.out.size)
              have qz_ := Lib.hid (Nat.le_trans qz.out hbA.out.size)
              have Y_ := Lib.hid (Y.out.kept hbA.out)
              clear hbA T N Xx B Z qz Y
              have T := T_
              clear T_
              have N := N_
              clear N_
              have Xx := Xx_
              clear Xx_
              have B := B_
              clear B_
              have Z := Z_
              clear Z_
              have qz := qz_
              clear qz_
              have Y := Y_
              clear Y_
              generalize (v2_11).alloc (.cells #[.slice (some ⟨gy, 0, none⟩) v v] 29) = v3_21 at *
              generalize (v2_11).heap.size = gh at *
              refine hK.out _ _ (fun _ => ⟨N.out.cell 1, N.out.cell 2⟩) ?_
              clear hK K
              try simp only [List.getElem_toArray, List.getElem_cons_zero, List.getElem_cons_succ, Act.put, List.setIfInBounds_toArray, List.set_cons_zero, List.set_cons_succ]
              refine wpAnyT_one 10 (by kernel_rfl) rfl (by rfl) (fun K hK => ?_)
              obtain ⟨v5, v4_22, hr, hT4, hk4, hb4, hg4⟩ := two_app (c' := 1) 25 T.out.swap Y.out H.out (by omega) Z.out
              obtain ⟨A9, c9, rfl⟩ := two_shape hT4
              refine Lib.wp_append_run _ (.tmp 65) (.tmp 68) _ _ rfl b (.slice (some ⟨gh, 0, none⟩) 1 1) (by kernel_rfl) (by kernel_rfl) _ _ hr ?_
              clear hr
              have T_ := Lib.hid hT4.swap
              have N_ := Lib.hid (N.out.lowb hb4 hgX.out)
              have B_ := Lib.hid (B.out.trans (hb4.mono (by have := hgX.out; omega)))
              have Z_ := Lib.hid (Nat.le_trans Z.out hb4.size)
              clear hT4 hk4 hb4 hg4 H Y Xx qz qh T N B Z
              have T := T_
              clear T_
              have N := N_
              clear N_
              have B := B_
              clear B_
              have Z := Z_
              clear Z_
              refine hK.out _ _ (fun _ => ⟨N.out.cell 1, N.out.cell 2⟩) ?_
              clear hK K
              try simp only [List.getElem_toArray, List.getElem_cons_zero, List.getElem_cons_succ, Act.put, List.setIfInBounds_toArray, List.set_cons_zero, List.set_cons_succ]
              refine wpAnyT_tail 12 rfl (by kernel_rfl) (by kernel_rfl) ?_
              simp only [List.drop_succ_cons, List.drop_zero]
              have x0 := (N.out).cell 0
              have x1 := (N.out).cell 1
              have x2 := (N.out).cell 2
              have x3 := (N.out).cell 3
              have xf0 := (N.out).frozen 0
              have xf1 := (N.out).frozen 1
              have xf2 := (N.out).frozen 2
              have xf3 := (N.out).frozen 3
              have xl := (N.out).lt
              go_wp2_with fail
              go_roundw
              case rel => exact ⟨m + 1, .slice A8 (m + 1) c8, .slice A9 (m + 1) c9, by omega, by go_num, Two.set (Two.set T.out N.out (by decide) hgX.out _) (N.out.set_ 1 _) (by decide) hgX.out _, Blk.set' (Blk.set' N.out 1 _ rfl) 2 _ rfl, bel_set (bel_set B.out (by dsimp only; omega) _) (by dsimp only; omega) _, Lib.hid (by simpa using Z.out)⟩
              case measure => simp [intOf]; omega
            · refine wp_value (exec_bsl (s := .tmp 67) (A := some ⟨gy, 0, none⟩) (n := v) (c := v) rfl (by kernel_rfl)) ?_
              have hbA := Lib.hid (bel_alloc (Below.refl (v1_10).heap.size (v1_10)) (.cells #[.slice (some ⟨gy, 0, none⟩) v v] 29))
              have H := Lib.hid ((Blk.new (v1_10) 29 #[.slice (some ⟨gy, 0, none⟩) v v]).cell 0)
              have qh : Hid (wc.heap.size ≤ (v1_10).heap.size) := Lib.hid (Nat.le_trans (Nat.le_refl _) qz.out)
              have T_ := Lib.hid (T.out.kept hbA.out)
              have N_ := Lib.hid (N.out.kept hbA.out)
              have Xx_ := Lib.hid (Xx.out.kept hbA.out)
              have B_ := Lib.hid (bel_eld B.out hbA.out)
              have Z_ := Lib.hid (Nat.le_trans Z.out hbA.out.size)
              have qz_ := Lib.hid (Nat.le_trans qz.out hbA.out.size)
              have G_ := Lib.hid (keepc hbA.out G.out)
              have Y_ := Lib.hid (Y.out.kept hbA.out)
              clear hbA T N Xx B Z qz G Y
              have T := T_
              clear T_
              have N := N_
              clear N_
              have Xx := Xx_
              clear Xx_
              have B := B_
              clear B_
              have Z := Z_
              clear Z_
              have qz := qz_
              clear qz_
              have G := G_
              clear G_
              have Y := Y_
              clear Y_
              generalize (v1_10).alloc (.cells #[.slice (some ⟨gy, 0, none⟩) v v] 29) = v2_11 at *
              generalize (v1_10).heap.size = gh at *
              refine hK.out _ _ (fun _ => ⟨N.out.cell 1, N.out.cell 2⟩) ?_
              clear hK K
              try simp only [List.getElem_toArray, List.getElem_cons_zero, List.getElem_cons_succ, Act.put, List.setIfInBounds_toArray, List.set_cons_zero, List.set_cons_succ]
              refine wpAnyT_one 4 (by kernel_rfl) rfl (by rfl) (fun K hK => ?_)
              obtain ⟨v4, v3_12, hr, hT4, hk4, hb4, hg4⟩ := two_app (c' := 1) 25 T.out Xx.out G.out (by omega) Z.out
              obtain ⟨A8, c8, rfl⟩ := two_shape hT4
              refine Lib.wp_append_run _ (.tmp 60) (.tmp 62) _ _ rfl a (.slice (some ⟨g3, 0, none⟩) 1 1) (by kernel_rfl) (by kernel_rfl) _ _ hr ?_
              clear hr
              have T_ := Lib.hid hT4
              have N_ := Lib.hid (N.out.lowb hb4 hgX.out)
              have Xx_ := Lib.hid (Xx.out.kb hk4)
              have B_ := Lib.hid (B.out.trans (hb4.mono (by have := hgX.out; omega)))
              have Z_ := Lib.hid (Nat.le_trans Z.out hb4.size)
              have qz_ := Lib.hid (Nat.le_trans qz.out hb4.size)
              have Y_ := Lib.hid (Y.out.kb hk4)
              have H_ := Lib.hid (grown_cell hg4 H.out (fun e => by have h1 := qa.out _ e.symm; have h2 := qh.out; dsimp only at h1; omega))
              clear hT4 hk4 hb4 hg4 G T N Xx B Z qz Y H
              have T := T_
              clear T_
              have N := N_
              clear N_
              have Xx := Xx_
              clear Xx_
              have B := B_
              clear B_
              have Z := Z_
              clear Z_
              have qz := qz_
              clear qz_
              have Y := Y_
              clear Y_
              have H := H_
              clear H_
              refine hK.out _ _ (fun _ => ⟨N.out.cell 1, N.out.cell 2⟩) ?_
              clear hK K
              try simp only [List.getElem_toArray, List.getElem_cons_zero, List.getElem_cons_succ, Act.put, List.setIfInBounds_toArray, List.set_cons_zero, List.set_cons_succ]
              have hS0 : (fun w' : World => w'.cell? ⟨g, 1, none⟩ = some a ∧ w'.cell? ⟨g, 2, none⟩ = some b) v3_12 := ⟨N.out.cell 1, N.out.cell 2⟩
              refine wpAnyT_take 20 11 (v := ?_) rfl (by kernel_rfl) (by kernel_rfl) (by kernel_rfl) (by kernel_rfl) (by kernel_rfl) (fun _ _ _ _ _ h => h) (by rfl) ?_ hS0 ?_; rotate_left; (rintro X_ ⟨hX1_, hX2_⟩; go_simp; try with_reducible rfl); try simp only [List.getElem_toArray, List.getElem_cons_zero, List.getElem_cons_succ, Act.put, List.setIfInBounds_toArray, List.set_cons_zero, List.set_cons_succ]
              clear hS0
              refine wpAnyT_one 10 (by kernel_rfl) rfl (by rfl) (fun K hK => ?_)
              obtain ⟨v5, v4_22, hr, hT4, hk4, hb4, hg4⟩ := two_app (c' := 1) 25 T.out.swap Y.out H.out (by omega) Z.out
              obtain ⟨A9, c9, rfl⟩ := two_shape hT4
              refine Lib.wp_append_run _ (.tmp 65) (.tmp 68) _ _ rfl b (.slice (some ⟨gh, 0, none⟩) 1 1) (by kernel_rfl) (by kernel_rfl) _ _ hr ?_
              clear hr
              have T_ := Lib.hid hT4.swap
              have N_ := Lib.hid (N.out.lowb hb4 hgX.out)
              have B_ := Lib.hid (B.out.trans (hb4.mono (by have := hgX.out; omega)))
              have Z_ := Lib.hid (Nat.le_trans Z.out hb4.size)
              clear hT4 hk4 hb4 hg4 H Y Xx qz qh T N B Z
              have T := T_
              clear T_
              have N := N_
              clear N_
              have B := B_
              clear B_
              have Z := Z_
              clear Z_
              refine hK.out _ _ (fun _ => ⟨N.out.cell 1, N.out.cell 2⟩) ?_
              clear hK K
              try simp only [List.getElem_toArray, List.getElem_cons_zero, List.getElem_cons_succ, Act.put, List.setIfInBounds_toArray, List.set_cons_zero, List.set_cons_succ]
              refine wpAnyT_tail 12 rfl (by kernel_rfl) (by kernel_rfl) ?_
              simp only [List.drop_succ_cons, List.drop_zero]
              have x0 := (N.out).cell 0
              have x1 := (N.out).cell 1
              have x2 := (N.out).cell 2
              have x3 := (N.out).cell 3
              have xf0 := (N.out).frozen 0
              have xf1 := (N.out).frozen 1
              have xf2 := (N.out).frozen 2
              have xf3 := (N.out).frozen 3
              have xl := (N.out).lt
              go_wp2_with fail
              go_roundw
              case rel => exact ⟨m + 1, .slice A8 (m + 1) c8, .slice A9 (m + 1) c9, by omega, by go_num, Two.set (Two.set T.out N.out (by decide) hgX.out _) (N.out.set_ 1 _) (by decide) hgX.out _, Blk.set' (Blk.set' N.out 1 _ rfl) 2 _ rfl, bel_set (bel_set B.out (by dsimp only; omega) _) (by dsimp only; omega) _, Lib.hid (by simpa using Z.out)⟩
              case measure => simp [intOf]; omega
        · refine wp_value (exec_mk (n := v) (s := .tmp 66) (t := .tmp 66) (by omega) rfl (by kernel_rfl) (by kernel_rfl)) ?_
          have hbA := Lib.hid (bel_alloc (Below.refl (wc.drew).heap.size (wc.drew)) (.cells (Array.replicate v (.int .u8 0)) 5))
          have Y : Hid (OwnB ((wc.drew).alloc (.cells (Array.replicate v (.int .u8 0)) 5)) X.heap.size (.slice (some ⟨(wc.drew).heap.size, 0, none⟩) v v) v (fun _ => 0)) := Lib.hid (OwnB.base (row_own (base := (wc.drew).heap.size) (rowIs_zero (.int .u8 0) rfl rfl) (fun i hi => rfl) (Nat.le_refl _) (Nat.le_refl _) (by unfold maxLen; omega)) Z.out)
          have T_ := Lib.hid (T.out.kept hbA.out)
          have N_ := Lib.hid (N.out.kept hbA.out)
          have Xx_ := Lib.hid (Xx.out.kept hbA.out)
          have B_ := Lib.hid (bel_eld B.out hbA.out)
          have Z_ := Lib.hid (Nat.le_trans Z.out hbA.out.size)
          have qz_ := Lib.hid (Nat.le_trans qz.out hbA.out.size)
          clear hbA T N Xx B Z qz
          have T := T_
          clear T_
          have N := N_
          clear N_
          have Xx := Xx_
          clear Xx_
          have B := B_
          clear B_
          have Z := Z_
          clear Z_
          have qz := qz_
          clear qz_
          generalize (wc.drew).alloc (.cells (Array.replicate v (.int .u8 0)) 5) = v0_00 at *
          generalize (wc.drew).heap.size = gy at *
          refine hK.out _ _ (fun _ => ⟨N.out.cell 1, N.out.cell 2⟩) ?_
          clear hK K
          try simp only [List.getElem_toArray, List.getElem_cons_zero, List.getElem_cons_succ, Act.put, List.setIfInBounds_toArray, List.set_cons_zero, List.set_cons_succ]
          refine wpAnyT_two 3 9 (by kernel_rfl) rfl rfl (by rfl) (by rfl) (fun K hK => ?_) (fun K hK => ?_)
          · refine wp_value (exec_bsl (s := .tmp 61) (A := some ⟨gx, 0, none⟩) (n := k) (c := k) rfl (by kernel_rfl)) ?_
            have hbA := Lib.hid (bel_alloc (Below.refl (v0_00).heap.size (v0_00)) (.cells #[.slice (some ⟨gx, 0, none⟩) k k] 29))
            have G := Lib.hid ((Blk.new (v0_00) 29 #[.slice (some ⟨gx, 0, none⟩) k k]).cell 0)
            have T_ := Lib.hid (T.out.kept hbA.out)
            have N_ := Lib.hid (N.out.kept hbA.out)
            have Xx_ := Lib.hid (Xx.out.kept hbA.out)
            have B_ := Lib.hid (bel_eld B.out hbA.out)
            have Z_ := Lib.hid (Nat.le_trans Z.out hbA.out.size)
            have qz_ := Lib.hid (Nat.le_trans qz.out hbA.out.size)
            have Y_ := Lib.hid (Y.out.kept hbA.out)
            clear hbA T N Xx B Z qz Y
            have T := T_
            clear T_
            have N := N_
            clear N_
            have Xx := Xx_
            clear Xx_
            have B := B_
            clear B_
            have Z := Z_
            clear Z_
            have qz := qz_
            clear qz_
            have Y := Y_
            clear Y_
            generalize (v0_00).alloc (.cells #[.slice (some ⟨gx, 0, none⟩) k k] 29) = v1_01 at *
            generalize (v0_00).heap.size = g3 at *
            refine hK.out _ _ (fun _ => ⟨N.out.cell 1, N.out.cell 2⟩) ?_
            clear hK K
            try simp only [List.getElem_toArray, List.getElem_cons_zero, List.getElem_cons_succ, Act.put, List.setIfInBounds_toArray, List.set_cons_zero, List.set_cons_succ]
            refine wpAnyT_two 4 9 (by kernel_rfl) rfl rfl (by rfl) (by rfl) (fun K hK => ?_) (fun K hK => ?_)
            · obtain ⟨v4, v2_11, hr, hT4, hk4, hb4, hg4⟩ := two_app (c' := 1) 25 T.out Xx.out G.out (by omega) Z.out
              obtain ⟨A8, c8, rfl⟩ := two_shape hT4
              refine Lib.wp_append_run _ (.tmp 60) (.tmp 62) _ _ rfl a (.slice (some ⟨g3, 0, none⟩) 1 1) (by kernel_rfl) (by kernel_rfl) _ _ hr ?_
              clear hr
              have T_ := Lib.hid hT4
              have N_ := Lib.hid (N.out.lowb hb4 hgX.out)
              have Xx_ := Lib.hid (Xx.out.kb hk4)
              have B_ := Lib.hid (B.out.trans (hb4.mono (by have := hgX.out; omega)))
              have Z_ := Lib.hid (Nat.le_trans Z.out hb4.size)
              have qz_ := Lib.hid (Nat.le_trans qz.out hb4.size)
              have Y_ := Lib.hid (Y.out.kb hk4)
              clear hT4 hk4 hb4 hg4 G T N Xx B Z qz Y
              have T := T_
              clear T_
              have N := N_
              clear N_
              have Xx := Xx_
              clear Xx_
              have B := B_
              clear B_
              have Z := Z_
              clear Z_
              have qz := qz_
              clear qz_
              have Y := Y_
              clear Y_
              refine hK.out _ _ (fun _ => ⟨N.out.cell 1, N.out.cell 2⟩) ?_
              clear hK K
              try simp only [List.getElem_toArray, List.getElem_cons_zero, List.getElem_cons_succ, Act.put, List.setIfInBounds_toArray, List.set_cons_zero, List.set_cons_succ]
              have hS0 : (fun w' : World => w'.cell? ⟨g, 1, none⟩ = some a ∧ w'.cell? ⟨g, 2, none⟩ = some b) v2_11 := ⟨N.out.cell 1, N.out.cell 2⟩
              refine wpAnyT_take 20 11 (v := ?_) rfl (by kernel_rfl) (by kernel_rfl) (by kernel_rfl) (by kernel_rfl) (by kernel_rfl) (fun _ _ _ _ _ h => h) (by rfl) ?_ hS0 ?_; rotate_left; (rintro X_ ⟨hX1_, hX2_⟩; go_simp; try with_reducible rfl); try simp only [List.getElem_toArray, List.getElem_cons_zero, List.getElem_cons_succ, Act.put, List.setIfInBounds_toArray, List.set_cons_zero, List.set_cons_succ]
              clear hS0
              refine wpAnyT_one 9 (by kernel_rfl) rfl (by rfl) (fun K hK => ?_)
              refine wp_value (exec_bsl (s := .tmp 67) (A := some ⟨gy, 0, none⟩) (n := v) (c := v) rfl (by kernel_rfl)) ?_
              have hbA := Lib.hid (bel_alloc (Below.refl (v2_11).heap.size (v2_11)) (.cells #[.slice (some ⟨gy, 0, none⟩) v v] 29))
              have H := Lib.hid ((Blk.new (v2_11) 29 #[.slice (some ⟨gy, 0, none⟩) v v]).cell 0)
              have qh : Hid (wc.heap.size ≤ (v2_11).heap.size) := Lib.hid (Nat.le_trans (Nat.le_refl _) qz.out)
              have T_ := Lib.hid (T.out.kept hbA.out)
              have N_ := Lib.hid (N.out.kept hbA.out)
              have Xx_ := Lib.hid (Xx.out.kept hbA.out)
              have B_ := Lib.hid (bel_eld B.out hbA.out)
              have Z_ := Lib.hid (Nat.le_trans Z.out hbA.out.size)
              have qz_ := Lib.hid (Nat.le_trans qz.out hbA.out.size)
              have Y_ := Lib.hid (Y.out.kept hbA.out)
              clear hbA T N Xx B Z qz Y
              have T := T_
              clear T_
              have N := N_
              clear N_
              have Xx := Xx_
              clear Xx_
              have B := B_
              clear B_
              have Z := Z_
              clear Z_
              have qz := qz_
              clear qz_
              have Y := Y_
              clear Y_
              generalize (v2_11).alloc (.cells #[.slice (some ⟨gy, 0, none⟩) v v] 29) = v3_21 at *
              generalize (v2_11).heap.size = gh at *
              refine hK.out _ _ (fun _ => ⟨N.out.cell 1, N.out.cell 2⟩) ?_
              clear hK K
              try simp only [List.getElem_toArray, List.getElem_cons_zero, List.getElem_cons_succ, Act.put, List.setIfInBounds_toArray, List.set_cons_zero, List.set_cons_succ]
              refine wpAnyT_one 10 (by kernel_rfl) rfl (by rfl) (fun K hK => ?_)
              obtain ⟨v5, v4_22, hr, hT4, hk4, hb4, hg4⟩ := two_app (c' := 1) 25 T.out.swap Y.out H.out (by omega) Z.out
              obtain ⟨A9, c9, rfl⟩ := two_shape hT4
              refine Lib.wp_append_run _ (.tmp 65) (.tmp 68) _ _ rfl b (.slice (some ⟨gh, 0, none⟩) 1 1) (by kernel_rfl) (by kernel_rfl) _ _ hr ?_
              clear hr
              have T_ := Lib.hid hT4.swap
              have N_ := Lib.hid (N.out.lowb hb4 hgX.out)
              have B_ := Lib.hid (B.out.trans (hb4.mono (by have := hgX.out; omega)))
              have Z_ := Lib.hid (Nat.le_trans Z.out hb4.size)
              clear hT4 hk4 hb4 hg4 H Y Xx qz qh T N B Z
              have T := T_
              clear T_
              have N := N_
              clear N_
              have B := B_
              clear B_
              have Z := Z_
              clear Z_
              refine hK.out _ _ (fun _ => ⟨N.out.cell 1, N.out.cell 2⟩) ?_
              clear hK K
              try simp only [List.getElem_toArray, List.getElem_cons_zero, List.getElem_cons_succ, Act.put, List.setIfInBounds_toArray, List.set_cons_zero, List.set_cons_succ]
              refine wpAnyT_tail 12 rfl (by kernel_rfl) (by kernel_rfl) ?_
              simp only [List.drop_succ_cons, List.drop_zero]
              have x0 := (N.out).cell 0
              have x1 := (N.out).cell 1
              have x2 := (N.out).cell 2
              have x3 := (N.out).cell 3
              have xf0 := (N.out).frozen 0
              have xf1 := (N.out).frozen 1
              have xf2 := (N.out).frozen 2
              have xf3 := (N.out).frozen 3
              have xl := (N.out).lt
              go_wp2_with fail
              go_roundw
              case rel => exact ⟨m + 1, .slice A8 (m + 1) c8, .slice A9 (m + 1) c9, by omega, by go_num, Two.set (Two.set T.out N.out (by decide) hgX.out _) (N.out.set_ 1 _) (by decide) hgX.out _, Blk.set' (Blk.set' N.out 1 _ rfl) 2 _ rfl, bel_set (bel_set B.out (by dsimp only; omega) _) (by dsimp only; omega) _, Lib.hid (by simpa using Z.out)⟩
              case measure => simp [intOf]; omega
            · refine wp_value (exec_bsl (s := .tmp 67) (A := some ⟨gy, 0, none⟩) (n := v) (c := v) rfl (by kernel_rfl)) ?_
              have hbA := Lib.hid (bel_alloc (Below.refl (v1_01).heap.size (v1_01)) (.cells #[.slice (some ⟨gy, 0, none⟩) v v] 29))
              have H := Lib.hid ((Blk.new (v1_01) 29 #[.slice (some ⟨gy, 0, none⟩) v v]).cell 0)
              have qh : Hid (wc.heap.size ≤ (v1_01).heap.size) := Lib.hid (Nat.le_trans (Nat.le_refl _) qz.out)
              have T_ := Lib.hid (T.out.kept hbA.out)
              have N_ := Lib.hid (N.out.kept hbA.out)
              have Xx_ := Lib.hid (Xx.out.kept hbA.out)
              have B_ := Lib.hid (bel_eld B.out hbA.out)
              have Z_ := Lib.hid (Nat.le_trans Z.out hbA.out.size)
              have qz_ := Lib.hid (Nat.le_trans qz.out hbA.out.size)
              have G_ := Lib.hid (keepc hbA.out G.out)
              have Y_ := Lib.hid (Y.out.kept hbA.out)
              clear hbA T N Xx B Z qz G Y
              have T := T_
              clear T_
              have N := N_
              clear N_
              have Xx := Xx_
              clear Xx_
              have B := B_
              clear B_
              have Z := Z_
              clear Z_
              have qz := qz_
              clear qz_
              have G := G_
              clear G_
              have Y := Y_
              clear Y_
              generalize (v1_01).alloc (.cells #[.slice (some ⟨gy, 0, none⟩) v v] 29) = v2_11 at *
              generalize (v1_01).heap.size = gh at *
              refine hK.out _ _ (fun _ => ⟨N.out.cell 1, N.out.cell 2⟩) ?_
              clear hK K
              try simp only [List.getElem_toArray, List.getElem_cons_zero, List.getElem_cons_succ, Act.put, List.setIfInBounds_toArray, List.set_cons_zero, List.set_cons_succ]
              refine wpAnyT_one 4 (by kernel_rfl) rfl (by rfl) (fun K hK => ?_)
              obtain ⟨v4, v3_12, hr, hT4, hk4, hb4, hg4⟩ := two_app (c' := 1) 25 T.out Xx.out G.out (by omega) Z.out
              obtain ⟨A8, c8, rfl⟩ := two_shape hT4
              refine Lib.wp_append_run _ (.tmp 60) (.tmp 62) _ _ rfl a (.slice (some ⟨g3, 0, none⟩) 1 1) (by kernel_rfl) (by kernel_rfl) _ _ hr ?_
              clear hr
              have T_ := Lib.hid hT4
              have N_ := Lib.hid (N.out.lowb hb4 hgX.out)
              have Xx_ := Lib.hid (Xx.out.kb hk4)
              have B_ := Lib.hid (B.out.trans (hb4.mono (by have := hgX.out; omega)))
              have Z_ := Lib.hid (Nat.le_trans Z.out hb4.size)
              have qz_ := Lib.hid (Nat.le_trans qz.out hb4.size)
              have Y_ := Lib.hid (Y.out.kb hk4)
              have H_ := Lib.hid (grown_cell hg4 H.out (fun e => by have h1 := qa.out _ e.symm; have h2 := qh.out; dsimp only at h1; omega))
              clear hT4 hk4 hb4 hg4 G T N Xx B Z qz Y H
              have T := T_
              clear T_
              have N := N_
              clear N_
              have Xx := Xx_
              clear Xx_
              have B := B_
              clear B_
              have Z := Z_
              clear Z_
              have qz := qz_
              clear qz_
              have Y := Y_
              clear Y_
              have H := H_
              clear H_
              refine hK.out _ _ (fun _ => ⟨N.out.cell 1, N.out.cell 2⟩) ?_
              clear hK K
              try simp only [List.getElem_toArray, List.getElem_cons_zero, List.getElem_cons_succ, Act.put, List.setIfInBounds_toArray, List.set_cons_zero, List.set_cons_succ]
              have hS0 : (fun w' : World => w'.cell? ⟨g, 1, none⟩ = some a ∧ w'.cell? ⟨g, 2, none⟩ = some b) v3_12 := ⟨N.out.cell 1, N.out.cell 2⟩
              refine wpAnyT_take 20 11 (v := ?_) rfl (by kernel_rfl) (by kernel_rfl) (by kernel_rfl) (by kernel_rfl) (by kernel_rfl) (fun _ _ _ _ _ h => h) (by rfl) ?_ hS0 ?_; rotate_left; (rintro X_ ⟨hX1_, hX2_⟩; go_simp; try with_reducible rfl); try simp only [List.getElem_toArray, List.getElem_cons_zero, List.getElem_cons_succ, Act.put, List.setIfInBounds_toArray, List.set_cons_zero, List.set_cons_succ]
              clear hS0
              refine wpAnyT_one 10 (by kernel_rfl) rfl (by rfl) (fun K hK => ?_)
              obtain ⟨v5, v4_22, hr, hT4, hk4, hb4, hg4⟩ := two_app (c' := 1) 25 T.out.swap Y.out H.out (by omega) Z.out
              obtain ⟨A9, c9, rfl⟩ := two_shape hT4
              refine Lib.wp_append_run _ (.tmp 65) (.tmp 68) _ _ rfl b (.slice (some ⟨gh, 0, none⟩) 1 1) (by kernel_rfl) (by kernel_rfl) _ _ hr ?_
              clear hr
              have T_ := Lib.hid hT4.swap
              have N_ := Lib.hid (N.out.lowb hb4 hgX.out)
              have B_ := Lib.hid (B.out.trans (hb4.mono (by have := hgX.out; omega)))
              have Z_ := Lib.hid (Nat.le_trans Z.out hb4.size)
              clear hT4 hk4 hb4 hg4 H Y Xx qz qh T N B Z
              have T := T_
              clear T_
              have N := N_
              clear N_
              have B := B_
              clear B_
              have Z := Z_
              clear Z_
              refine hK.out _ _ (fun _ => ⟨N.out.cell 1, N.out.cell 2⟩) ?_
              clear hK K
              try simp only [List.getElem_toArray, List.getElem_cons_zero, List.getElem_cons_succ, Act.put, List.setIfInBounds_toArray, List.set_cons_zero, List.set_cons_succ]
              refine wpAnyT_tail 12 rfl (by kernel_rfl) (by kernel_rfl) ?_
              simp only [List.drop_succ_cons, List.drop_zero]
              have x0 := (N.out).cell 0
              have x1 := (N.out).cell 1
              have x2 := (N.out).cell 2
              have x3 := (N.out).cell 3
              have xf0 := (N.out).frozen 0
              have xf1 := (N.out).frozen 1
              have xf2 := (N.out).frozen 2
              have xf3 := (N.out).frozen 3
              have xl := (N.out).lt
              go_wp2_with fail
              go_roundw
              case rel => exact ⟨m + 1, .slice A8 (m + 1) c8, .slice A9 (m + 1) c9, by omega, by go_num, Two.set (Two.set T.out N.out (by decide) hgX.out _) (N.out.set_ 1 _) (by decide) hgX.out _, Blk.set' (Blk.set' N.out 1 _ rfl) 2 _ rfl, bel_set (bel_set B.out (by dsimp only; omega) _) (by dsimp only; omega) _, Lib.hid (by simpa using Z.out)⟩
              case measure => simp [intOf]; omega
          · refine wp_value (exec_bsl (s := .tmp 67) (A := some ⟨gy, 0, none⟩) (n := v) (c := v) rfl (by kernel_rfl)) ?_
            have hbA := Lib.hid (bel_alloc (Below.refl (v0_00).heap.size (v0_00)) (.cells #[.slice (some ⟨gy, 0, none⟩) v v] 29))
            have H := Lib.hid ((Blk.new (v0_00) 29 #[.slice (some ⟨gy, 0, none⟩) v v]).cell 0)
            have qh : Hid (wc.heap.size ≤ (v0_00).heap.size) := Lib.hid (Nat.le_trans (Nat.le_refl _) qz.out)
            have T_ := Lib.hid (T.out.kept hbA.out)
            have N_ := Lib.hid (N.out.kept hbA.out)
            have Xx_ := Lib.hid (Xx.out.kept hbA.out)
            have B_ := Lib.hid (bel_eld B.out hbA.out)
            have Z_ := Lib.hid (Nat.le_trans Z.out hbA.out.size)
            have qz_ := Lib.hid (Nat.le_trans qz.out hbA.out.size)
            have Y_ := Lib.hid (Y.out.kept hbA.out)
            clear hbA T N Xx B Z qz Y
            have T := T_
            clear T_
            have N := N_
            clear N_
            have Xx := Xx_
            clear Xx_
            have B := B_
            clear B_
            have Z := Z_
            clear Z_
            have qz := qz_
            clear qz_
            have Y := Y_
            clear Y_
            generalize (v0_00).alloc (.cells #[.slice (some ⟨gy, 0, none⟩) v v] 29) = v1_01 at *
            generalize (v0_00).heap.size = gh at *
            refine hK.out _ _ (fun _ => ⟨N.out.cell 1, N.out.cell 2⟩) ?_
            clear hK K
            try simp only [List.getElem_toArray, List.getElem_cons_zero, List.getElem_cons_succ, Act.put, List.setIfInBounds_toArray, List.set_cons_zero, List.set_cons_succ]
            refine wpAnyT_one 3 (by kernel_rfl) rfl (by rfl) (fun K hK => ?_)
            refine wp_value (exec_bsl (s := .tmp 61) (A := some ⟨gx, 0, none⟩) (n := k) (c := k) rfl (by kernel_rfl)) ?_
            have hbA := Lib.hid (bel_alloc (Below.refl (v1_01).heap.size (v1_01)) (.cells #[.slice (some ⟨gx, 0, none⟩) k k] 29))
            have G := Lib.hid ((Blk.new (v1_01) 29 #[.slice (some ⟨gx, 0, none⟩) k k]).cell 0)
            have T_ := Lib.hid (T.out.kept hbA.out)
            have N_ := Lib.hid (N.out.kept hbA.out)
            have Xx_ := Lib.hid (Xx.out.kept hbA.out)
            have B_ := Lib.hid (bel_eld B.out hbA.out)
            have Z_ := Lib.hid (Nat.le_trans Z.out hbA.out.size)
            have qz_ := Lib.hid (Nat.le_trans qz.out hbA.out.size)
            have Y_ := Lib.hid (Y.out.kept hbA.out)
            have H_ := Lib.hid (keepc hbA.out H.out)
            clear hbA T N Xx B Z qz Y H
            have T := T_
            clear T_
            have N := N_
            clear N_
            have Xx := Xx_
            clear Xx_
            have B := B_
            clear B_
            have Z := Z_
            clear Z_
            have qz := qz_
            clear qz_
            have Y := Y_
            clear Y_
            have H := H_
            clear H_
            generalize (v1_01).alloc (.cells #[.slice (some ⟨gx, 0, none⟩) k k] 29) = v2_02 at *
            generalize (v1_01).heap.size = g3 at *
            refine hK.out _ _ (fun _ => ⟨N.out.cell 1, N.out.cell 2⟩) ?_
            clear hK K
            try simp only [List.getElem_toArray, List.getElem_cons_zero, List.getElem_cons_succ, Act.put, List.setIfInBounds_toArray, List.set_cons_zero, List.set_cons_succ]
            refine wpAnyT_one 4 (by kernel_rfl) rfl (by rfl) (fun K hK => ?_)
            obtain ⟨v4, v3_12, hr, hT4, hk4, hb4, hg4⟩ := two_app (c' := 1) 25 T.out Xx.out G.out (by omega) Z.out
            obtain ⟨A8, c8, rfl⟩ := two_shape hT4
            refine Lib.wp_append_run _ (.tmp 60) (.tmp 62) _ _ rfl a (.slice (some ⟨g3, 0, none⟩) 1 1) (by kernel_rfl) (by kernel_rfl) _ _ hr ?_
            clear hr
            have T_ := Lib.hid hT4
            have N_ := Lib.hid (N.out.lowb hb4 hgX.out)
            have Xx_ := Lib.hid (Xx.out.kb hk4)
            have B_ := Lib.hid (B.out.trans (hb4.mono (by have := hgX.out; omega)))
            have Z_ := Lib.hid (Nat.le_trans Z.out hb4.size)
            have qz_ := Lib.hid (Nat.le_trans qz.out hb4.size)
            have Y_ := Lib.hid (Y.out.kb hk4)
            have H_ := Lib.hid (grown_cell hg4 H.out (fun e => by have h1 := qa.out _ e.symm; have h2 := qh.out; dsimp only at h1; omega))
            clear hT4 hk4 hb4 hg4 G T N Xx B Z qz Y H
            have T := T_
            clear T_
            have N := N_
            clear N_
            have Xx := Xx_
            clear Xx_
            have B := B_
            clear B_
            have Z := Z_
            clear Z_
            have qz := qz_
            clear qz_
            have Y := Y_
            clear Y_
            have H := H_
            clear H_
            refine hK.out _ _ (fun _ => ⟨N.out.cell 1, N.out.cell 2⟩) ?_
            clear hK K
            try simp only [List.getElem_toArray, List.getElem_cons_zero, List.getElem_cons_succ, Act.put, List.setIfInBounds_toArray, List.set_cons_zero, List.set_cons_succ]
            have hS0 : (fun w' : World => w'.cell? ⟨g, 1, none⟩ = some a ∧ w'.cell? ⟨g, 2, none⟩ = some b) v3_12 := ⟨N.out.cell 1, N.out.cell 2⟩
            refine wpAnyT_take 20 11 (v := ?_) rfl (by kernel_rfl) (by kernel_rfl) (by kernel_rfl) (by kernel_rfl) (by kernel_rfl) (fun _ _ _ _ _ h => h) (by rfl) ?_ hS0 ?_; rotate_left; (rintro X_ ⟨hX1_, hX2_⟩; go_simp; try with_reducible rfl); try simp only [List.getElem_toArray, List.getElem_cons_zero, List.getElem_cons_succ, Act.put, List.setIfInBounds_toArray, List.set_cons_zero, List.set_cons_succ]
            clear hS0
            refine wpAnyT_one 10 (by kernel_rfl) rfl (by rfl) (fun K hK => ?_)
            obtain ⟨v5, v4_22, hr, hT4, hk4, hb4, hg4⟩ := two_app (c' := 1) 25 T.out.swap Y.out H.out (by omega) Z.out
            obtain ⟨A9, c9, rfl⟩ := two_shape hT4
            refine Lib.wp_append_run _ (.tmp 65) (.tmp 68) _ _ rfl b (.slice (some ⟨gh, 0, none⟩) 1 1) (by kernel_rfl) (by kernel_rfl) _ _ hr ?_
            clear hr
            have T_ := Lib.hid hT4.swap
            have N_ := Lib.hid (N.out.lowb hb4 hgX.out)
            have B_ := Lib.hid (B.out.trans (hb4.mono (by have := hgX.out; omega)))
            have Z_ := Lib.hid (Nat.le_trans Z.out hb4.size)
            clear hT4 hk4 hb4 hg4 H Y Xx qz qh T N B Z
            have T := T_
            clear T_
            have N := N_
            clear N_
            have B := B_
            clear B_
            have Z := Z_
            clear Z_
            refine hK.out _ _ (fun _ => ⟨N.out.cell 1, N.out.cell 2⟩) ?_
            clear hK K
            try simp only [List.getElem_toArray, List.getElem_cons_zero, List.getElem_cons_succ, Act.put, List.setIfInBounds_toArray, List.set_cons_zero, List.set_cons_succ]
            refine wpAnyT_tail 12 rfl (by kernel_rfl) (by kernel_rfl) ?_
            simp only [List.drop_succ_cons, List.drop_zero]
            have x0 := (N.out).cell 0
            have x1 := (N.out).cell 1
            have x2 := (N.out).cell 2
            have x3 := (N.out).cell 3
            have xf0 := (N.out).frozen 0
            have xf1 := (N.out).frozen 1
            have xf2 := (N.out).frozen 2
            have xf3 := (N.out).frozen 3
            have xl := (N.out).lt
            go_wp2_with fail
            go_roundw
            case rel => exact ⟨m + 1, .slice A8 (m + 1) c8, .slice A9 (m + 1) c9, by omega, by go_num, Two.set (Two.set T.out N.out (by decide) hgX.out _) (N.out.set_ 1 _) (by decide) hgX.out _, Blk.set' (Blk.set' N.out 1 _ rfl) 2 _ rfl, bel_set (bel_set B.out (by dsimp only; omega) _) (by dsimp only; omega) _, Lib.hid (by simpa using Z.out)⟩
            case measure => simp [intOf]; omega
    · obtain rfl : m = A + 1 := by omega
      have hdc : decide (((A + 1 : Nat) : Int) < (A : Int) + 1) = false := decide_eq_false (by omega)
      obtain ⟨A1, c1, rfl⟩ := two_shape hT.out
      obtain ⟨A2, c2, rfl⟩ := two_shape hT.out.swap
      have HR := right_any true A1 A2 none (A + 1) c1 (A + 1) c2 0 0 (fun _ => k) (fun _ => v) (kY k) (fun _ _ => 0) (fun _ => 0) k v wr ⟨(two_rows hT.out).2.2, (two_rows hT.out.swap).2.2, SlIs.nil, by show A + 1 ≤ 1000000; omega, by show A + 1 ≤ 1000000; omega, by show 0 ≤ 1000000; omega⟩
      rw [hmore.out] at HR
      replace HR := Lib.hid HR
      obtain ⟨hc1, hm1, AA1, _, hs1, _⟩ := two_rows hT.out
      obtain ⟨hc2, hm2, AA2, _, hs2, _⟩ := two_rows hT.out.swap
      obtain ⟨b1, o1, rfl, _, _⟩ := hs1 (by omega)
      obtain ⟨b2, o2, rfl, _, _⟩ := hs2 (by omega)
      unfold maxLen at hm1 hm2
      clear hs1 hs2
      have x0 := (hN.out).cell 0
      have x1 := (hN.out).cell 1
      have x2 := (hN.out).cell 2
      have x3 := (hN.out).cell 3
      have xf0 := (hN.out).frozen 0
      have xf1 := (hN.out).frozen 1
      have xf2 := (hN.out).frozen 2
      have xf3 := (hN.out).frozen 3
      have xl := (hN.out).lt
      rw [show ((A + 1 : Nat) : Int) = (A : Int) + 1 by omega] at hdc ⊢
      go_wp2_with fail
      refine HR.out.mono ?_
      rintro e9 w9 ⟨rfl, hb9⟩
      have T := Lib.hid (hT.out.kept hb9)
      have N := Lib.hid (hN.out.kept hb9)
      have B := Lib.hid (bel_eld hB.out hb9)
      clear x0 x1 x2 x3 xf0 xf1 xf2 xf3 xl hT hN hB hZ hb9 HR
      have x0 := (N.out).cell 0
      have x1 := (N.out).cell 1
      have x2 := (N.out).cell 2
      have x3 := (N.out).cell 3
      have xf0 := (N.out).frozen 0
      have xf1 := (N.out).frozen 1
      have xf2 := (N.out).frozen 2
      have xf3 := (N.out).frozen 3
      have xl := (N.out).lt
      go_upto_region 18 with fail
      have ha1 : (0 : Int) ≤ (A : Int) := by omega
      have ha2 : (A : Int) ≤ (c1 : Int) := by omega
      have ha3 : (A : Int) ≤ (c2 : Int) := by omega
      have ha4 : ((A : Int)).toNat = A := by omega
      refine wp_region_TN (S := fun w' => w'.cell? ⟨g, 2, none⟩ = some (.slice (some ⟨b2, o2, none⟩) (A + 1) c2)) 9 12 (by kernel_rfl) rfl ?_
      have hS0 : (fun w' : World => w'.cell? ⟨g, 2, none⟩ = some (.slice (some ⟨b2, o2, none⟩) (A + 1) c2)) w9.drew := N.out.cell 2
      refine wpAnyT_take 20 4 (v := ?_) rfl (by kernel_rfl) (by kernel_rfl) (by kernel_rfl) (by kernel_rfl) (by kernel_rfl) (fun _ _ _ _ _ h => h) (by rfl) ?_ hS0 ?_; rotate_left; (rintro X_ hX1_; go_simp; try with_reducible rfl); try simp only [List.getElem_toArray, List.getElem_cons_zero, List.getElem_cons_succ, Act.put, List.setIfInBounds_toArray, List.set_cons_zero, List.set_cons_succ]
      refine wpAnyT_take 20 5 (v := ?_) rfl (by kernel_rfl) (by kernel_rfl) (by kernel_rfl) (by kernel_rfl) (by kernel_rfl) (fun _ _ _ _ _ h => h) (by rfl) ?_ hS0 ?_; rotate_left; (rintro X_ hX1_; go_simp; try with_reducible rfl); try simp only [List.getElem_toArray, List.getElem_cons_zero, List.getElem_cons_succ, Act.put, List.setIfInBounds_toArray, List.set_cons_zero, List.set_cons_succ]
      refine wpAnyT_take 20 6 (v := ?_) rfl (by kernel_rfl) (by kernel_rfl) (by kernel_rfl) (by kernel_rfl) (by kernel_rfl) (fun _ _ _ _ _ h => h) (by rfl) ?_ hS0 ?_; rotate_left; (rintro X_ hX1_; go_simp; try with_reducible rfl); try simp only [List.getElem_toArray, List.getElem_cons_zero, List.getElem_cons_succ, Act.put, List.setIfInBounds_toArray, List.set_cons_zero, List.set_cons_succ]
      refine wpAnyT_take 20 7 (v := ?_) rfl (by kernel_rfl) (by kernel_rfl) (by kernel_rfl) (by kernel_rfl) (by kernel_rfl) (fun _ _ _ _ _ h => h) (by rfl) ?_ hS0 ?_; rotate_left; (rintro X_ hX1_; go_simp; try with_reducible rfl); try simp only [List.getElem_toArray, List.getElem_cons_zero, List.getElem_cons_succ, Act.put, List.setIfInBounds_toArray, List.set_cons_zero, List.set_cons_succ]
      refine wpAnyT_take 20 0 (v := ?_) rfl (by kernel_rfl) (by kernel_rfl) (by kernel_rfl) (by kernel_rfl) (by kernel_rfl) (fun _ _ _ _ _ h => h) (by rfl) ?_ hS0 ?_; rotate_left; (rintro X_ hX1_; go_simp; try with_reducible rfl); try simp only [List.getElem_toArray, List.getElem_cons_zero, List.getElem_cons_succ, Act.put, List.setIfInBounds_toArray, List.set_cons_zero, List.set_cons_succ]
      refine wpAnyT_take 20 2 (v := ?_) rfl (by kernel_rfl) (by kernel_rfl) (by kernel_rfl) (by kernel_rfl) (by kernel_rfl) (fun _ _ _ _ _ h => h) (by rfl) ?_ hS0 ?_; rotate_left; (rintro X_ hX1_; go_simp; try with_reducible rfl); try simp only [List.getElem_toArray, List.getElem_cons_zero, List.getElem_cons_succ, Act.put, List.setIfInBounds_toArray, List.set_cons_zero, List.set_cons_succ]
      clear hS0
      refine wpAnyT_one 1 (by kernel_rfl) rfl (by rfl) (fun K hK => ?_)
      refine wp_value (v := .slice (some ⟨b1, o1, none⟩) (A + 1) c1) (w' := w9.drew) (by go_simp) ?_
      refine hK.out _ _ (fun _ => N.out.cell 2) ?_
      clear hK K
      try simp only [List.getElem_toArray, List.getElem_cons_zero, List.getElem_cons_succ, Act.put, List.setIfInBounds_toArray, List.set_cons_zero, List.set_cons_succ]
      refine wpAnyT_one 3 (by kernel_rfl) rfl (by rfl) (fun K hK => ?_)
      refine wp_value (v := .slice (some ⟨b1, o1, none⟩) A c1) (w' := w9.drew) (by go_simp) ?_
      refine hK.out _ _ (fun _ => N.out.cell 2) ?_
      clear hK K
      try simp only [List.getElem_toArray, List.getElem_cons_zero, List.getElem_cons_succ, Act.put, List.setIfInBounds_toArray, List.set_cons_zero, List.set_cons_succ]
      refine wpAnyT_one 8 (by kernel_rfl) rfl (by rfl) (fun K hK => ?_)
      refine wp_value (v := .pointer (some ⟨g, 1, none⟩)) (w' := w9.drew) (by go_simp) ?_
      refine hK.out _ _ (fun _ => N.out.cell 2) ?_
      clear hK K
      try simp only [List.getElem_toArray, List.getElem_cons_zero, List.getElem_cons_succ, Act.put, List.setIfInBounds_toArray, List.set_cons_zero, List.set_cons_succ]
      refine wpAnyT_one 9 (by kernel_rfl) rfl (by rfl) (fun K hK => ?_)
      refine wp_skip_ (w' := w9.drew.setCell ⟨g, 1, none⟩ (.slice (some ⟨b1, o1, none⟩) A c1)) (by go_simp) ?_
      refine hK.out _ _ (fun _ => ((show Blk w9.drew g 28 _ from N.out).set_ 1 _).cell 2) ?_
      clear hK K
      try simp only [List.getElem_toArray, List.getElem_cons_zero, List.getElem_cons_succ, Act.put, List.setIfInBounds_toArray, List.set_cons_zero, List.set_cons_succ]
      refine wpAnyT_tail 10 rfl (by kernel_rfl) (by kernel_rfl) ?_
      simp only [List.drop_succ_cons, List.drop_zero]
      have hX8 : Hid (g < X.heap.size) := hgX
      have Td := T.out.kept (Below.drew (Below.refl w9.heap.size w9))
      have Nd : Blk w9.drew g 28 _ := N.out
      have T2 := Lib.hid (Two.set (Two.set Td Nd (by decide) hgX.out (.slice (some ⟨b1, o1, none⟩) A c1) (j := 1)) (Nd.set_ 1 _) (by decide) hgX.out (.slice (some ⟨b2, o2, none⟩) A c2) (j := 2))
      have N2 := Lib.hid (Blk.set' (Blk.set' Nd 1 (.slice (some ⟨b1, o1, none⟩) A c1) rfl) 2 (.slice (some ⟨b2, o2, none⟩) A c2) rfl)
      have B2 := Lib.hid (bel_set (bel_set (Below.drew B.out) (p := ⟨g, 1, none⟩) (by dsimp only; omega) (.slice (some ⟨b1, o1, none⟩) A c1)) (p := ⟨g, 2, none⟩) (by dsimp only; omega) (.slice (some ⟨b2, o2, none⟩) A c2))
      clear Td Nd T N B
      go_wp2_with fail
      refine (RX.out _).mono ?_
      rintro e8 w8 ⟨rfl, hb8⟩
      have T3 := T2.out.kept hb8
      have N3 := N2.out.kept hb8
      have B3 := bel_eld B2.out hb8
      clear T2 N2 B2 hb8 x0 x1 x2 x3 xf0 xf1 xf2 xf3 xl
      have x0 := (N3).cell 0
      have x1 := (N3).cell 1
      have x2 := (N3).cell 2
      have x3 := (N3).cell 3
      have xf0 := (N3).frozen 0
      have xf1 := (N3).frozen 1
      have xf2 := (N3).frozen 2
      have xf3 := (N3).frozen 3
      have xl := (N3).lt
      have HR2 : (k = 1 → A ≤ 256) → Calls Try.prog 10 #[.agg #[.bool true, .slice (some ⟨b1, o1, none⟩) A c1, .slice (some ⟨b2, o2, none⟩) A c2, .slice none 0 0], .int .i64 k, .int .i64 v] w8 fun r w' => r = .returned (.bool true) ∧ Below w8.heap.size w8 w' := fun h => by
        have e := right_any true (some ⟨b1, o1, none⟩) (some ⟨b2, o2, none⟩) none A c1 A c2 0 0 (fun _ => k) (fun _ => v) (kY k) (fun _ _ => 0) (fun _ => 0) k v w8 ⟨(two_rows T3).2.2.take (by show A ≤ A + 1; omega), (two_rows T3.swap).2.2.take (by show A ≤ A + 1; omega), SlIs.nil, by show A ≤ 1000000; omega, by show A ≤ 1000000; omega, by show 0 ≤ 1000000; omega⟩
        rw [hright.out h] at e
        exact e
      replace B3 := Lib.hid B3
      replace N3 := Lib.hid N3
      clear T3
      by_cases hs : k = 1 ∧ 256 < A
      · obtain ⟨hs1, hs2⟩ := hs
        subst hs1
        have d2 : decide ((256 : Int) < (A : Int)) = true := decide_eq_true (by omega)
        clear HR2
        go_wp2_with fail
        go_ret
        exact ⟨rfl, B3.out⟩
      · have HR3 := Lib.hid (HR2 (fun h => by omega))
        clear HR2
        by_cases hs1 : k = 1
        · subst hs1
          have d2 : decide ((256 : Int) < (A : Int)) = false := decide_eq_false (by omega)
          go_wp2_with fail
          refine HR3.out.mono ?_
          rintro e7 w7 ⟨rfl, hb7⟩
          replace hb7 := Lib.hid (bel_eld B3.out hb7)
          go_wp2_with fail
          go_ret
          exact ⟨rfl, hb7.out⟩
        · have d1 : ((k : Int) == 1) = false := by rw [beq_eq_false_iff_ne]; omega
          go_wp2_with fail
          refine HR3.out.mono ?_
          rintro e7 w7 ⟨rfl, hb7⟩
          replace hb7 := Lib.hid (bel_eld B3.out hb7)
          go_wp2_with fail
          go_ret
          exact ⟨rfl, hb7.out⟩

set_option maxRecDepth 8000 in
set_option maxHeartbeats 8000000 in
theorem nodeCaps_no (k v : Int) (w : World) (h : ¬ capOk k v) : Calls Try.prog 3 #[.int .i64 k, .int .i64 v] w fun r w' => r = .returned (.bool true) ∧ Below w.heap.size w w' := by
  have HC := fun w => caps_any k v w
  have HD := fun w => refcaps_any k v w
  have RX := Lib.hid (fun w => nfixed_any w)
  rw [(cap_no h).1, (cap_no h).2] at HC HD
  replace HC := Lib.hid HC
  replace HD := Lib.hid HD
  have hb0 := Below.refl w.heap.size w
  clear h
  go_enter Try.func3, Try.ntmps3
  replace hb0 := Lib.hid hb0
  go_wp2_with fail
  refine (HC.out _).mono ?_
  rintro e w_1 ⟨rfl, hb_1⟩
  have z_1 := hb_1.size
  try simp at z_1
  have t_ := hb0.out
  have hB_1 := bel_eld (w := w) (X := _) (by first | ((repeat (first | with_reducible exact Below.refl _ _ | with_reducible assumption | (with_reducible refine bel_set ?_ (by first | exact Nat.le_refl _ | (simp; done) | (simp; omega) | omega) _) | with_reducible refine bel_grow ?_ _ | with_reducible refine Below.drew ?_ | with_reducible refine below_drewN ?_ _ | with_reducible refine bel_alloc ?_ _ | with_reducible refine bel_trans ?_ (by assumption))); done) | (repeat (first | exact Below.refl _ _ | assumption | refine below_drewN ?_ _ | refine bel_grow ?_ _ | refine Below.drew ?_ | refine bel_alloc ?_ _ | refine bel_set ?_ (by first | exact Nat.le_refl _ | (simp; done) | (simp; omega) | omega) _ | refine bel_trans ?_ (by assumption)))) hb_1
  clear t_
  clear hb0 hb_1
  replace hB_1 := Lib.hid hB_1
  go_wp2_with fail
  refine (HD.out _).mono ?_
  rintro e w_2 ⟨rfl, hb_2⟩
  have z_2 := hb_2.size
  try simp at z_2
  have t_ := hB_1.out
  have hB_2 := bel_eld (w := w) (X := _) (by first | ((repeat (first | with_reducible exact Below.refl _ _ | with_reducible assumption | (with_reducible refine bel_set ?_ (by first | exact Nat.le_refl _ | (simp; done) | (simp; omega) | omega) _) | with_reducible refine bel_grow ?_ _ | with_reducible refine Below.drew ?_ | with_reducible refine below_drewN ?_ _ | with_reducible refine bel_alloc ?_ _ | with_reducible refine bel_trans ?_ (by assumption))); done) | (repeat (first | exact Below.refl _ _ | assumption | refine below_drewN ?_ _ | refine bel_grow ?_ _ | refine Below.drew ?_ | refine bel_alloc ?_ _ | refine bel_set ?_ (by first | exact Nat.le_refl _ | (simp; done) | (simp; omega) | omega) _ | refine bel_trans ?_ (by assumption)))) hb_2
  clear t_
  clear hB_1 hb_2
  replace hB_2 := Lib.hid hB_2
  go_wp2_with fail
  refine (RX.out _).mono ?_
  rintro e w_3 ⟨rfl, hb_3⟩
  have z_3 := hb_3.size
  try simp at z_3
  have t_ := hB_2.out
  have hB_3 := bel_eld (w := w) (X := _) (by first | ((repeat (first | with_reducible exact Below.refl _ _ | with_reducible assumption | (with_reducible refine bel_set ?_ (by first | exact Nat.le_refl _ | (simp; done) | (simp; omega) | omega) _) | with_reducible refine bel_grow ?_ _ | with_reducible refine Below.drew ?_ | with_reducible refine below_drewN ?_ _ | with_reducible refine bel_alloc ?_ _ | with_reducible refine bel_trans ?_ (by assumption))); done) | (repeat (first | exact Below.refl _ _ | assumption | refine below_drewN ?_ _ | refine bel_grow ?_ _ | refine Below.drew ?_ | refine bel_alloc ?_ _ | refine bel_set ?_ (by first | exact Nat.le_refl _ | (simp; done) | (simp; omega) | omega) _ | refine bel_trans ?_ (by assumption)))) hb_3
  clear t_
  clear hB_2 hb_3
  replace hB_3 := Lib.hid hB_3
  go_wp2_with fail
  go_ret
  exact ⟨rfl, hB_3.out⟩
theorem nodeCaps_any (k v : Int) (w : World) : Calls Try.prog 3 #[.int .i64 k, .int .i64 v] w fun r w' => r = .returned (.bool true) ∧ Below w.heap.size w w' := by
  by_cases h : capOk k v
  · obtain ⟨a, b, rfl, rfl, h1, h2, h3⟩ := cap_nat h
    have e := (cap_yes h).1
    have hp : (0 : Int) < (a : Int) + b := by omega
    have hA1 : (1 : Int) ≤ capL a b := by rw [e, Int.le_ediv_iff_mul_le hp]; omega
    have hA2 : capL (a : Int) b ≤ 498 := by rw [e]; exact Int.ediv_le_self _ (by omega)
    exact nodeCaps_yes a b (capL a b).toNat w ⟨h1, h2⟩ h3 (by omega) (by omega)
  · exact nodeCaps_no k v w h

end Go.Proofs.Ytbmdnifkjcimcaa
