/-
  Joined: Ny Nz.
-/
import Derived.Test.YtbmdnifkjcimcaaNx
import Derived.Test.YtbmdnifkjcimcaaLate
-- Ny
namespace Go.Proofs.Ytbmdnifkjcimcaa
set_option linter.unusedVariables false
set_option linter.unusedSimpArgs false
open Go.RowKit

/-- two own rows of one-celled elements, apart -/
def TwoV (W : World) (base : Nat) (e : TypeId) (a : Value) (m : Nat) (f : Nat → Value) (b : Value) (m' : Nat) (f' : Nat → Value) : Prop :=
  OwnV W base e a m f ∧ OwnV W base e b m' f' ∧ ∀ q, a.ownBlock = some q → b.ownBlock ≠ some q
theorem TwoV.nil (W : World) (base : Nat) (e : TypeId) (f f' : Nat → Value) : TwoV W base e (.slice none 0 0) 0 f (.slice none 0 0) 0 f' :=
  ⟨OwnV.nil _ _ _ _, OwnV.nil _ _ _ _, fun q h => by simp [Value.ownBlock] at h⟩
theorem TwoV.swap {W : World} {base : Nat} {e : TypeId} {a b : Value} {m m' : Nat} {f f' : Nat → Value} (h : TwoV W base e a m f b m' f') : TwoV W base e b m' f' a m f :=
  ⟨h.2.1, h.1, fun q e1 e2 => h.2.2 q e2 e1⟩
theorem TwoV.next {W w1 : World} {base : Nat} {e : TypeId} {a a' b : Value} {m m' : Nat} {f f' : Nat → Value} (h : TwoV W base e a m f b m' f') (ho : OwnV w1 base e a' (m + 1) f) (hgr : W.grownBy w1 a.ownBlock) (hor : a'.ownBlock = a.ownBlock ∨ a'.ownBlock = some W.heap.size) : TwoV w1 base e a' (m + 1) f b m' f' := by
  obtain ⟨h1, h3, h5⟩ := h
  refine ⟨ho, ?_, fun q e1 e2 => ?_⟩
  · refine World.ownsRow.kept h3 hgr ?_
    cases hb : b.ownBlock with
    | none => exact .inl rfl
    | some q => exact .inr (fun e => h5 q e.symm hb)
  · rcases hor with h | h
    · exact h5 q (h ▸ e1) e2
    · rw [h] at e1
      injection e1 with e1
      have := (h3.lt q e2).2
      omega
theorem TwoV.kept {W w1 : World} {base : Nat} {e : TypeId} {a b : Value} {m m' : Nat} {f f' : Nat → Value} (h : TwoV W base e a m f b m' f') (hb : Below W.heap.size W w1) : TwoV w1 base e a m f b m' f' := ⟨h.1.kept hb, h.2.1.kept hb, h.2.2⟩
theorem TwoV.far {W : World} {base : Nat} {e : TypeId} {a b : Value} {m m' : Nat} {f f' : Nat → Value} (h : TwoV W base e a m f b m' f') {p : Addr} (hp : p.block < base) (u : Value) : TwoV (W.setCell p u) base e a m f b m' f' := ⟨h.1.far hp u, h.2.1.far hp u, h.2.2⟩
theorem early_own {w : World} {base : Nat} {e : TypeId} {v : Value} {n : Nat} {f : Nat → Value} (h : OwnV w base e v n f) (hb : base ≤ w.heap.size) {w1 : World} (hgr : w.grownBy w1 v.ownBlock) : Below base w w1 := Below.grown (Below.refl base w) hgr hb (fun j hj => (h.lt j hj).1)

def RL (ok : Bool) (T k v : Nat) (y : Nat → Int) (r : Ending) (w' : World) : Prop :=
  (ok = true ∧ ∃ A1 c1 A2 c2, r = .returned (.tuple #[.agg #[.bool true, .slice A1 T c1, .slice A2 T c2, .slice none 0 0], .int .i64 0]) ∧ SlIs w' A1 T (sV (fun _ => k) (fun i => shf y (2 + i * (k + v)))) ∧ SlIs w' A2 T (sV (fun _ => v) (fun i => shf y (2 + (i * (k + v) + k))))) ∨
  (ok = false ∧ r = .returned (.tuple #[.agg #[.bool false, .slice none 0 0, .slice none 0 0, .slice none 0 0], .int .i64 2]))

set_option maxRecDepth 8000 in
set_option maxHeartbeats 8000000 in
theorem refread_leaf (ok : Bool) (l k v T N : Nat) (y : Nat → Int) (kd er : Int) (st : ByteArray) (w : World) (hy : ∀ i, 0 ≤ y i ∧ y i < 256) (hk : 1 ≤ k ∧ k ≤ 24) (hv : v ≤ 108) (hl : 2 ≤ l ∧ l ≤ 500) (hN : N = cntY y) (hTN : T ≤ N) (hTl : 2 + T * (k + v) ≤ l) (hTm : T = N ∨ l < 2 + (T + 1) * (k + v))
    (HW : ∀ A1 c1 A2 c2 W, SlIs W A1 T (sV (fun _ => k) (fun i => shf y (2 + i * (k + v)))) → SlIs W A2 T (sV (fun _ => v) (fun i => shf y (2 + (i * (k + v) + k)))) → Calls Try.prog 18 #[.agg #[.bool true, .slice A1 T c1, .slice A2 T c2, .slice none 0 0], .int .i64 k, .int .i64 v] W fun r w' => r = .returned (.tuple #[.int .u8 kd, .string st, .int .i64 er]) ∧ Below W.heap.size W w')
    (hres : (er = 0 ∧ st = strF y l ∧ ok = true) ∨ (ok = false ∧ ((er != 0) = true ∨ (er = 0 ∧ (st.toList == (strF y l).toList) = false)))) :
    Calls Try.prog 22 #[.int .u8 3, .string (strF y l), .int .i64 k, .int .i64 v] w fun r w' => RL ok T k v y r w' ∧ Below w.heap.size w w' := by
  have HC := Lib.hid (fun w => refcaps_any (k : Int) (v : Int) w)
  have hb0 := Below.refl w.heap.size w
  have h1 : (capL (k : Int) (v : Int) == 0) = false := by simpa using capL_pos hk hv
  have h2 : decide ((l : Int) < 2) = false := decide_eq_false (by omega)
  have h3 : decide ((500 : Int) < (l : Int)) = false := decide_eq_false (by omega)
  have es : (strF y l).size = l := strF_size y l
  have z0 : 0 < (strF y l).size := by rw [es]; omega
  have z1 : 1 < (strF y l).size := by rw [es]; omega
  have g0 : (((strF y l)[0]'z0).toNat : Int) = y 0 := strF_at z0 (hy 0)
  have g1 : (((strF y l)[1]'z1).toNat : Int) = y 1 := strF_at z1 (hy 1)
  have yb0 := hy 0
  have yb1 := hy 1
  have hor : y 0 * 256 + y 1 = (N : Int) := by rw [hN]; unfold cntY; omega
  have hN6 : N < 65536 := by rw [hN]; exact cntY_lt y hy
  replace hor := Lib.hid hor
  replace hy := Lib.hid hy
  replace HW := Lib.hid HW
  replace hres := Lib.hid hres
  clear hN
  generalize capL (k : Int) (v : Int) = cl at *
  generalize capI (k : Int) (v : Int) = ci at *
  go_enter Try.func22, Try.ntmps22
  replace hb0 := Lib.hid hb0
  go_wp2_with fail
  refine (HC.out _).mono ?_
  rintro e w_1 ⟨rfl, hb_1⟩
  have z_1 := hb_1.size
  try simp at z_1
  have t_ := hb0.out
  have hB_1 := bel_eld (w := w) (X := _) (by first | ((repeat (first | with_reducible exact Below.refl _ _ | with_reducible assumption | (with_reducible refine bel_set ?_ (by first | exact Nat.le_refl _ | (simp; done) | (simp; omega) | omega) _) | with_reducible refine bel_grow ?_ _ | with_reducible refine Below.drew ?_ | with_reducible refine below_drewN ?_ _ | with_reducible refine bel_alloc ?_ _ | with_reducible refine bel_trans ?_ (by assumption))); done) | (repeat (first | exact Below.refl _ _ | assumption | refine below_drewN ?_ _ | refine bel_grow ?_ _ | refine Below.drew ?_ | refine bel_alloc ?_ _ | refine bel_set ?_ (by first | exact Nat.le_refl _ | (simp; done) | (simp; omega) | omega) _ | refine bel_trans ?_ (by assumption)))) hb_1
  clear t_
  have g_p : Blk w_1 (w.heap.size) 36 #[.bool false, .slice none 0 0, .slice none 0 0, .slice none 0 0] := by
    refine Blk.kept ?_ hb_1
    (repeat (first | with_reducible assumption | (with_reducible refine Blk.new' ?_; first | with_reducible rfl | (simp; done)) | with_reducible refine Blk.alloc ?_ _ | with_reducible refine Blk.grow ?_ _ | with_reducible refine Blk.drew ?_ | with_reducible refine Blk.drewN ?_ _ | (with_reducible refine Blk.far ?_ (by first | (dsimp only; omega) | (simp; omega)) _) | (with_reducible apply Blk.two) | (with_reducible refine Blk.set' ?_ _ _ ?_) | (with_reducible rfl) | rfl))
  clear hb0 hb_1
  have f_p := g_p
  clear g_p
  have p_0 : w_1.cell? ⟨w.heap.size, 0, none⟩ = some (.bool false) := (f_p).cell 0
  have p_1 : w_1.cell? ⟨w.heap.size, 1, none⟩ = some (.slice none 0 0) := (f_p).cell 1
  have p_2 : w_1.cell? ⟨w.heap.size, 2, none⟩ = some (.slice none 0 0) := (f_p).cell 2
  have p_3 : w_1.cell? ⟨w.heap.size, 3, none⟩ = some (.slice none 0 0) := (f_p).cell 3
  have p_f0 := (f_p).frozen 0
  have p_f1 := (f_p).frozen 1
  have p_f2 := (f_p).frozen 2
  have p_f3 := (f_p).frozen 3
  have p_l := (f_p).lt
  replace f_p := Lib.hid f_p
  replace hB_1 := Lib.hid hB_1
  go_upto_region 4 with fail
  first | (with_reducible refine rgrow2 (by kernel_rfl) (by kernel_rfl) ?_) | (refine rgrow (by kernel_rfl) (by kernel_rfl) ?_)
  repeat (go_big_quiet_step ((fail)))
  refine wpQuiet_nil ?_
  intro dr
  rw [hor.out]
  go_upto_region 8 with fail
  have hwg : w.heap.size < (Grow w_1 dr).heap.size := Nat.lt_of_lt_of_le p_l (grow_size w_1 dr)
  refine abs_wp (fun Y_ => Below w.heap.size w Y_ ∧ Blk Y_ (w.heap.size) 36 #[.bool false, .slice none 0 0, .slice none 0 0, .slice none 0 0] ∧ Blk Y_ ((Grow w_1 dr).heap.size) 36 #[.bool true, .slice none 0 0, .slice none 0 0, .slice none 0 0]) ?_ ?_
  · have t_B := hB_1.out
    have t_p := f_p.out
    refine ⟨by (repeat (first | with_reducible exact Below.refl _ _ | with_reducible assumption | (with_reducible refine bel_set ?_ (by first | exact Nat.le_refl _ | (simp; done) | (simp; omega) | omega) _) | with_reducible refine bel_grow ?_ _ | with_reducible refine Below.drew ?_ | with_reducible refine bel_alloc ?_ _ | with_reducible refine bel_eld ?_ (by assumption))), ?_, ?_⟩
    · (repeat (first | with_reducible assumption | (with_reducible refine Blk.new' ?_; first | with_reducible rfl | (simp; done)) | with_reducible refine Blk.alloc ?_ _ | with_reducible refine Blk.grow ?_ _ | with_reducible refine Blk.drew ?_ | with_reducible refine Blk.drewN ?_ _ | (with_reducible refine Blk.far ?_ (by first | (dsimp only; omega) | (simp; omega)) _) | (with_reducible apply Blk.two) | (with_reducible refine Blk.kept ?_ (by assumption)) | (with_reducible refine Blk.setRow ?_ (by first | rfl | (simp; done))) | (with_reducible refine Blk.setRow_far ?_ (by first | omega | (simp; omega)) _) | (with_reducible refine Blk.set' ?_ _ _ (by first | rfl | (simp; done)))))
    · (repeat (first | with_reducible assumption | (with_reducible refine Blk.new' ?_; first | with_reducible rfl | (simp; done)) | with_reducible refine Blk.alloc ?_ _ | with_reducible refine Blk.grow ?_ _ | with_reducible refine Blk.drew ?_ | with_reducible refine Blk.drewN ?_ _ | (with_reducible refine Blk.far ?_ (by first | (dsimp only; omega) | (simp; omega)) _) | (with_reducible apply Blk.two) | (with_reducible refine Blk.kept ?_ (by assumption)) | (with_reducible refine Blk.setRow ?_ (by first | rfl | (simp; done))) | (with_reducible refine Blk.setRow_far ?_ (by first | omega | (simp; omega)) _) | (with_reducible refine Blk.set' ?_ _ _ (by first | rfl | (simp; done)))))
  clear f_p p_l p_0 p_1 p_2 p_3 p_f0 p_f1 p_f2 p_f3 hB_1
  rintro X ⟨hB_2, f_p, f_q⟩
  have p_0 : X.cell? ⟨w.heap.size, 0, none⟩ = some (.bool false) := (f_p).cell 0
  have p_1 : X.cell? ⟨w.heap.size, 1, none⟩ = some (.slice none 0 0) := (f_p).cell 1
  have p_2 : X.cell? ⟨w.heap.size, 2, none⟩ = some (.slice none 0 0) := (f_p).cell 2
  have p_3 : X.cell? ⟨w.heap.size, 3, none⟩ = some (.slice none 0 0) := (f_p).cell 3
  have p_f0 := (f_p).frozen 0
  have p_f1 := (f_p).frozen 1
  have p_f2 := (f_p).frozen 2
  have p_f3 := (f_p).frozen 3
  have p_l := (f_p).lt
  replace f_p := Lib.hid f_p
  have q_0 : X.cell? ⟨(Grow w_1 dr).heap.size, 0, none⟩ = some (.bool true) := (f_q).cell 0
  have q_1 : X.cell? ⟨(Grow w_1 dr).heap.size, 1, none⟩ = some (.slice none 0 0) := (f_q).cell 1
  have q_2 : X.cell? ⟨(Grow w_1 dr).heap.size, 2, none⟩ = some (.slice none 0 0) := (f_q).cell 2
  have q_3 : X.cell? ⟨(Grow w_1 dr).heap.size, 3, none⟩ = some (.slice none 0 0) := (f_q).cell 3
  have q_f0 := (f_q).frozen 0
  have q_f1 := (f_q).frozen 1
  have q_f2 := (f_q).frozen 2
  have q_f3 := (f_q).frozen 3
  have q_l := (f_q).lt
  replace f_q := Lib.hid f_q
  replace hB_2 := Lib.hid hB_2
  generalize (Grow w_1 dr).heap.size = g at *
  have hgX : Hid (g < X.heap.size) := Lib.hid q_l
  clear p_0 p_1 p_2 p_3 p_f0 p_f1 p_f2 p_f3 p_l q_0 q_1 q_2 q_3 q_f0 q_f1 q_f2 q_f3 q_l g0 g1 z0 z1 h1 h2 h3
  obtain ⟨fK, hfK⟩ : ∃ fK : Nat → Value, fK = sV (fun _ => k) (fun i => shf y (2 + i * (k + v))) := ⟨_, rfl⟩
  obtain ⟨fV, hfV⟩ : ∃ fV : Nat → Value, fV = sV (fun _ => v) (fun i => shf y (2 + (i * (k + v) + k))) := ⟨_, rfl⟩
  replace hfK := Lib.hid hfK
  replace hfV := Lib.hid hfV
  go_wp2_with fail
  go_loopw [14, 15] (fun at_ i wr => ∃ (m P : Nat) (a b : Value), m ≤ T ∧ i = .int .i64 m ∧ at_ = .int .i64 P ∧ Hid (P = 2 + m * (k + v)) ∧ Hid (TwoV wr X.heap.size 9 a m fK b m fV) ∧ Hid (Blk wr g 36 #[.bool true, a, b, .slice none 0 0]) ∧ Hid (Blk wr w.heap.size 36 #[.bool false, .slice none 0 0, .slice none 0 0, .slice none 0 0]) ∧ Hid (Below w.heap.size w wr) ∧ Hid (X.heap.size ≤ wr.heap.size)) (fun _ i _ => T - (intOf i).toNat)
  case atStart => exact ⟨0, 2, .slice none 0 0, .slice none 0 0, by omega, rfl, rfl, Lib.hid (by simp), TwoV.nil _ _ _ _ _, f_q.out, f_p.out, hB_2.out, Nat.le_refl _⟩
  case round =>
    clear f_q f_p hB_2
    obtain ⟨m, P, a, b, hm, rfl, rfl, hP, hTw, hQ, hR, hbw, hZ⟩ := hrel
    by_cases hlt : m < T
    · have hPl : P + k + v ≤ l := by
        have e := hP.out
        have h3 : (m + 1) * (k + v) ≤ T * (k + v) := Nat.mul_le_mul_right _ (by omega)
        rw [Nat.succ_mul] at h3
        omega
      have hmN : m < N := by omega
      have hx1 : (strF y l).extract P (P + k) = strF (shf y P) k := by rw [strF_ext (by omega) (by omega), Nat.add_sub_cancel_left]
      have hx2 : (strF y l).extract (P + k) (P + k + v) = strF (shf y (P + k)) v := by rw [strF_ext (by omega) (by omega), Nat.add_sub_cancel_left]
      have W1 : IntKind.i64.wrap ((P : Int) + (k : Int)) = (P : Int) + (k : Int) ∧ 0 ≤ (P : Int) + (k : Int) ∧ (P : Int) + (k : Int) ≤ (l : Int) ∧ (P : Int) ≤ (P : Int) + (k : Int) ∧ ((P : Int) + (k : Int)).toNat = P + k := by rw [IntKind.wrap_i64]; omega
      have W2 : IntKind.i64.wrap ((P : Int) + (k : Int) + (v : Int)) = (P : Int) + (k : Int) + (v : Int) ∧ 0 ≤ (P : Int) + (k : Int) + (v : Int) ∧ (P : Int) + (k : Int) + (v : Int) ≤ (l : Int) ∧ (P : Int) + (k : Int) ≤ (P : Int) + (k : Int) + (v : Int) ∧ ((P : Int) + (k : Int) + (v : Int)).toNat = P + k + v := by rw [IntKind.wrap_i64]; omega
      have hxK : Value.string (strF (shf y P) k) = fK m := by rw [hfK.out]; unfold sV; rw [hP.out]
      have hxV : Value.string (strF (shf y (P + k)) v) = fV m := by rw [hfV.out]; unfold sV; rw [hP.out, Nat.add_assoc]
      replace W1 := Lib.hid W1
      replace W2 := Lib.hid W2
      replace hxK := Lib.hid hxK
      replace hxV := Lib.hid hxV
      have x0 := (hQ.out).cell 0
      have x1 := (hQ.out).cell 1
      have x2 := (hQ.out).cell 2
      have x3 := (hQ.out).cell 3
      have xf0 := (hQ.out).frozen 0
      have xf1 := (hQ.out).frozen 1
      have xf2 := (hQ.out).frozen 2
      have xf3 := (hQ.out).frozen 3
      have xl := (hQ.out).lt
      go_upto_region 11 with fail
      obtain ⟨u1, u2, u3, u4, u5⟩ := W1.out
      refine rlate 20 8 (by kernel_rfl) (by kernel_rfl) (fun _ _ _ _ _ h => h) ?hE11 ?hh11
      case hE11 =>
        intro o ho aa ww x w' hr
        simp at ho
        subst ho
        simp only [execOp] at hr
        generalize aa.eval = ev at hr
        simp [go_sem] at hr
        generalize ev (.tmp 83) = v at hr
        split at hr
        · simp [go_sem] at hr
          obtain ⟨rfl, rfl⟩ := hr
          exact ⟨⟨_, rfl⟩, bel_alloc (Below.refl _ _) _⟩
        · simp [go_sem] at hr
      simp only [List.take_succ_cons, List.take_zero, List.drop_succ_cons, List.drop_zero]
      iterate 8 (refine wpHead_step (v := ?_) (by rfl) ?_ ?_; rotate_left; (rintro X_ ⟨d_, rfl⟩; go_simp; try with_reducible rfl); try simp only [Act.put, List.setIfInBounds_toArray, List.set_cons_zero, List.set_cons_succ])
      refine wpHead_nil ?_
      intro dd
      clear u1 u2 u3 u4 u5
      clear x0 x1 x2 x3 xf0 xf1 xf2 xf3 xl
      have hbd := Lib.hid (grow_below wr dd)
      have kT := Lib.hid (hTw.out.kept hbd.out)
      have kQ := Lib.hid (hQ.out.kept hbd.out)
      have kR := Lib.hid (hR.out.kept hbd.out)
      have kB := Lib.hid (bel_eld hbw.out hbd.out)
      have kZ : Hid (X.heap.size ≤ (Grow wr dd).heap.size) := Lib.hid (Nat.le_trans hZ.out hbd.out.size)
      clear hTw hQ hR hbw hZ hbd
      generalize Grow wr dd = w3 at *
      go_wp2_with (at_builtin; refine wpList_appV2 rfl (.tmp 77) (.tmp 84) Try.underlying34 info_str rfl (by omega) rfl rfl rfl (OwnV.kept kT.out.1 (bel_alloc (Below.refl _ _) _)) ((Blk.new _ _ _).cell 0) hxK.out rfl (by omega) (Nat.le_trans kZ.out (by simp)) ?_; intro v1 w1 ho1 hgr hor; obtain ⟨A8, c8, rfl, _, _, _⟩ := OwnV.slis ho1; have hb1 := early_own (OwnV.kept kT.out.1 (bel_alloc (Below.refl _ _) _)) (Nat.le_trans kZ.out (by simp)) hgr; have kn1 := (kQ.out.alloc _).lowb hb1 hgX.out; have z3 : w1.cell? ⟨g, 1, none⟩ = some a := kn1.cell 1; have z3f := kn1.frozen 1; have z3l := kn1.lt; have kt1 := Lib.hid (TwoV.next (TwoV.kept kT.out (bel_alloc (Below.refl _ _) _)) ho1 hgr hor); replace kn1 := Lib.hid kn1; replace hb1 := Lib.hid hb1; clear ho1 hgr hor)
      have T8 : Hid (TwoV (w1.setCell ⟨g, 1, none⟩ (.slice A8 (m + 1) c8)) X.heap.size 9 (.slice A8 (m + 1) c8) (m + 1) fK b m fV) := Lib.hid (TwoV.far kt1.out hgX.out _)
      have Q8 : Hid (Blk (w1.setCell ⟨g, 1, none⟩ (.slice A8 (m + 1) c8)) g 36 #[.bool true, .slice A8 (m + 1) c8, b, .slice none 0 0]) := Lib.hid (Blk.set' kn1.out 1 _ rfl)
      have R8 : Hid (Blk (w1.setCell ⟨g, 1, none⟩ (.slice A8 (m + 1) c8)) w.heap.size 36 #[.bool false, .slice none 0 0, .slice none 0 0, .slice none 0 0]) := Lib.hid (Blk.far ((kR.out.alloc _).lowb hb1.out (by have := hgX.out; omega)) (by dsimp only; omega) _)
      have B8 : Hid (Below w.heap.size w (w1.setCell ⟨g, 1, none⟩ (.slice A8 (m + 1) c8))) := Lib.hid (bel_set ((bel_alloc kB.out _).trans (hb1.out.mono (by have := hgX.out; omega))) (by dsimp only; omega) _)
      have Z8 : Hid (X.heap.size ≤ (w1.setCell ⟨g, 1, none⟩ (.slice A8 (m + 1) c8)).heap.size) := by
        have t1 := kZ.out
        have t2 := hb1.out.size
        refine Lib.hid ?_
        simp at t1 t2 ⊢
        omega
      clear kT kQ kR kB kZ kn1 hb1 kt1 z3 z3f z3l
      generalize w1.setCell ⟨g, 1, none⟩ (.slice A8 (m + 1) c8) = w8 at *
      have T8s := Lib.hid T8.out.swap
      clear T8
      have x0 := (Q8.out).cell 0
      have x1 := (Q8.out).cell 1
      have x2 := (Q8.out).cell 2
      have x3 := (Q8.out).cell 3
      have xf0 := (Q8.out).frozen 0
      have xf1 := (Q8.out).frozen 1
      have xf2 := (Q8.out).frozen 2
      have xf3 := (Q8.out).frozen 3
      have xl := (Q8.out).lt
      go_upto_region 12 with fail
      obtain ⟨p1, p2, p3, p4, p5⟩ := W2.out
      obtain ⟨u1, u2, u3, u4, u5⟩ := W1.out
      refine rlate 24 12 (by kernel_rfl) (by kernel_rfl) (fun _ _ _ _ _ h => h) ?hE12 ?hh12
      case hE12 =>
        intro o ho aa ww x w' hr
        simp at ho
        subst ho
        simp only [execOp] at hr
        generalize aa.eval = ev at hr
        simp [go_sem] at hr
        generalize ev (.tmp 98) = v at hr
        split at hr
        · simp [go_sem] at hr
          obtain ⟨rfl, rfl⟩ := hr
          exact ⟨⟨_, rfl⟩, bel_alloc (Below.refl _ _) _⟩
        · simp [go_sem] at hr
      simp only [List.take_succ_cons, List.take_zero, List.drop_succ_cons, List.drop_zero]
      iterate 12 (refine wpHead_step (v := ?_) (by rfl) ?_ ?_; rotate_left; (rintro X_ ⟨d_, rfl⟩; go_simp; try with_reducible rfl); try simp only [Act.put, List.setIfInBounds_toArray, List.set_cons_zero, List.set_cons_succ])
      refine wpHead_nil ?_
      intro dd
      clear p1 p2 p3 p4 p5 u1 u2 u3 u4 u5
      clear x0 x1 x2 x3 xf0 xf1 xf2 xf3 xl
      have hbd := Lib.hid (grow_below w8 dd)
      have kT := Lib.hid (T8s.out.kept hbd.out)
      have kQ := Lib.hid (Q8.out.kept hbd.out)
      have kR := Lib.hid (R8.out.kept hbd.out)
      have kB := Lib.hid (bel_eld B8.out hbd.out)
      have kZ : Hid (X.heap.size ≤ (Grow w8 dd).heap.size) := Lib.hid (Nat.le_trans Z8.out hbd.out.size)
      clear T8s Q8 R8 B8 Z8 hbd
      generalize Grow w8 dd = w3 at *
      go_wp2_with (at_builtin; refine wpList_appV2 rfl (.tmp 88) (.tmp 99) Try.underlying34 info_str rfl (by omega) rfl rfl rfl (OwnV.kept kT.out.1 (bel_alloc (Below.refl _ _) _)) ((Blk.new _ _ _).cell 0) hxV.out rfl (by omega) (Nat.le_trans kZ.out (by simp)) ?_; intro v1 w1 ho1 hgr hor; obtain ⟨A9, c9, rfl, _, _, _⟩ := OwnV.slis ho1; have hb1 := early_own (OwnV.kept kT.out.1 (bel_alloc (Below.refl _ _) _)) (Nat.le_trans kZ.out (by simp)) hgr; have kn1 := (kQ.out.alloc _).lowb hb1 hgX.out; have z3 : w1.cell? ⟨g, 2, none⟩ = some b := kn1.cell 2; have z3f := kn1.frozen 2; have z3l := kn1.lt; have kt1 := Lib.hid (TwoV.next (TwoV.kept kT.out (bel_alloc (Below.refl _ _) _)) ho1 hgr hor); replace kn1 := Lib.hid kn1; replace hb1 := Lib.hid hb1; clear ho1 hgr hor)
      have T9 : Hid (TwoV (w1.setCell ⟨g, 2, none⟩ (.slice A9 (m + 1) c9)) X.heap.size 9 (.slice A9 (m + 1) c9) (m + 1) fV (.slice A8 (m + 1) c8) (m + 1) fK) := Lib.hid (TwoV.far kt1.out hgX.out _)
      have Q9 : Hid (Blk (w1.setCell ⟨g, 2, none⟩ (.slice A9 (m + 1) c9)) g 36 #[.bool true, .slice A8 (m + 1) c8, .slice A9 (m + 1) c9, .slice none 0 0]) := Lib.hid (Blk.set' kn1.out 2 _ rfl)
      have R9 : Hid (Blk (w1.setCell ⟨g, 2, none⟩ (.slice A9 (m + 1) c9)) w.heap.size 36 #[.bool false, .slice none 0 0, .slice none 0 0, .slice none 0 0]) := Lib.hid (Blk.far ((kR.out.alloc _).lowb hb1.out (by have := hgX.out; omega)) (by dsimp only; omega) _)
      have B9 : Hid (Below w.heap.size w (w1.setCell ⟨g, 2, none⟩ (.slice A9 (m + 1) c9))) := Lib.hid (bel_set ((bel_alloc kB.out _).trans (hb1.out.mono (by have := hgX.out; omega))) (by dsimp only; omega) _)
      have Z9 : Hid (X.heap.size ≤ (w1.setCell ⟨g, 2, none⟩ (.slice A9 (m + 1) c9)).heap.size) := by
        have t1 := kZ.out
        have t2 := hb1.out.size
        refine Lib.hid ?_
        simp at t1 t2 ⊢
        omega
      clear kT kQ kR kB kZ kn1 hb1 kt1 z3 z3f z3l
      generalize w1.setCell ⟨g, 2, none⟩ (.slice A9 (m + 1) c9) = w9 at *

      go_wp2_with fail
      go_roundw
      case rel => exact ⟨m + 1, P + k + v, .slice A8 (m + 1) c8, .slice A9 (m + 1) c9, by omega, by go_num, by first | go_num | (simp; done) | (congr 1; omega), Lib.hid (by have e := hP.out; rw [Nat.succ_mul]; omega), T9.out.swap, Q9.out, R9.out, B9.out, Z9.out⟩
      case measure => simp [intOf]; omega
    · obtain rfl : m = T := by omega
      go_upto_region 9 with fail
      go_cut [73] (fun s wx => s = .bool false ∧ wr = wx)
      case first =>
        rcases hTm with e | e
        · have d1 : decide (m < N) = false := decide_eq_false (by omega)
          go_wp2_with fail
          go_meet
          exact ⟨rfl, rfl⟩
        · have hPl : l < P + k + v := by
            have e2 := hP.out
            rw [Nat.succ_mul] at e
            omega
          have hPb : P ≤ l := by have e2 := hP.out; omega
          have d2 : decide ((P : Int) + (k : Int) + (v : Int) ≤ (l : Int)) = false := decide_eq_false (by omega)
          by_cases d1 : m < N
          · go_wp2_with fail
            go_meet
            exact ⟨rfl, rfl⟩
          · go_wp2_with fail
            go_meet
            exact ⟨rfl, rfl⟩
      case rest =>
        obtain ⟨rfl, rfl⟩ := hcut
        obtain ⟨A1, c1, rfl, _, _, hs1⟩ := hTw.out.1.slis
        obtain ⟨A2, c2, rfl, _, _, hs2⟩ := hTw.out.2.1.slis
        have HW2 := HW.out A1 c1 A2 c2 wr (by rw [← hfK.out]; exact hs1) (by rw [← hfV.out]; exact hs2)
        replace HW2 := Lib.hid HW2
        clear hs1 hs2 HW
        have x0 := (hQ.out).cell 0
        have x1 := (hQ.out).cell 1
        have x2 := (hQ.out).cell 2
        have x3 := (hQ.out).cell 3
        have xf0 := (hQ.out).frozen 0
        have xf1 := (hQ.out).frozen 1
        have xf2 := (hQ.out).frozen 2
        have xf3 := (hQ.out).frozen 3
        have xl := (hQ.out).lt
        go_wp2_with fail
        refine HW2.out.mono ?_
        rintro e9 w9 ⟨rfl, hb9⟩
        have kT := Lib.hid (hTw.out.kept hb9)
        have kQ := Lib.hid (hQ.out.kept hb9)
        have kR := Lib.hid (hR.out.kept hb9)
        have kB := Lib.hid (bel_eld hbw.out hb9)
        have hpX : Hid (w.heap.size < X.heap.size) := Lib.hid (by have := hgX.out; omega)
        clear x0 x1 x2 x3 xf0 xf1 xf2 xf3 xl hTw hQ hR hbw hb9 HW2 hZ
        have x0 := (kQ.out).cell 0
        have x1 := (kQ.out).cell 1
        have x2 := (kQ.out).cell 2
        have x3 := (kQ.out).cell 3
        have xf0 := (kQ.out).frozen 0
        have xf1 := (kQ.out).frozen 1
        have xf2 := (kQ.out).frozen 2
        have xf3 := (kQ.out).frozen 3
        have xl := (kQ.out).lt
        have z0 := (kR.out).cell 0
        have z1 := (kR.out).cell 1
        have z2 := (kR.out).cell 2
        have z3 := (kR.out).cell 3
        have zf0 := (kR.out).frozen 0
        have zf1 := (kR.out).frozen 1
        have zf2 := (kR.out).frozen 2
        have zf3 := (kR.out).frozen 3
        have zl := (kR.out).lt
        rcases hres.out with ⟨e1, e2, e3⟩ | ⟨e3, e1 | ⟨e1, e2⟩⟩
        · subst e1
          subst e2
          replace e3 := Lib.hid e3
          go_wp2_with fail
          refine abs_post (fun Y_ => Below w.heap.size w Y_ ∧ Blk Y_ w.heap.size 36 #[.bool true, .slice A1 m c1, .slice A2 m c2, .slice none 0 0] ∧ TwoV Y_ X.heap.size 9 (.slice A1 m c1) m fK (.slice A2 m c2) m fV) ⟨by have t_B := kB.out; (repeat (first | with_reducible exact Below.refl _ _ | with_reducible assumption | (with_reducible refine bel_set ?_ (by first | exact Nat.le_refl _ | (simp; done) | (simp; omega) | omega) _) | with_reducible refine bel_grow ?_ _ | with_reducible refine Below.drew ?_ | with_reducible refine below_drewN ?_ _ | with_reducible refine bel_alloc ?_ _ | with_reducible refine bel_trans ?_ (by assumption))), Blk.four kR.out _ _ _ _, (((kT.out.far (p := ⟨w.heap.size, 0, none⟩) hpX.out _).far (p := ⟨w.heap.size, 1, none⟩) hpX.out _).far (p := ⟨w.heap.size, 2, none⟩) hpX.out _).far (p := ⟨w.heap.size, 3, none⟩) hpX.out _⟩ ?_
          rintro Y_ ⟨bZ_, gP_, tZ_⟩
          obtain ⟨A1', c1', q1, _, _, hs1⟩ := tZ_.1.slis
          obtain ⟨A2', c2', q2, _, _, hs2⟩ := tZ_.2.1.slis
          cases q1
          cases q2
          have p_0 := gP_.cell 0
          have p_1 := gP_.cell 1
          have p_2 := gP_.cell 2
          have p_3 := gP_.cell 3
          have p_l := gP_.lt
          refine bodyPost_ret (v := .tuple #[.agg #[.bool true, .slice A1 m c1, .slice A2 m c2, .slice none 0 0], .int .i64 0]) (by simp [results, Try.results22, go_sem, p_0, p_1, p_2, p_3, p_l]) rfl ⟨Or.inl ⟨e3.out, A1, c1, A2, c2, rfl, by rw [← hfK.out]; exact hs1, by rw [← hfV.out]; exact hs2⟩, bZ_⟩
        all_goals (
          replace e3 := Lib.hid e3
          try subst e1
          go_wp2_with fail
          refine abs_post (fun Y_ => Below w.heap.size w Y_ ∧ Blk Y_ w.heap.size 36 #[.bool false, .slice none 0 0, .slice none 0 0, .slice none 0 0]) ⟨by have t_B := kB.out; (repeat (first | with_reducible exact Below.refl _ _ | with_reducible assumption | (with_reducible refine bel_set ?_ (by first | exact Nat.le_refl _ | (simp; done) | (simp; omega) | omega) _) | with_reducible refine bel_grow ?_ _ | with_reducible refine Below.drew ?_ | with_reducible refine below_drewN ?_ _ | with_reducible refine bel_alloc ?_ _ | with_reducible refine bel_trans ?_ (by assumption))), Blk.four kR.out _ _ _ _⟩ ?_
          rintro Y_ ⟨bZ_, gP_⟩
          have p_0 := gP_.cell 0
          have p_1 := gP_.cell 1
          have p_2 := gP_.cell 2
          have p_3 := gP_.cell 3
          have p_l := gP_.lt
          refine bodyPost_ret (v := .tuple #[.agg #[.bool false, .slice none 0 0, .slice none 0 0, .slice none 0 0], .int .i64 2]) (by simp [results, Try.results22, go_sem, p_0, p_1, p_2, p_3, p_l]) rfl ⟨Or.inr ⟨e3.out, rfl⟩, bZ_⟩)

end Go.Proofs.Ytbmdnifkjcimcaa
-- Nz
namespace Go.Proofs.Ytbmdnifkjcimcaa
set_option linter.unusedVariables false
set_option linter.unusedSimpArgs false
open Go.RowKit

set_option maxHeartbeats 1000000 in
theorem rnum_same (d : Nat → Int) (hd : ∀ i, 0 ≤ d i ∧ d i < 256) (n : Nat) (hn : n ≤ 4) (w : World) : Calls Try.prog 38 #[.string (strF d n)] w fun r w' =>
      r = .returned (.int .u32 (num d 0 n)) ∧ w' = w := by
  have es : (strF d n).size = n := strF_size d n
  replace hd := Lib.hid hd
  go_enter Try.func38, Try.ntmps38
  go_wp2
  go_loop [3, 4] (fun a i => ∃ k : Nat, k ≤ n ∧ i = .int .i64 k ∧ a = .int .u32 (num d 0 k)) (fun _ i => n - (intOf i).toNat)
  case atStart => exact ⟨0, by omega, rfl, rfl⟩
  case round =>
    obtain ⟨k, hk, rfl, rfl⟩ := hrel
    by_cases hlt : k < n
    · have hsz : k < (strF d n).size := by rw [es]; exact hlt
      have b1 := num_lo d 0 hd.out k
      have b2 : num d 0 k < 16777216 := num_small hd.out (by omega)
      have b3 := hd.out k
      go_wp2
      go_round
      case rel =>
        refine ⟨k + 1, by omega, by go_num, ?_⟩
        rw [strF_at hsz b3]
        simp only [num]
        rw [Nat.zero_add]
        congr 1
        omega
      case measure => simp [intOf]; omega
    · obtain rfl : k = n := by omega
      go_wp2
      go_ret
      exact ⟨rfl, rfl⟩

def RI (ok : Bool) (T T3 k : Nat) (y : Nat → Int) (r : Ending) (w' : World) : Prop :=
  (ok = true ∧ ∃ A1 c1 A3 c3, r = .returned (.tuple #[.agg #[.bool false, .slice A1 T3 c1, .slice none 0 0, .slice A3 T c3], .int .i64 0]) ∧ SlIs w' A1 T3 (sV (fun _ => k) (fun i => shf y (2 + T * 4 + i * k))) ∧ SlIs w' A3 T (fun i => .int .u32 (num y (2 + i * 4) 4))) ∨
  (ok = false ∧ r = .returned (.tuple #[.agg #[.bool false, .slice none 0 0, .slice none 0 0, .slice none 0 0], .int .i64 2]))

set_option maxRecDepth 8000 in
set_option maxHeartbeats 8000000 in
theorem refread_inner (ok : Bool) (l k v T T3 N : Nat) (y : Nat → Int) (kd er : Int) (st : ByteArray) (w : World) (hy : ∀ i, 0 ≤ y i ∧ y i < 256) (hk : 1 ≤ k ∧ k ≤ 24) (hv : v ≤ 108) (hl : 2 ≤ l ∧ l ≤ 500) (hN : N = cntY y) (hTN : T ≤ N) (hTl : 2 + T * 4 ≤ l) (hTm : T = N ∨ l < 2 + (T + 1) * 4)
    (hUN : T3 = 0 ∨ T3 + 1 ≤ N) (hUl : 2 + T * 4 + T3 * k ≤ l) (hUm : N ≤ T3 + 1 ∨ l < 2 + T * 4 + (T3 + 1) * k)
    (HW : ∀ A1 c1 A3 c3 W, SlIs W A1 T3 (sV (fun _ => k) (fun i => shf y (2 + T * 4 + i * k))) → SlIs W A3 T (fun i => .int .u32 (num y (2 + i * 4) 4)) → Calls Try.prog 18 #[.agg #[.bool false, .slice A1 T3 c1, .slice none 0 0, .slice A3 T c3], .int .i64 k, .int .i64 v] W fun r w' => r = .returned (.tuple #[.int .u8 kd, .string st, .int .i64 er]) ∧ Below W.heap.size W w')
    (hres : (er = 0 ∧ st = strF y l ∧ ok = true) ∨ (ok = false ∧ ((er != 0) = true ∨ (er = 0 ∧ (st.toList == (strF y l).toList) = false)))) :
    Calls Try.prog 22 #[.int .u8 4, .string (strF y l), .int .i64 k, .int .i64 v] w fun r w' => RI ok T T3 k y r w' ∧ Below w.heap.size w w' := by
  have HC := Lib.hid (fun w => refcaps_any (k : Int) (v : Int) w)
  have hb0 := Below.refl w.heap.size w
  have h1 : (capL (k : Int) (v : Int) == 0) = false := by simpa using capL_pos hk hv
  have h2 : decide ((l : Int) < 2) = false := decide_eq_false (by omega)
  have h3 : decide ((500 : Int) < (l : Int)) = false := decide_eq_false (by omega)
  have es : (strF y l).size = l := strF_size y l
  have z0 : 0 < (strF y l).size := by rw [es]; omega
  have z1 : 1 < (strF y l).size := by rw [es]; omega
  have g0 : (((strF y l)[0]'z0).toNat : Int) = y 0 := strF_at z0 (hy 0)
  have g1 : (((strF y l)[1]'z1).toNat : Int) = y 1 := strF_at z1 (hy 1)
  have yb0 := hy 0
  have yb1 := hy 1
  have hor : y 0 * 256 + y 1 = (N : Int) := by rw [hN]; unfold cntY; omega
  have hN6 : N < 65536 := by rw [hN]; exact cntY_lt y hy
  replace hor := Lib.hid hor
  replace hy := Lib.hid hy
  replace HW := Lib.hid HW
  replace hres := Lib.hid hres
  replace hUN := Lib.hid hUN
  replace hUl := Lib.hid hUl
  replace hUm := Lib.hid hUm
  clear hN
  obtain ⟨fK, hfK⟩ : ∃ fK : Nat → Value, fK = sV (fun _ => k) (fun i => shf y (2 + T * 4 + i * k)) := ⟨_, rfl⟩
  obtain ⟨fC, hfC⟩ : ∃ fC : Nat → Value, fC = fun i => .int .u32 (num y (2 + i * 4) 4) := ⟨_, rfl⟩
  replace hfK := Lib.hid hfK
  replace hfC := Lib.hid hfC
  generalize capL (k : Int) (v : Int) = cl at *
  generalize capI (k : Int) (v : Int) = ci at *
  go_enter Try.func22, Try.ntmps22
  replace hb0 := Lib.hid hb0
  go_wp2_with fail
  refine (HC.out _).mono ?_
  rintro e w_1 ⟨rfl, hb_1⟩
  have z_1 := hb_1.size
  try simp at z_1
  have t_ := hb0.out
  have hB_1 := bel_eld (w := w) (X := _) (by first | ((repeat (first | with_reducible exact Below.refl _ _ | with_reducible assumption | (with_reducible refine bel_set ?_ (by first | exact Nat.le_refl _ | (simp; done) | (simp; omega) | omega) _) | with_reducible refine bel_grow ?_ _ | with_reducible refine Below.drew ?_ | with_reducible refine below_drewN ?_ _ | with_reducible refine bel_alloc ?_ _ | with_reducible refine bel_trans ?_ (by assumption))); done) | (repeat (first | exact Below.refl _ _ | assumption | refine below_drewN ?_ _ | refine bel_grow ?_ _ | refine Below.drew ?_ | refine bel_alloc ?_ _ | refine bel_set ?_ (by first | exact Nat.le_refl _ | (simp; done) | (simp; omega) | omega) _ | refine bel_trans ?_ (by assumption)))) hb_1
  clear t_
  have g_p : Blk w_1 (w.heap.size) 36 #[.bool false, .slice none 0 0, .slice none 0 0, .slice none 0 0] := by
    refine Blk.kept ?_ hb_1
    (repeat (first | with_reducible assumption | (with_reducible refine Blk.new' ?_; first | with_reducible rfl | (simp; done)) | with_reducible refine Blk.alloc ?_ _ | with_reducible refine Blk.grow ?_ _ | with_reducible refine Blk.drew ?_ | with_reducible refine Blk.drewN ?_ _ | (with_reducible refine Blk.far ?_ (by first | (dsimp only; omega) | (simp; omega)) _) | (with_reducible apply Blk.two) | (with_reducible refine Blk.set' ?_ _ _ ?_) | (with_reducible rfl) | rfl))
  clear hb0 hb_1
  have f_p := g_p
  clear g_p
  have p_0 : w_1.cell? ⟨w.heap.size, 0, none⟩ = some (.bool false) := (f_p).cell 0
  have p_1 : w_1.cell? ⟨w.heap.size, 1, none⟩ = some (.slice none 0 0) := (f_p).cell 1
  have p_2 : w_1.cell? ⟨w.heap.size, 2, none⟩ = some (.slice none 0 0) := (f_p).cell 2
  have p_3 : w_1.cell? ⟨w.heap.size, 3, none⟩ = some (.slice none 0 0) := (f_p).cell 3
  have p_f0 := (f_p).frozen 0
  have p_f1 := (f_p).frozen 1
  have p_f2 := (f_p).frozen 2
  have p_f3 := (f_p).frozen 3
  have p_l := (f_p).lt
  replace f_p := Lib.hid f_p
  replace hB_1 := Lib.hid hB_1
  go_upto_region 4 with fail
  first | (with_reducible refine rgrow2 (by kernel_rfl) (by kernel_rfl) ?_) | (refine rgrow (by kernel_rfl) (by kernel_rfl) ?_)
  repeat (go_big_quiet_step ((fail)))
  refine wpQuiet_nil ?_
  intro dr
  rw [hor.out]
  go_upto_region 14 with fail
  have hwg : w.heap.size < (Grow w_1 dr).heap.size := Nat.lt_of_lt_of_le p_l (grow_size w_1 dr)
  refine abs_wp (fun Y_ => Below w.heap.size w Y_ ∧ Blk Y_ (w.heap.size) 36 #[.bool false, .slice none 0 0, .slice none 0 0, .slice none 0 0] ∧ Blk Y_ ((Grow w_1 dr).heap.size) 36 #[.bool false, .slice none 0 0, .slice none 0 0, .slice none 0 0]) ?_ ?_
  · have t_B := hB_1.out
    have t_p := f_p.out
    refine ⟨by (repeat (first | with_reducible exact Below.refl _ _ | with_reducible assumption | (with_reducible refine bel_set ?_ (by first | exact Nat.le_refl _ | (simp; done) | (simp; omega) | omega) _) | with_reducible refine bel_grow ?_ _ | with_reducible refine Below.drew ?_ | with_reducible refine bel_alloc ?_ _ | with_reducible refine bel_eld ?_ (by assumption))), ?_, ?_⟩
    · (repeat (first | with_reducible assumption | (with_reducible refine Blk.new' ?_; first | with_reducible rfl | (simp; done)) | with_reducible refine Blk.alloc ?_ _ | with_reducible refine Blk.grow ?_ _ | with_reducible refine Blk.drew ?_ | with_reducible refine Blk.drewN ?_ _ | (with_reducible refine Blk.far ?_ (by first | (dsimp only; omega) | (simp; omega)) _) | (with_reducible apply Blk.two) | (with_reducible refine Blk.kept ?_ (by assumption)) | (with_reducible refine Blk.setRow ?_ (by first | rfl | (simp; done))) | (with_reducible refine Blk.setRow_far ?_ (by first | omega | (simp; omega)) _) | (with_reducible refine Blk.set' ?_ _ _ (by first | rfl | (simp; done)))))
    · (repeat (first | with_reducible assumption | (with_reducible refine Blk.new' ?_; first | with_reducible rfl | (simp; done)) | with_reducible refine Blk.alloc ?_ _ | with_reducible refine Blk.grow ?_ _ | with_reducible refine Blk.drew ?_ | with_reducible refine Blk.drewN ?_ _ | (with_reducible refine Blk.far ?_ (by first | (dsimp only; omega) | (simp; omega)) _) | (with_reducible apply Blk.two) | (with_reducible refine Blk.kept ?_ (by assumption)) | (with_reducible refine Blk.setRow ?_ (by first | rfl | (simp; done))) | (with_reducible refine Blk.setRow_far ?_ (by first | omega | (simp; omega)) _) | (with_reducible refine Blk.set' ?_ _ _ (by first | rfl | (simp; done)))))
  clear f_p p_l p_0 p_1 p_2 p_3 p_f0 p_f1 p_f2 p_f3 hB_1
  rintro X ⟨hB_2, f_p, f_q⟩
  have p_0 : X.cell? ⟨w.heap.size, 0, none⟩ = some (.bool false) := (f_p).cell 0
  have p_1 : X.cell? ⟨w.heap.size, 1, none⟩ = some (.slice none 0 0) := (f_p).cell 1
  have p_2 : X.cell? ⟨w.heap.size, 2, none⟩ = some (.slice none 0 0) := (f_p).cell 2
  have p_3 : X.cell? ⟨w.heap.size, 3, none⟩ = some (.slice none 0 0) := (f_p).cell 3
  have p_f0 := (f_p).frozen 0
  have p_f1 := (f_p).frozen 1
  have p_f2 := (f_p).frozen 2
  have p_f3 := (f_p).frozen 3
  have p_l := (f_p).lt
  replace f_p := Lib.hid f_p
  have q_0 : X.cell? ⟨(Grow w_1 dr).heap.size, 0, none⟩ = some (.bool false) := (f_q).cell 0
  have q_1 : X.cell? ⟨(Grow w_1 dr).heap.size, 1, none⟩ = some (.slice none 0 0) := (f_q).cell 1
  have q_2 : X.cell? ⟨(Grow w_1 dr).heap.size, 2, none⟩ = some (.slice none 0 0) := (f_q).cell 2
  have q_3 : X.cell? ⟨(Grow w_1 dr).heap.size, 3, none⟩ = some (.slice none 0 0) := (f_q).cell 3
  have q_f0 := (f_q).frozen 0
  have q_f1 := (f_q).frozen 1
  have q_f2 := (f_q).frozen 2
  have q_f3 := (f_q).frozen 3
  have q_l := (f_q).lt
  replace f_q := Lib.hid f_q
  replace hB_2 := Lib.hid hB_2
  generalize (Grow w_1 dr).heap.size = g at *
  have hgX : Hid (g < X.heap.size) := Lib.hid q_l
  clear p_0 p_1 p_2 p_3 p_f0 p_f1 p_f2 p_f3 p_l q_0 q_1 q_2 q_3 q_f0 q_f1 q_f2 q_f3 q_l g0 g1 z0 z1 h1 h2 h3
  go_wp2_with fail
  go_loopw [14, 16] (fun at_ i wr => ∃ (m P : Nat) (a : Value), m ≤ T ∧ i = .int .i64 m ∧ at_ = .int .i64 P ∧ Hid (P = 2 + m * 4) ∧ Hid (OwnV wr X.heap.size 62 a m fC) ∧ Hid (Blk wr g 36 #[.bool false, .slice none 0 0, .slice none 0 0, a]) ∧ Hid (Blk wr w.heap.size 36 #[.bool false, .slice none 0 0, .slice none 0 0, .slice none 0 0]) ∧ Hid (Below w.heap.size w wr) ∧ Hid (X.heap.size ≤ wr.heap.size)) (fun _ i _ => T - (intOf i).toNat)
  case atStart => exact ⟨0, 2, .slice none 0 0, by omega, rfl, rfl, Lib.hid (by simp), OwnV.nil _ _ _ _, f_q.out, f_p.out, hB_2.out, Nat.le_refl _⟩
  case round =>
    clear f_q f_p hB_2
    obtain ⟨m, P, a, hm, rfl, rfl, hP, hO, hQ, hR, hbw, hZ⟩ := hrel
    by_cases hlt : m < T
    · have hPl : P + 4 ≤ l := by
        have e := hP.out
        omega
      have hmN : m < N := by omega
      have hx1 : (strF y l).extract P (P + 4) = strF (shf y P) 4 := by rw [strF_ext (by omega) (by omega), Nat.add_sub_cancel_left]
      have W1 : IntKind.i64.wrap ((P : Int) + 4) = (P : Int) + 4 ∧ 0 ≤ (P : Int) + 4 ∧ (P : Int) + 4 ≤ (l : Int) ∧ (P : Int) ≤ (P : Int) + 4 ∧ ((P : Int) + 4).toNat = P + 4 := by rw [IntKind.wrap_i64]; omega
      have hxC : Value.int .u32 (num (shf y P) 0 4) = fC m := by rw [hfC.out, num_shf, hP.out]
      have HNu := Lib.hid (fun W => rnum_same (shf y P) (fun i => hy.out _) 4 (by omega) W)
      replace W1 := Lib.hid W1
      replace hxC := Lib.hid hxC
      have x0 := (hQ.out).cell 0
      have x1 := (hQ.out).cell 1
      have x2 := (hQ.out).cell 2
      have x3 := (hQ.out).cell 3
      have xf0 := (hQ.out).frozen 0
      have xf1 := (hQ.out).frozen 1
      have xf2 := (hQ.out).frozen 2
      have xf3 := (hQ.out).frozen 3
      have xl := (hQ.out).lt
      go_upto_region 17 with fail
      obtain ⟨u1, u2, u3, u4, u5⟩ := W1.out
      go_region_law (first
        | (go_simp; go_at_call 38; refine (HNu.out _).mono ?_; rintro e9 w9 ⟨rfl, rfl⟩)
        | (refine step_appV2 (x := .int .u32 (num (shf y P) 0 4)) rfl (.tmp 120) (.tmp 127) (t := 26) (e := 62) Try.underlying26 info_u32 rfl (by omega) rfl rfl rfl (OwnV.kept hO.out (bel_alloc (Below.drew (Below.refl _ _)) _)) ((Blk.new' (by simp)).cell 0) hxC.out rfl (by omega) (Nat.le_trans hZ.out (bel_alloc (Below.drew (Below.refl _ _)) _).size) ?_; intro v1 w1 ho1 hgr hor1; obtain ⟨A8, c8, rfl, _, _, _⟩ := OwnV.slis ho1; have hb1 := early_own (OwnV.kept hO.out (bel_alloc (Below.drew (Below.refl _ _)) _)) (Nat.le_trans hZ.out (bel_alloc (Below.drew (Below.refl _ _)) _).size) hgr; have kn1 := ((Blk.drew hQ.out).alloc _).lowb hb1 hgX.out; have z3 : w1.cell? ⟨g, 3, none⟩ = some a := kn1.cell 3; have z3f := kn1.frozen 3; have z3l := kn1.lt; replace kn1 := Lib.hid kn1; replace hb1 := Lib.hid hb1; replace ho1 := Lib.hid ho1; clear hgr hor1))
      all_goals (
        clear z3 z3f z3l
        go_wp2_with fail
        go_roundw
        case rel => exact ⟨m + 1, P + 4, .slice A8 (m + 1) c8, by omega, by go_num, by first | go_num | (simp; done) | (congr 1; omega), Lib.hid (by have e := hP.out; omega), OwnV.far (p := ⟨g, 3, none⟩) ho1.out hgX.out _, Blk.set' kn1.out 3 _ rfl, Blk.far (((Blk.drew hR.out).alloc _).lowb hb1.out (by have := hgX.out; omega)) (by dsimp only; omega) _, bel_set ((bel_alloc (Below.drew hbw.out) _).trans (hb1.out.mono (by have := hgX.out; omega))) (by dsimp only; omega) _, (by
          have t1 := hZ.out
          have t2 := hb1.out.size
          show _ ≤ _
          have t3 : wr.drew.heap.size = wr.heap.size := rfl
          simp at t1 t2 t3 ⊢
          omega)⟩
        case measure => simp [intOf]; omega)
    · obtain rfl : m = T := by omega
      go_upto_region 15 with fail
      go_cut [116] (fun s wx => s = .bool false ∧ wr = wx)
      case first =>
        rcases hTm with e | e
        · have d1 : decide (m < N) = false := decide_eq_false (by omega)
          go_wp2_with fail
          go_meet
          exact ⟨rfl, rfl⟩
        · have hPl : l < P + 4 := by
            have e2 := hP.out
            omega
          have hPb : P ≤ l := by have e2 := hP.out; omega
          have d2 : decide ((P : Int) + 4 ≤ (l : Int)) = false := decide_eq_false (by omega)
          by_cases d1 : m < N
          · go_wp2_with fail
            go_meet
            exact ⟨rfl, rfl⟩
          · go_wp2_with fail
            go_meet
            exact ⟨rfl, rfl⟩
      case rest =>
        obtain ⟨rfl, rfl⟩ := hcut
        obtain ⟨W1, rfl⟩ : ∃ W1, W1 = wr := ⟨wr, rfl⟩
        have hq : Hid (∀ q, a.ownBlock = some q → q < W1.heap.size) := Lib.hid (fun q e => (hO.out.own_ge e).2)
        have hgW : Hid (g < W1.heap.size) := Lib.hid (Nat.lt_of_lt_of_le hgX.out hZ.out)
        go_wp2_with fail
        go_loopw [14, 17] (fun at_ i wr => ∃ (m_ P : Nat) (b : Value), m_ ≤ T3 ∧ i = .int .i64 ((m_ : Int) + 1) ∧ at_ = .int .i64 P ∧ Hid (P = 2 + m * 4 + m_ * k) ∧ Hid (OwnV wr W1.heap.size 9 b m_ fK) ∧ Hid (OwnV wr X.heap.size 62 a m fC) ∧ Hid (Blk wr g 36 #[.bool false, b, .slice none 0 0, a]) ∧ Hid (Blk wr w.heap.size 36 #[.bool false, .slice none 0 0, .slice none 0 0, .slice none 0 0]) ∧ Hid (Below w.heap.size w wr) ∧ Hid (W1.heap.size ≤ wr.heap.size)) (fun _ i _ => T3 + 1 - (intOf i).toNat)
        case atStart => exact ⟨0, P, .slice none 0 0, by omega, by simp, rfl, Lib.hid (by have := hP.out; omega), OwnV.nil _ _ _ _, hO.out, hQ.out, hR.out, hbw.out, Nat.le_refl _⟩
        case round =>
          clear hQ hR hbw hO hZ hP hm hlt hTN hTm
          obtain ⟨m_, P, b, hm, rfl, rfl, hP, hO, hA, hQ, hR, hbw, hZ⟩ := hrel
          by_cases hlt : m_ < T3
          · have hPl : P + k ≤ l := by
              have e := hP.out
              have e2 := hUl.out
              have h3 : (m_ + 1) * k ≤ T3 * k := Nat.mul_le_mul_right _ (by omega)
              rw [Nat.succ_mul] at h3
              omega
            have hmN : ((m_ : Int) + 1) < (N : Int) := by have := hUN.out; omega
            have hx1 : (strF y l).extract P (P + k) = strF (shf y P) k := by rw [strF_ext (by omega) (by omega), Nat.add_sub_cancel_left]
            have W1_ : IntKind.i64.wrap ((P : Int) + (k : Int)) = (P : Int) + (k : Int) ∧ 0 ≤ (P : Int) + (k : Int) ∧ (P : Int) + (k : Int) ≤ (l : Int) ∧ (P : Int) ≤ (P : Int) + (k : Int) ∧ ((P : Int) + (k : Int)).toNat = P + k := by rw [IntKind.wrap_i64]; omega
            have hxK : Value.string (strF (shf y P) k) = fK m_ := by rw [hfK.out]; unfold sV; rw [hP.out]
            have hT5 : m_ ≤ 600 := by
              have e := hP.out
              have : m_ * 1 ≤ m_ * k := Nat.mul_le_mul_left _ (by omega)
              omega
            replace W1_ := Lib.hid W1_
            replace hxK := Lib.hid hxK
            have x0 := (hQ.out).cell 0
            have x1 := (hQ.out).cell 1
            have x2 := (hQ.out).cell 2
            have x3 := (hQ.out).cell 3
            have xf0 := (hQ.out).frozen 0
            have xf1 := (hQ.out).frozen 1
            have xf2 := (hQ.out).frozen 2
            have xf3 := (hQ.out).frozen 3
            have xl := (hQ.out).lt
            go_upto_region 22 with fail
            obtain ⟨u1, u2, u3, u4, u5⟩ := W1_.out
            refine rlate 20 8 (by kernel_rfl) (by kernel_rfl) (fun _ _ _ _ _ h => h) ?hE22 ?hh22
            case hE22 =>
              intro o ho aa ww x w' hr
              simp at ho
              subst ho
              simp only [execOp] at hr
              generalize aa.eval = ev at hr
              simp [go_sem] at hr
              generalize ev (.tmp 152) = v at hr
              split at hr
              · simp [go_sem] at hr
                obtain ⟨rfl, rfl⟩ := hr
                exact ⟨⟨_, rfl⟩, bel_alloc (Below.refl _ _) _⟩
              · simp [go_sem] at hr
            simp only [List.take_succ_cons, List.take_zero, List.drop_succ_cons, List.drop_zero]
            iterate 8 (refine wpHead_step (v := ?_) (by rfl) ?_ ?_; rotate_left; (rintro X_ ⟨d_, rfl⟩; go_simp; try with_reducible rfl); try simp only [Act.put, List.setIfInBounds_toArray, List.set_cons_zero, List.set_cons_succ])
            refine wpHead_nil ?_
            intro dd
            clear u1 u2 u3 u4 u5 x0 x1 x2 x3 xf0 xf1 xf2 xf3 xl
            have hbd := Lib.hid (grow_below wr dd)
            have kO := Lib.hid (hO.out.kept hbd.out)
            have kA := Lib.hid (hA.out.kept hbd.out)
            have kQ := Lib.hid (hQ.out.kept hbd.out)
            have kR := Lib.hid (hR.out.kept hbd.out)
            have kB := Lib.hid (bel_eld hbw.out hbd.out)
            have kZ : Hid (W1.heap.size ≤ (Grow wr dd).heap.size) := Lib.hid (Nat.le_trans hZ.out hbd.out.size)
            clear hO hA hQ hR hbw hZ hbd
            generalize Grow wr dd = w3 at *
            go_wp2_with (at_builtin; refine wpList_appV2 rfl (.tmp 146) (.tmp 153) Try.underlying34 info_str rfl (by omega) rfl rfl rfl (OwnV.kept kO.out (bel_alloc (Below.refl _ _) _)) ((Blk.new _ _ _).cell 0) hxK.out rfl (by omega) (Nat.le_trans kZ.out (by simp)) ?_; intro v1 w1 ho1 hgr hor1; obtain ⟨A8, c8, rfl, _, _, _⟩ := OwnV.slis ho1; have hb1 := early_own (OwnV.kept kO.out (bel_alloc (Below.refl _ _) _)) (Nat.le_trans kZ.out (by simp)) hgr; have kn1 := (kQ.out.alloc _).lowb hb1 hgW.out; have z3 : w1.cell? ⟨g, 1, none⟩ = some b := kn1.cell 1; have z3f := kn1.frozen 1; have z3l := kn1.lt; have kA1 : OwnV w1 X.heap.size 62 a m fC := World.ownsRow.kept (OwnV.kept kA.out (bel_alloc (Below.refl _ _) _)) hgr (by cases hb : a.ownBlock with | none => exact .inl rfl | some q => exact .inr (fun e => by have h9 := hq.out q hb; have h8 := (kO.out.own_ge e.symm).1; omega)); replace kA1 := Lib.hid kA1; replace kn1 := Lib.hid kn1; replace hb1 := Lib.hid hb1; replace ho1 := Lib.hid ho1; clear hgr hor1)
            clear z3 z3f z3l
            go_roundw
            case rel => exact ⟨m_ + 1, P + k, .slice A8 (m_ + 1) c8, by omega, by first | go_num | (simp; done) | (congr 1; omega), by first | go_num | (simp; done) | (congr 1; omega), Lib.hid (by have e := hP.out; rw [Nat.succ_mul]; omega), OwnV.far (p := ⟨g, 1, none⟩) ho1.out hgW.out _, OwnV.far (p := ⟨g, 1, none⟩) kA1.out hgX.out _, Blk.set' kn1.out 1 _ rfl, Blk.far ((kR.out.alloc _).lowb hb1.out (by have := hgW.out; omega)) (by dsimp only; omega) _, bel_set ((bel_alloc kB.out _).trans (hb1.out.mono (by have := hgW.out; omega))) (by dsimp only; omega) _, (by
              have t1 := kZ.out
              have t2 := hb1.out.size
              show _ ≤ _
              simp at t1 t2 ⊢
              omega)⟩
            case measure => simp [intOf]; omega
          · obtain rfl : m_ = T3 := by omega
            go_upto_region 20 with fail
            go_cut [142] (fun s wx => s = .bool false ∧ wr = wx)
            case first =>
              rcases hUm.out with e | e
              · have d1 : decide ((m_ : Int) + 1 < (N : Int)) = false := decide_eq_false (by omega)
                go_wp2_with fail
                go_meet
                exact ⟨rfl, rfl⟩
              · have hPl : l < P + k := by
                  have e2 := hP.out
                  rw [Nat.succ_mul] at e
                  omega
                have hPb : P ≤ l := by have e2 := hP.out; have e3 := hUl.out; omega
                have d2 : decide ((P : Int) + (k : Int) ≤ (l : Int)) = false := decide_eq_false (by omega)
                by_cases d1 : (m_ : Int) + 1 < (N : Int)
                · go_wp2_with fail
                  go_meet
                  exact ⟨rfl, rfl⟩
                · go_wp2_with fail
                  go_meet
                  exact ⟨rfl, rfl⟩
            case rest =>
              obtain ⟨rfl, rfl⟩ := hcut
              obtain ⟨A1, c1, rfl, _, _, hs1⟩ := hO.out.slis
              obtain ⟨A3, c3, rfl, _, _, hs2⟩ := hA.out.slis
              have HW2 := HW.out A1 c1 A3 c3 wr (by rw [← hfK.out]; exact hs1) (by rw [← hfC.out]; exact hs2)
              replace HW2 := Lib.hid HW2
              clear hs1 hs2 HW
              have x0 := (hQ.out).cell 0
              have x1 := (hQ.out).cell 1
              have x2 := (hQ.out).cell 2
              have x3 := (hQ.out).cell 3
              have xf0 := (hQ.out).frozen 0
              have xf1 := (hQ.out).frozen 1
              have xf2 := (hQ.out).frozen 2
              have xf3 := (hQ.out).frozen 3
              have xl := (hQ.out).lt
              go_wp2_with fail
              refine HW2.out.mono ?_
              rintro e9 w9 ⟨rfl, hb9⟩
              have kO := Lib.hid (hO.out.kept hb9)
              have kA := Lib.hid (hA.out.kept hb9)
              have kQ := Lib.hid (hQ.out.kept hb9)
              have kR := Lib.hid (hR.out.kept hb9)
              have kB := Lib.hid (bel_eld hbw.out hb9)
              have hpX : Hid (w.heap.size < X.heap.size) := Lib.hid (by have := hgX.out; omega)
              have hpW : Hid (w.heap.size < W1.heap.size) := Lib.hid (by have := hgW.out; omega)
              clear x0 x1 x2 x3 xf0 xf1 xf2 xf3 xl hO hA hQ hR hbw hb9 HW2 hZ
              have x0 := (kQ.out).cell 0
              have x1 := (kQ.out).cell 1
              have x2 := (kQ.out).cell 2
              have x3 := (kQ.out).cell 3
              have xf0 := (kQ.out).frozen 0
              have xf1 := (kQ.out).frozen 1
              have xf2 := (kQ.out).frozen 2
              have xf3 := (kQ.out).frozen 3
              have xl := (kQ.out).lt
              have z0 := (kR.out).cell 0
              have z1 := (kR.out).cell 1
              have z2 := (kR.out).cell 2
              have z3 := (kR.out).cell 3
              have zf0 := (kR.out).frozen 0
              have zf1 := (kR.out).frozen 1
              have zf2 := (kR.out).frozen 2
              have zf3 := (kR.out).frozen 3
              have zl := (kR.out).lt
              rcases hres.out with ⟨e1, e2, e3⟩ | ⟨e3, e1 | ⟨e1, e2⟩⟩
              · subst e1
                subst e2
                replace e3 := Lib.hid e3
                go_wp2_with fail
                refine abs_post (fun Y_ => Below w.heap.size w Y_ ∧ Blk Y_ w.heap.size 36 #[.bool false, .slice A1 m_ c1, .slice none 0 0, .slice A3 m c3] ∧ OwnV Y_ W1.heap.size 9 (.slice A1 m_ c1) m_ fK ∧ OwnV Y_ X.heap.size 62 (.slice A3 m c3) m fC) ⟨by have t_B := kB.out; (repeat (first | with_reducible exact Below.refl _ _ | with_reducible assumption | (with_reducible refine bel_set ?_ (by first | exact Nat.le_refl _ | (simp; done) | (simp; omega) | omega) _) | with_reducible refine bel_grow ?_ _ | with_reducible refine Below.drew ?_ | with_reducible refine below_drewN ?_ _ | with_reducible refine bel_alloc ?_ _ | with_reducible refine bel_trans ?_ (by assumption))), Blk.four kR.out _ _ _ _, (((kO.out.far (p := ⟨w.heap.size, 0, none⟩) hpW.out _).far (p := ⟨w.heap.size, 1, none⟩) hpW.out _).far (p := ⟨w.heap.size, 2, none⟩) hpW.out _).far (p := ⟨w.heap.size, 3, none⟩) hpW.out _, (((kA.out.far (p := ⟨w.heap.size, 0, none⟩) hpX.out _).far (p := ⟨w.heap.size, 1, none⟩) hpX.out _).far (p := ⟨w.heap.size, 2, none⟩) hpX.out _).far (p := ⟨w.heap.size, 3, none⟩) hpX.out _⟩ ?_
                rintro Y_ ⟨bZ_, gP_, tZ_, sZ_⟩
                obtain ⟨A1', c1', q1, _, _, hs1⟩ := tZ_.slis
                obtain ⟨A2', c2', q2, _, _, hs2⟩ := sZ_.slis
                cases q1
                cases q2
                have p_0 := gP_.cell 0
                have p_1 := gP_.cell 1
                have p_2 := gP_.cell 2
                have p_3 := gP_.cell 3
                have p_l := gP_.lt
                refine bodyPost_ret (v := .tuple #[.agg #[.bool false, .slice A1 m_ c1, .slice none 0 0, .slice A3 m c3], .int .i64 0]) (by simp [results, Try.results22, go_sem, p_0, p_1, p_2, p_3, p_l]) rfl ⟨Or.inl ⟨e3.out, A1, c1, A3, c3, rfl, by rw [← hfK.out]; exact hs1, by rw [← hfC.out]; exact hs2⟩, bZ_⟩
              all_goals (
                replace e3 := Lib.hid e3
                try subst e1
                go_wp2_with fail
                refine abs_post (fun Y_ => Below w.heap.size w Y_ ∧ Blk Y_ w.heap.size 36 #[.bool false, .slice none 0 0, .slice none 0 0, .slice none 0 0]) ⟨by have t_B := kB.out; (repeat (first | with_reducible exact Below.refl _ _ | with_reducible assumption | (with_reducible refine bel_set ?_ (by first | exact Nat.le_refl _ | (simp; done) | (simp; omega) | omega) _) | with_reducible refine bel_grow ?_ _ | with_reducible refine Below.drew ?_ | with_reducible refine below_drewN ?_ _ | with_reducible refine bel_alloc ?_ _ | with_reducible refine bel_trans ?_ (by assumption))), Blk.four kR.out _ _ _ _⟩ ?_
                rintro Y_ ⟨bZ_, gP_⟩
                have p_0 := gP_.cell 0
                have p_1 := gP_.cell 1
                have p_2 := gP_.cell 2
                have p_3 := gP_.cell 3
                have p_l := gP_.lt
                refine bodyPost_ret (v := .tuple #[.agg #[.bool false, .slice none 0 0, .slice none 0 0, .slice none 0 0], .int .i64 2]) (by simp [results, Try.results22, go_sem, p_0, p_1, p_2, p_3, p_l]) rfl ⟨Or.inr ⟨e3.out, rfl⟩, bZ_⟩)

end Go.Proofs.Ytbmdnifkjcimcaa
